/- Own text: what the proof of wholeRepair_holds uses, part 4: rules, models and their proofs, plain laws. -/
import Derived.Test.YthgeinkfgcgjiaaGreatDoorWRC
set_option linter.unusedVariables false
set_option linter.unusedSimpArgs false
namespace Go.Proofs.YthgeinkfgcgjiaaGreatDoor
open Go Go.RowKit Go.Proofs.Tryz
section
open Go Go.RowKit
section
variable {P:Program}{n:Nat}{ops:Array Oper}{Q:X0}{rest:List Oper}{l:Env}{w:World}{d:Tmp}{ty:TypeId}{pos:String}{aft:Array Edge}
theorem Vc{b o:Nat}{v:Value}(a:w.cell? ⟨b,o,none⟩=some v):∃t k,w.shape? b=some (t,k+1):=by
  unfold World.cell? at a;unfold World.shape?
  dsimp only at a;generalize w.heap[b]?=q at a ⊢;cases q with
  |none=>simp at a
  |some  q =>
    cases q<;>first
      | (rename_i c e f
         have hc:o<c.size:=by
           simp only[Option.isSome_none,L0,if_false]at a;exact(B9.1 a).1
         exact⟨e,c.size-1,by rw[Nat.sub_add_cancel (by omega)]⟩)
      |simp at a
theorem Vd{tS tR e:TypeId}(u:P.underlying tS=some (.slice e)){size:Nat}(hz:∀w,(Go.sizeOf e).run P w=.ok size w){a:Addr}{g o l z m A:Nat}{v:TypeId}{cs:List Value}(c:a.block≠g)(hs:∃t k,w.shape? a.block=some (t,k+1))(hb:Blk w g v cs)(n:cs≠[]) :
    (Extern.SlicesOverlaps.overlaps #[tS,tS] #[tR] #[.slice (some a) l z,.slice (some ⟨g,o,none⟩) m A]).run P w=.ok (.bool false) w:=by
  obtain⟨B,kA,hsa⟩:=hs;have d:w.shape? g=some (v,cs.length):=(by unfold World.shape?;rw[show w.heap[g]?=_ from hb];simp);have p:=λi=>hb.frozen i;have q:(a.block != g)=true:=(by simpa using c);have f:(a.block==g)=false:=(by simpa using c);obtain⟨x,h,rfl⟩:∃x h,cs=x::h:=by
    cases cs with
    |nil=>exact absurd rfl n
    |cons a b=>exact⟨a,b,rfl⟩
  change Sem.run P (α:=Value) (do
    let some t:=(#[tS, tS] : Array TypeId)[0]? | stuck "slices.overlaps: no parameter types"
    let .slice j ← underlying t | stuck "slices.overlaps: slice type expected"
    let size <- sizeOf j
    match (some a:Option Addr),(some ⟨g,o,none⟩:Option Addr)with
    |some a,some b =>
      if l=0\/m=0\/size=0 then pure (Value.bool false)
      else if a.block != b.block&&(<- frozen a)&&(<- frozen b)then unsupported .addressObserved
      else do
        if a.block != b.block then do
          noView a;noView b
          if ← mayBeOne a b then return Value.bool ((← choose (.extern "sameAddr.stringBytes" 2))==1)
        pure (Value.bool (a.block==b.block&&a.off<b.off+m*size&&b.off<a.off+l*size))
    |_,_=>pure (Value.bool false)) w=_
  by_cases y:l=0\/m=0\/size=0
  . simp[run_underlying u,hz,y]
  . rw[M8]at d;cases r:w.frozen? a<;>cases s:w.frozen? { block:=a.block,off:=kA+1 }<;>simp[run_underlying u,hz,y,q,f,frozen,noView,viewAt,mayBeOne,stringish,shape,Sem.run,hsa,d,r,s,p]
theorem Ve{f : FuncId}{c : Func}{tS tR e : TypeId}[D : TSlice P tS e]{z : Value}{size bytes : Nat}[TInfo P e z size bytes](hf : P.funcs[f]?=some c)(b : (c.name == "runtime.NumGoroutine")=false)(h : c.body.isNone=true)(hn : Extern.findNext c=none)
    (he:Extern.find c=some (Extern.SlicesOverlaps.overlaps #[tS,tS] #[tR])) {x y:Operand} {a:Addr} {g o u v A B:Nat} {C:TypeId} {cs:List Value} {E:Array TypeId} (F:opv l x=some (.slice (some a) u v)) (G:opv l y=some (.slice (some ⟨g,o,none⟩) A B))
    (i:a.block≠g) (hs:∃t k,w.shape? a.block=some (t,k+1)) (hb:Blk w g C cs) (j:cs≠[]) (hd:Nat.blt d n=true) (H:owp P n ops Q rest ((d,.bool false)::l) w):owp P n ops Q (⟨some d,.call { callee:=.value (.func f),args:=#[x,y],argTypes:=E },ty,pos,aft,none⟩::rest) l w :=
  HL (w':=w) (λa' q m=>.inl ⟨.bool false,q,by
    have p:a'.eval (.func f)=.func (.func f) #[] #[]:=rfl;have r:Blk (dr w q) g C cs:=hb;have s:∃t k,(dr w q).shape? a.block=some (t,k+1):=hs;have hr:=run_callFunc_extern hf b h hn he #[.slice (some a) u v,.slice (some ⟨g,o,none⟩) A B] (dr w q);rw[Vd D.eq (λw=>DZ (P:=P) (t:=e) w) i s r j]at hr;simp[execOp,resolve,p,Deferred.ofValue,invoke,m.eval F,m.eval G,hr],m.put hd _⟩) H
theorem MB{s C e:TypeId}[E:TSlice P s e]{z:Value}{bytes:Nat}[hi:TInfo P e z 1 bytes]{x y:Operand}{g o m c b o' t D:Nat}{h:TypeId}{cs f:List Value}(hb:Blk w g h cs)(F:opv l x=some (.slice (some ⟨g,o,none⟩) m c))(G:opv l y=some (.slice (some ⟨b,o',none⟩) t D))
    (hs:cellsAt w b o' f) (hn:f.length=Nat.min t m) (i:o+f.length<=cs.length) (H:∀v∈f,v.oneCell'=true) (hd:Nat.blt d n=true)
    (J:∀w' u,Upd w w' g h (cs.take o++f++cs.drop (o+f.length))->owp P n ops Q rest ((d,u)::l) w'):owp P n ops Q (⟨some d,.call { callee:=.builtin .copy,args:=#[x,y],argTypes:=#[s,C] },ty,pos,aft,none⟩::rest) l w:=by
  have A:((P.info? e).map (·.size))=some 1:=(by obtain⟨I,e1,_,e3,_⟩:=hi.eq;rw[e1];simp[e3]);have p:w.heap[g]?=some (.cells cs.toArray h (0,0)):=hb;refine HL (w':=w.setRow g (cs.take o++f++cs.drop (o+f.length)).toArray) (λa q B=>.inl ⟨goInt f.length,q,?_,B.put hd _⟩) (J _ _ ⟨rfl,rfl,rfl,by simp,setRow_heap w g _ _ h (0,0) p,λk hk=>setRow_other w g k _ hk⟩);have r:(dr w q).heap[g]?=some (.cells cs.toArray h (0,0)):=p;have hr:=run_copy_row (P:=P) (dr w q) s C ty e g o m c ⟨b,o',none⟩ t D _ h f E.eq A r hn (λj v hj=>by
    rw[HT,KM];exact DY hs j v hj) (by simpa using i) H
  simp[execOp,resolve,invoke,builtin,B.eval F,B.eval G,hr];rfl
theorem Wy{t r e:TypeId}[I:TSlice P t e]{F:IntKind}[s:TInt P r F]{z:Value}{bytes:Nat}[hi:TInfo P e z 1 bytes]{x y:Operand}{b o m c k:Nat}{q:Int}{f:List Value}(J:opv l x=some (.slice (some ⟨b,o,none⟩) m c))(L:opv l y=some (.int .i64 q))(M:q=(k:Int))(N:cellsAt w b o f)(hl:f.length=m)
    (O:0<k) (hc:c<m+k) (h:(m+k)*bytes<=140737488355328) (R:m+k<=4611686018427387904) (hd:Nat.blt d n=true)
    (U:∀w' cap zs,New w w' e (f++zs)->m+k<=cap->cap<=9223372036854775807->(f++zs).length=cap->owp P n ops Q rest ((d,.slice (some ⟨w.heap.size,0,none⟩) (m+k) cap)::l) w'):owp P n ops Q (⟨some d,.call { callee:=.builtin .append,args:=#[x,y],argTypes:=#[t,r] },ty,pos,aft,none⟩::rest) l w :=
  Il λa g u K S=>by
    subst M;obtain⟨i,i1,i2,i3,i4⟩:=hi.eq;have p:(Builtin.firstCells i.size m (.slice (some ⟨b,o,none⟩) m c)).run P (dr w g).drew=.ok f.toArray (dr w g).drew:=by
      rw[i3];exact run_firstCells_some (w:=(dr w g).drew) 1 m ⟨b,o,none⟩ m c f (by omega) (λj v hj=>by rw[HT];exact DY N j v hj)
    have H:k*bytes<=140737488355328:=U8 (G8 _ (by omega)) h;have hr:=Lib.run_append_grow_zeros (P:=P) (dr w g) t r ty e i z .i64 F I.eq s.eq i1 i2 (some ⟨b,o,none⟩) m c f p k O (by omega) hc (by omega) (by rw[i4];omega) (by rw[i4];exact growslice_fits hc h);have A:(execOp a.eval ⟨some d,.call { callee:=.builtin .append,args:=#[x,y],argTypes:=#[t,r] },ty,pos,aft,none⟩).run P (dr w g)=.ok (.value (.slice (some ⟨(dr w g).heap.size,0,none⟩) (m+k) (grownCap (dr w g) (m+k) c e))) ((dr w g).drew.alloc (.cells (f.toArray++Builtin.zeroCells z.cells k++Builtin.zeroCells z.cells (grownCap (dr w g) (m+k) c e-(m+k))) e)):=by
      simp[execOp,resolve,invoke,builtin,u.eval J,u.eval L,hr]
    unfold Oper.wp;rw[A];have B:m+k<=grownCap (dr w g) (m+k) c e:=grownCap_ge _ _ _ _;have C:grownCap (dr w g) (m+k) c e<=maxLen:=grownCap_le_maxLen _ _ _ _ (by unfold maxLen;omega);have D:((dr w g).heap.size)=w.heap.size:=rfl;rw[D];have hz:∀k,(Builtin.zeroCells z.cells k).size=k:=λk=>(by simp[Builtin.zeroCells,hi.sz]);generalize grownCap (dr w g) (m+k) c e=G at *
    have E:f.toArray++Builtin.zeroCells z.cells k++Builtin.zeroCells z.cells (G-(m+k))=(f++((Builtin.zeroCells z.cells k).toList++(Builtin.zeroCells z.cells (G-(m+k))).toList)).toArray:=by
      apply N0.1;simp
    rw[E];have T:=New.mk' w e (f++((Builtin.zeroCells z.cells k).toList++(Builtin.zeroCells z.cells (G-(m+k))).toList));exact S _ ((dr w g).drew.alloc (.cells _ e)) (U _ G _ T B (by simpa[maxLen]using C) (by simp[hz];omega) _ _ (u.put hd _))
end
section
variable {P:Program}{l:Env}{w:World}{dst:Option Tmp}{ty:TypeId}{pos:String}{aft:Array Edge}
theorem QH{t e:TypeId}[TSlice P t e]{z:Value}{size bytes:Nat}[TInfo P e z size bytes]{x y:Operand}{k:IntKind}{g m c hi:Nat}{q:Int}(a:opv l x=some (.slice (some ⟨g,0,none⟩) m c))(b:opv l y=some (.int k q))(d:q=(hi:Int))(f:hi<=c) :
    Ev P ⟨dst,.slice t x none (some y) none,ty,pos,aft,none⟩ l w (.slice (some ⟨g,0,none⟩) hi c):=by
  have:=NQ (P:=P) (w:=w) (dst:=dst) (ty:=ty) (pos:=pos) (aft:=aft) (t:=t) a b d f;simpa[Addr.add]using this
theorem Ie{t e:TypeId}[TSlice P t e]{z:Value}{size bytes:Nat}[TInfo P e z size bytes]{x y:Operand}{k:IntKind}{g o m c lo:Nat}{q:Int}(a:opv l x=some (.slice (some ⟨g,o,none⟩) m c))(b:opv l y=some (.int k q))(d:q=(lo:Int))(hl:lo<=m)(hc:lo<c) :
    Ev P ⟨dst,.slice t x (some y) none none,ty,pos,aft,none⟩ l w (.slice (some ⟨g,o+lo*size,none⟩) (m-lo) (c-lo)):=by
  have:=KZ (P:=P) (w:=w) (dst:=dst) (ty:=ty) (pos:=pos) (aft:=aft) (t:=t) a b d hl;rw[if_neg (by omega),R0,HT]at this;exact this
end
theorem St.weak{b:Nat->Prop}{w w':World}{O a:Lab}(c:St nT w O w' a):St b w O w' a:=⟨c.os,c.tape,c.output,c.size,λk hk _=>c.same k hk λc=>c⟩
attribute [local irreducible] ewp owp hwp hwq hws Ev Evg Fn W6 X7 X4 X1
attribute [local irreducible] hwx YW
def AbQ{α:Type}(xs:List α)(i:Int)(ys:List α):Option (List α):=match ys with
  |[y]=>if 0<=i/\i<=(xs.length:Int)/\xs.length<=1000000 then some (xs.take i.toNat++y::xs.drop i.toNat)else none
  |_=>none
def Cc(xs:List (List Fct))(i:Int)(ys:List (List Fct)):Option (List (List Fct)):=AbQ xs i ys
theorem Hm{i:Nat}{w:World}{O:Lab}{v u:Value}{xs ys r:List (List Fct)}{k:Int}(hR:Rw i w O 23 v xs)(rk:W1 k)(hu:Vb w (Fr 0 w O) u ys)(hm:Cc xs k ys=some r) :
    Fn prog 117 [v,.int .i64 k,u] w λv' w'=>∃O',St (eT i) w O w' O'/\Rw i w' O' 23 v' r:=by
  obtain⟨y,rfl⟩:∃y,ys=[y]:=by
    unfold Cc AbQ at hm;split at hm
    . exact⟨_,rfl⟩
    . cases hm
  obtain⟨⟨hk0,hk1,hxl⟩,rfl⟩:=FV hm;obtain⟨j,rfl⟩:∃j:Nat,k=(j:Int):=⟨k.toNat,by omega⟩;rw[M6];obtain⟨A,c,rfl⟩:=hR.form;obtain⟨A2,c2,rfl⟩:=hu.form;obtain⟨_,hnc,hcm⟩:=hR.len;have f0:(([y].length:Nat):Int)=1:=rfl;have hgi:=hR.2.1;refine AG func117 rfl ntmps117 ?_;refine ab ?_;refine Au rfl (o_z ?_);refine ab ?_;refine Ar rfl (Ar rfl (YO rfl rfl rfl (o_z ?_) rfl (by omega)));refine ab ?_;refine Ar rfl (AO rfl (Au rfl (o_z ?_)));refine ab ?_;refine Ar rfl (EH rfl rfl (λh=>absurd h (by omega)) λ_=>o_z ?_);refine ab ?_;refine Ar rfl (AO rfl (Au rfl (o_z ?_)));refine ab ?_;refine Ar rfl (Ar rfl (EH rfl rfl (λh=>?_) λh=>?_))
  . have hj:j=xs.length:=(by omega);refine o_z ?_;refine ab ?_;refine Ar rfl (Ar rfl ?_);refine DH rfl hR hu.rd rfl rfl (by show(xs.length+1)*_<=_;omega) (by show xs.length+1<=_;omega) λA' c' w1 O1 S1 h1=>?_;refine Au rfl (o_z ?_);refine ab ?_;refine X2 rfl (AC rfl) ⟨O1,S1,?_⟩;rw[hj,P4,N9];exact h1
  have hj:j<xs.length:=(by omega);refine o_z ?_;obtain⟨g,cap,cells,sp,hv,hg,hFg,hb,hc,hlen,hnc',hcm',htot⟩:=hR.1.open (by omega);injection hv with e1 e2 e3;subst e1;subst e3;obtain⟨A3,c3,ucells,e0,hu1,hu2,hu3,hu4⟩:=hu.slice;injection e0 with e1 e2 e3;subst e1;subst e3;obtain⟨ub,uo,rfl,hFu,hat⟩:=hu4 Nat.zero_lt_one;have hul:ucells.length=1:=(by rw[hu3.length];rfl);have hcl:cells.length=xs.length:=(by rw[hlen];exact V6 _);have htl:(cells++sp).length=c:=(by rw[htot];exact V6 _);have hsl:cells.length+sp.length=c:=(by rw[<- htl,K0]);have hne:ub≠g:=λe=>hFg (e▸hFu);have hOg:O g=i:=hgi g rfl;have hu1c:=hu3.one;have hc1c:=hc.one;have hdl:(cells.drop j).length=xs.length-j:=(by rw[N7,hcl]);have htk:(cells.take j).length=j:=(by rw[N8,hcl];omega);have hch:∀{w':World}{O':Lab},Agree (Fr 0 w O) w w'->(∀k,Fr 0 w O k->Fr 0 w' O' k)->Chunks w' (Fr 0 w' O') (cells.take j++ucells++cells.drop j) (xs.take j++y::xs.drop j):=λha hf=>by
    have h1:=hc.take j;have h2:=hc.drop j;rw[show j*Rp.size (List Fct)=j from V6 j]at h1 h2;have h3:=((h1.append hu3).append h2);rw[show xs.take j++[y]++xs.drop j=xs.take j++y::xs.drop j by simp]at h3;exact(h3.agree ha).mono hf
  have hrl:(xs.take j++y::xs.drop j).length=xs.length+1:=(by simp;omega);refine ab ?_;refine Ar rfl (Ar rfl (Hu rfl rfl ?_ (by omega)));refine Ar rfl (AT (XQ rfl) rfl (Cq rfl rfl (λhgt=>?_) λhgt=>?_))
  . refine o_z ?_;refine ab ?_;refine Ar rfl (Ar rfl (AT (QH (hi:=j) rfl rfl rfl (by omega)) rfl ?_));refine Ar rfl (Ar rfl (Hu rfl rfl ?_ (by omega)));refine Ar rfl (YP rfl rfl rfl ?_ (by omega));have hat0:cellsAt w g 0 (cells.take j):=(Dt.1 (show cellsAt w g 0 (cells.take j++(cells.drop j++sp))by rw[<- L8,F4];exact hb.cellsAt)).1;refine Wy (k:=xs.length+1-j) rfl rfl (by omega) hat0 htk (by omega) (by omega) (by omega) (by omega) rfl λw1 cp zs hN hge hle hlz=>?_;have hzl:j+zs.length=cp:=(by rw[<- hlz,K0,htk]);refine Au rfl (o_z ?_);refine ab ?_;refine Ar rfl (Ar rfl (AT (Ie (lo:=j) rfl rfl rfl (by omega) (by omega)) rfl (Ar rfl ?_)));have hat1:=DD (hN.ext.agree Fr.lt) hFu hat;refine MB hN.blk rfl rfl hat1 (by rw[hul];show 1=min 1 _;omega) (by rw[hul,hlz];omega) hu1c rfl λw2 _ U2=>?_;refine o_z ?_;have d0:=hN.upd U2;have hat2:cellsAt w2 g (0+j*1) (cells.drop j):=by
      rw[V6,U4];have h0:cellsAt w g (0+(cells.take j).length) (cells.drop j++sp):=(Dt.1 (show cellsAt w g 0 (cells.take j++(cells.drop j++sp))by rw[<- L8,F4];exact hb.cellsAt)).2;rw[htk,U4]at h0;exact DD (d0.ext.agree (F:=λk=>k=g) λk hk=>hk▸hb.lt) rfl (Dt.1 h0).1
    refine ab ?_;refine Ct (·=w2) [(0,true),(1,true),(2,true),(3,true),(4,true),(5,true),(6,true),(7,true),(8,false)] rfl rfl ?_;refine AM rfl rfl (AM rfl rfl (AM rfl rfl (AB rfl (HX (JA rfl rfl (by omega)) rfl ?_))));refine AB rfl (HX (Ie (lo:=j+1) rfl rfl (by omega) (by omega) (by omega)) rfl ?_);refine AM rfl rfl (AM rfl rfl (AB rfl (HX (Ie (lo:=j) rfl rfl rfl (by omega) (by omega)) rfl ?_)));have a0:((cells.take j++zs).take (0+j*1)++ucells++(cells.take j++zs).drop (0+j*1+ucells.length)).length=cp:=by
      simp only[K0,N8,N7,hul,htk];omega
    refine BZ rfl (MB U2.blk rfl rfl hat2 (by rw[hdl];show _=min _ _;omega) (by rw[a0,hdl];omega) (λv hv=>hc1c v (H8 hv)) rfl λw3 _ U3=>Gl (h_z ?_));refine ab ?_;refine Ar rfl (Au rfl (o_z ?_));refine ab ?_;have b0:=d0.upd U3;have hS:=b0.ext.st O λ_=>i;refine X2 rfl (AC rfl) ⟨_,hS.weak,?_⟩;have hcs:∃rs:List Value,((cells.take j++zs).take (0+j*1)++ucells++(cells.take j++zs).drop (0+j*1+ucells.length)).take (0+(j+1)*1)++cells.drop j++((cells.take j++zs).take (0+j*1)++ucells++(cells.take j++zs).drop (0+j*1+ucells.length)).drop (0+(j+1)*1+(cells.drop j).length)=(cells.take j++ucells++cells.drop j)++rs:=by
      refine⟨((cells.take j++zs).take (0+j*1)++ucells++(cells.take j++zs).drop (0+j*1+ucells.length)).drop (0+(j+1)*1+(cells.drop j).length),?_⟩;congr 2;have h1:(cells.take j++zs).take (0+j*1)=cells.take j:=(by rw[B6 (by rw[htk];omega),E5 (by rw[htk];omega)]);rw[h1,B6 (by rw[K0,htk,hul];omega),E5 (by rw[K0,htk,hul];omega)]
    obtain⟨rs,hrs⟩:=hcs;have hb3:=b0.blk;have c0:=congrArg List.length hrs;rw[hrs]at hb3;have:=Own.close (base:=0) (F:=Fr 0 w3 (upO O w.heap.size λ_=>i)) (cap:=cp) (V5 _) (λh=>hR.2.2 ((Fh (V2 _)).symm.trans h.2)) hb3 (hch (b0.ext.agree Fr.lt) (hS.fr λh=>h)) (by rw[hrl];omega) hle (by
      rw[<- c0];simp only[K0,N8,N7,hul,htk,hcl];rw[show Rp.size (List Fct)=1 from rfl];omega)
    rw[hrl]at this;rw[show j+(xs.length+1-j)=xs.length+1 by omega];exact this.rw (λk h=>h) (λg' hg'=>by
      have:w.heap.size=g':=(by simpa[Value.ownBlock]using hg');subst this;exact Fh (V2 _)) hR.2.2
  . refine o_z ?_;refine ab ?_;refine Ar rfl (Ar rfl (Ar rfl (Hu rfl rfl ?_ (by omega))));refine AT (QH (hi:=xs.length+1) rfl rfl (by omega) (by omega)) rfl (Au rfl (o_z ?_));refine ab ?_;refine Ar rfl (Ar rfl (Ar rfl (Ar rfl (Hu rfl rfl ?_ (by omega)))));refine AT (Ie (lo:=j+1) rfl rfl (by omega) (by omega) (by omega)) rfl ?_;obtain⟨u0,hu0⟩:∃u0,ucells[0]?=some u0:=⟨ucells[0],D1 (by omega)⟩;refine Ve (tS:=86) (tR:=4) func139 (by kernel_rfl) (by kernel_rfl) (by kernel_rfl) (by kernel_rfl) rfl rfl hne (Vc (DY hat 0 u0 hu0)) hb (by intro e;rw[e]at htl;simp at htl;omega) rfl ?_;refine Em rfl (o_z ?_);refine ab ?_;refine Ct (·=w) [(0,true),(1,true),(2,true),(3,true),(4,true),(5,true),(6,true),(7,true),(8,false)] rfl rfl ?_;refine AM rfl rfl (AM rfl rfl (AM rfl rfl (AB rfl (HX (JA rfl rfl (by omega)) rfl ?_))));refine AB rfl (HX (Ie (lo:=j+1) rfl rfl (by omega) (by omega) (by omega)) rfl ?_);refine AM rfl rfl (AM rfl rfl (AB rfl (HX (Ie (lo:=j) rfl rfl rfl (by omega) (by omega)) rfl ?_)));have hat2:cellsAt w g (0+j*1) (cells.drop j):=by
      have h0:cellsAt w g (0+(cells.take j).length) (cells.drop j++sp):=(Dt.1 (show cellsAt w g 0 (cells.take j++(cells.drop j++sp))by rw[<- L8,F4];exact hb.cellsAt)).2;rw[htk]at h0;rw[V6];exact(Dt.1 h0).1
    refine BZ rfl (MB hb rfl rfl hat2 (by rw[hdl];show _=min _ _;omega) (by rw[htl,hdl];omega) (λv hv=>hc1c v (H8 hv)) rfl λw2 _ U2=>Gl (h_z ?_));refine ab ?_;have a0:((cells++sp).take (0+(j+1)*1)++cells.drop j++(cells++sp).drop (0+(j+1)*1+(cells.drop j).length)).length=c:=by
      simp only[K0,N8,N7,hcl];omega
    refine Ar rfl (Ar rfl (AT (Ie (lo:=j) rfl rfl rfl (by omega) (by omega)) rfl (Ar rfl ?_)));have hat3:=DD (U2.agree (F:=Fr 0 w O) hFg) hFu hat;refine MB U2.blk rfl rfl hat3 (by rw[hul];show 1=min 1 _;omega) (by rw[hul,a0];omega) hu1c rfl λw3 _ U3=>?_;refine o_z ?_;refine ab ?_;refine Ar rfl (Au rfl (o_z ?_));refine ab ?_;have S2:=U2.st hOg;have S3:=U3.st hOg;have hS:St (eT i) w O w3 O:=S2.comp S3 λ_ h=>h;refine X2 rfl (AC rfl) ⟨O,hS,?_⟩;have hcs:∃rs:List Value,((cells++sp).take (0+(j+1)*1)++cells.drop j++(cells++sp).drop (0+(j+1)*1+(cells.drop j).length)).take (0+j*1)++ucells++((cells++sp).take (0+(j+1)*1)++cells.drop j++(cells++sp).drop (0+(j+1)*1+(cells.drop j).length)).drop (0+j*1+ucells.length)=(cells.take j++ucells++cells.drop j)++rs:=by
      refine⟨(cells++sp).drop (0+(j+1)*1+(cells.drop j).length),?_⟩;have hl:((cells++sp).take (0+(j+1)*1)).length=j+1:=(by rw[N8,htl];omega);rw[L8 ((cells++sp).take _),B6 (by rw[hl];omega),List.take_take,Q8 (by omega),List.drop_append_of_le_length (by rw[hl,hul];omega),List.drop_of_length_le (by rw[hl,hul];omega),B6 (by rw[hcl];omega)];rw[show 0+j*1=j by omega];simp
    obtain⟨rs,hrs⟩:=hcs;have hb3:=U3.blk;have c0:=congrArg List.length hrs;rw[hrs]at hb3;have:=Own.close (base:=0) (F:=Fr 0 w3 O) (cap:=c) (V5 _) (λh=>hR.2.2 (hOg.symm.trans h.2)) hb3 (hch (hS.agree λh=>hR.2.2 h.symm) (hS.fr λh=>hR.2.2 h.symm)) (by rw[hrl];omega) hcm (by
      rw[<- c0];simp only[K0,N8,N7,hul,hcl];rw[show Rp.size (List Fct)=1 from rfl];omega)
    rw[hrl]at this;exact this.rw (λk h=>h) (λg' hg'=>by
      have:g=g':=(by simpa[Value.ownBlock]using hg');subst this;exact hOg) hR.2.2
end
section
open Go Go.RowKit
section
variable {P:Program}{n:Nat}{ops:Array Oper}{Q:X0}{rest:List Oper}{l:Env}{w:World}{d:Option Tmp}{ty:TypeId}{pos:String}{aft:Array Edge}
theorem TV{t h:TypeId}[TSlice P t h]{z:Value}{size bytes:Nat}[TInfo P h z size bytes]{x:Operand}{g o m c:Nat}{b:TypeId}{cs:List Value}(r:opv l x=some (.slice (some ⟨g,o,none⟩) (m+1) c))
    (hb:Blk w g b cs) (hl:o+(m+1)*size<=cs.length) (s:∀u∈z.cells.toList,u.oneCell'=true)
    (A:∀w',Upd w w' g b (W9 cs o (Builtin.zeroCells z.cells (m+1)).toList)->owp P n ops Q rest l w'):owp P n ops Q (⟨none,.call { callee:=.builtin .clear,args:=#[x],argTypes:=#[t] },ty,pos,aft,none⟩::rest) l w:=λa e q=>by
  refine wpList_plain rfl λK v=>?_;have j:Blk (dr w e) g b cs:=hb;have k:z.cells.size=size:=(TInfo.sz P h (z:=z) (bytes:=bytes));have d:(Builtin.zeroCells z.cells (m+1)).toList.length=(m+1)*size:=(by simp[Builtin.zeroCells,k]);obtain⟨w',hr,hu,hd⟩:=Hg (P:=P) g b o (Builtin.zeroCells z.cells (m+1)).toList 0 cs (dr w e) j (by rw[d];omega) (λu hu=>by
    unfold Builtin.zeroCells at hu;simp only[Array.toList_map,U9]at hu;obtain⟨i,hi,rfl⟩:=hu;have f:i<(m+1)*z.cells.size:=(by simpa using hi);have y:0<z.cells.size:=Nat.pos_of_ne_zero λe=>(by rw[e]at f;simp at f);have hlt:=Nat.mod_lt i y;rw[getElem!_pos z.cells _ hlt];exact s _ (by simp))
  have p:Upd w w' g b (W9 cs o (Builtin.zeroCells z.cells (m+1)).toList):=⟨hu.os,hu.tape,hu.output,hu.size,hu.blk,hu.other⟩;unfold Oper.wp;have:(execOp a.eval ⟨none,.call { callee:=.builtin .clear,args:=#[x],argTypes:=#[t] },ty,pos,aft,none⟩).run P (dr w e)=.ok (.value (.tuple #[])) w':=by
    simp[execOp,resolve,invoke,builtin,Builtin.clear_,q.eval r,run_underlying (TSlice.eq (P:=P) (t:=t)),HH (P:=P) (t:=h) (z:=z),hr]
  rw[this];exact v _ _ (A w' p a w'.drawn q)
end
end
section
open Go Go.RowKit
def Zv(p:Fct):List Fct->List Fct
  |[]=>[]
  |a::l=>if p.var=a.var/\p.val=a.val then Zv a l else a::Zv a l
def Zd:List Fct->List Fct
  |[]=>[]
  |a::l=>a::Zv a l
theorem Pw:∀(l:List Fct)(p a:Fct),Zv p (l++[a])=Zv p l++(if(l.getLastD p).var=a.var/\(l.getLastD p).val=a.val then[]else[a])
  |[],p,a=>by simp[Zv]
  |b::l,p,a=>by
    simp only[M9,Zv];rw[Pw l b a];have:(b::l).getLastD p=l.getLastD b:=(by cases l<;>rfl);rw[this];split<;>simp
theorem Px{xs:List Fct}{k:Nat}{p a:Fct}(b:xs[k]?=some p)(c:xs[k+1]?=some a):Zd (xs.take (k+2))=Zd (xs.take (k+1))++(if p.var=a.var∧p.val=a.val then[]else[a]):=by
  cases xs with
  |nil=>simp at b
  |cons x xs =>
    rw[List.getElem?_cons_succ]at c;rw[I6,I6,M2,c,Option.toList_some];simp only[Zd];rw[Pw,M9];have:(xs.take k).getLastD x=p:=by
      cases k with
      |zero=>simpa using b
      |succ k =>
        rw[List.getElem?_cons_succ]at b;rw[M2,b,Option.toList_some];simp
    rw[this]
theorem QI{xs:List Fct}(c:xs.length<2):Zd xs=xs:=by
  match xs with
  |[]=>rfl
  |[a]=>rfl
  |a::b::l=>simp at c;omega
theorem MU{L:List Fct}{k:Nat}{f:Fct}(hk:L[k]?=some f):L.flatMap encM=(L.take k).flatMap encM++(encM f++(L.drop (k+1)).flatMap encM):=by
  have hlt:=AF hk;conv=>lhs;rw[<- F4 k L,C5 hlt]
  rw[D1 hlt]at hk;rw[Q1 hk,I7,M1]
theorem Abb{w:World}{g:Nat}{e:TypeId}{L:List Fct}{sp:List Value}(hb:Blk w g e (L.flatMap encM++sp)){k:Nat}{f:Fct}(hk:L[k]?=some f):cellsAt w g (0+k*2) [.int .i64 f.var,.int .i64 f.val]:=by
  have a:=hb.cellsAt;rw[MU hk,L8,L8]at a;have b:=(Dt.1 a).2;rw[DS,N8,Q8 (Nat.le_of_lt (AF hk))]at b;exact(Dt.1 b).1
theorem AcR{L:List Fct}{sp:List Value}{k:Nat}(f:Fct)(hk:k<L.length):W9 (L.flatMap encM++sp) (0+k*2) (encM f)=(L.set k f).flatMap encM++sp:=by
  have a:=MU (D1 hk);have b:((L.take k).flatMap encM).length=0+k*2:=(by rw[DS,N8,Q8 (Nat.le_of_lt hk),U4]);rw[a,L8,L8,<- b,Gt (encM f) _ (encM L[k]) _ rfl,List.set_eq_take_append_cons_drop,if_pos hk];simp
theorem AcB{L:List Fct}{sp zs:List Value}{k:Nat}(hk:k<=L.length)(hz:zs.length=(L.length-k)*2):W9 (L.flatMap encM++sp) (0+k*2) zs=(L.take k).flatMap encM++(zs++sp):=by
  have a:((L.take k).flatMap encM).length=0+k*2:=(by rw[DS,N8,Q8 hk,U4]);conv=>lhs;rw[<- F4 k L]
  rw[I7,L8,<- a,Gt _ _ _ _ (by rw[DS,hz,N7])]
def Eg(xs:List Fct):Option (List Fct):=some (Zd xs)
attribute [local irreducible] ewp owp hwp hwq hws Ev Evg Fn W6 X7 X4 X1
attribute [local irreducible] hwx YW
theorem Hn{i:Nat}{w:World}{O:Lab}{v:Value}{xs r:List Fct}(f:Rw i w O 61 v xs)(hm:Eg xs=some r) :
    Fn prog 156 [v] w λP w'=>∃J,St (eT i) w O w' J/\Rw i w' J 61 P r:=by
  obtain rfl:=Q1 hm;obtain⟨A,c,rfl⟩:=f.form;obtain⟨_,hnc,hcm⟩:=f.len;have y:=f.2.1;refine AG func156 rfl ntmps156 ?_;refine ab ?_;refine Au rfl (o_z ?_);refine ab ?_;refine Ar rfl (AO rfl (Cp rfl rfl (λZ=>?_) λZ=>?_))
  . refine o_z ?_;refine ab ?_;refine Ar rfl (Au rfl (o_z ?_));refine ab ?_;refine X2 rfl (AC rfl) ⟨O,St.refl _ _ _,?_⟩;rw[QI (by omega)];exact f
  refine o_z ?_;have Q:2<=xs.length:=(by omega);obtain⟨g,cap,cells,sp,hv,hg,hFg,hb,hc,hlen,hnc',hcm',htot⟩:=f.1.open (by omega);injection hv with z W R;subst z;subst R;obtain⟨rfl,hin⟩:=Lf hc;have e:O g=i:=y g rfl;refine ab ?_;refine Au rfl (o_z ?_);refine ab ?_;refine FS (λk:Nat=>[(0,.slice (some ⟨g,0,none⟩) xs.length c),(3,.int .i64 (k:Int))]) (λk w'=>w'=w/\1<=k/\k<=xs.length/\Zd (xs.take k)=xs.take k) (λk=>xs.length-k) 1 ⟨rfl,V2 _,by omega,QI (by rw[N8];omega)⟩ D4 ?_;rintro k X ⟨S,hk1,hkn,hkc⟩;have z:=S.symm;subst z;refine ab ?_;refine Ar rfl (Ar rfl (AO rfl (Cp rfl rfl (λZ=>?_) λZ=>?_)))
  . refine o_z ?_;have h:k<xs.length:=(by omega);obtain⟨a,ha⟩:∃a,xs[k]?=some a:=⟨_,D1 h⟩;obtain⟨p,hp⟩:∃p,xs[k-1]?=some p:=⟨_,D1 (by omega)⟩;have d:=Px hp (by rw[Nat.sub_add_cancel hk1];exact ha);rw[show k-1+2=k+1 by omega,show k-1+1=k by omega]at d;refine ab ?_;refine Ct (·=w) [(0,true),(1,true),(2,true),(3,true),(4,true),(5,true),(6,true),(7,true),(8,true),(9,true)] rfl rfl ?_;refine AM rfl rfl (AM rfl rfl (CX (hA:=rfl) (hj:=rfl) (hlt:=h) rfl rfl rfl (Qf (hc:=Abb hb ha) rfl rfl rfl ?_)));refine AM rfl rfl (AM rfl rfl (AB rfl (HX (LG rfl rfl (by omega)) rfl ?_)));refine CX (j:=k-1) (hA:=rfl) (hj:=by omega) (hlt:=by omega) rfl rfl rfl (Qf (hc:=Abb hb hp) rfl rfl rfl ?_);refine Yp rfl rfl rfl rfl (λhe=>?_) λhe=>?_
    . rw[if_pos ⟨he.1.symm,he.2.symm⟩,Q5]at d;refine h_z ?_;refine ab ?_;refine Ar rfl (Ar rfl (AT (Ie (lo:=k) rfl rfl rfl hkn (by omega)) rfl (Au rfl (o_z ?_))));refine ab ?_;refine Au rfl (o_z ?_);refine ab ?_;refine FS (λq:Nat×Nat=>[(0,.slice (some ⟨g,0,none⟩) xs.length c),(3,.int .i64 (q.1:Int)),(4,.slice (some ⟨g,0+k*2,none⟩) (xs.length-k) (c-k)),(5,.int .i64 (q.2:Int))])
        (λq w'=>St (eT i) w O w' O/\1<=q.2/\k+q.2<=xs.length/\q.1+1<=k+q.2/\∃L:List Fct,L.length=xs.length/\Blk w' g 61 (L.flatMap encM++sp)/\(∀x∈L,W1 x.var/\W1 x.val)/\L.take q.1=Zd (xs.take (k+q.2))/\∀j,k+q.2<=j+1->L[j]?=xs[j]?)
        (λq=>xs.length-q.2) (k,1) ⟨St.refl _ _ _,V2 _,h,V2 _,xs,rfl,hb,hin,by rw[d,hkc],λ_ _=>rfl⟩ A1 ?_
      rintro⟨q,m⟩ w1 ⟨S1,hm1,hmn,hqm,L,hL,hb1,hin1,htk,hrd⟩;dsimp only at S1 hm1 hmn hqm hb1 htk hrd ⊢;refine ab ?_;refine Ar rfl (Ar rfl (AO rfl (Cp rfl rfl (λB=>?_) λB=>?_)))
      . refine o_z ?_;have s:m<xs.length-k:=(by omega);obtain⟨b,hbx⟩:∃b,xs[k+m]?=some b:=⟨_,D1 (by omega)⟩;obtain⟨Y,hbp⟩:∃b,xs[k+(m-1)]?=some b:=⟨_,D1 (by omega)⟩;have t:=Px hbp (by rw[show k+(m-1)+1=k+m by omega];exact hbx);rw[show k+(m-1)+2=k+(m+1)by omega,show k+(m-1)+1=k+m by omega]at t;have C:=Abb hb1 ((hrd (k+m) (by omega)).trans hbx);have K:=Abb hb1 ((hrd (k+(m-1)) (by omega)).trans hbp);rw[show 0+(k+m)*2=0+k*2+m*2 by omega]at C;rw[show 0+(k+(m-1))*2=0+k*2+(m-1)*2 by omega]at K;refine ab ?_;refine Ct (·=w1) [(0,true),(1,true),(2,true),(3,true),(4,true),(5,true),(6,true),(7,true),(8,true),(9,true)] rfl rfl ?_;refine AM rfl rfl (AM rfl rfl (CX (hA:=rfl) (hj:=rfl) (hlt:=s) rfl rfl rfl (Qf (hc:=C) rfl rfl rfl ?_)));refine AM rfl rfl (AM rfl rfl (AB rfl (HX (LG rfl rfl (by omega)) rfl ?_)));refine CX (j:=m-1) (hA:=rfl) (hj:=by omega) (hlt:=by omega) rfl rfl rfl (Qf (hc:=K) rfl rfl rfl ?_);refine Yq rfl rfl rfl rfl (λl=>?_) λl=>?_
        . rw[if_neg λhe=>l ⟨he.1.symm,he.2.symm⟩]at t;refine h_z ?_;refine ab ?_;refine Ar rfl (Ar rfl (Ar rfl (Ar rfl (BA (hA:=rfl) (hj:=rfl) (hlt:=s) rfl rfl (BE (hc:=C) rfl (BA (hA:=rfl) (hj:=rfl) (hlt:=(by omega:q<xs.length)) rfl rfl ?_))))));refine AR (⟨hb1,e⟩:Lc i w1 O g _ _) rfl rfl rfl (by rw[K0,DS];show 0+q*2+2<=_;omega) (allOne) λD E B=>?_;refine o_z ?_;refine ab ?_;refine Ar rfl (GY rfl (Au rfl (o_z ?_)));refine ab ?_;refine Ar rfl (GY rfl (Au rfl (o_z ?_)));refine⟨(q+1,m+1),A1,⟨S1.comp E λ_ Z=>Z,by dsimp only;omega,by dsimp only;omega,by dsimp only;omega,L.set q b,by rw[Q7,hL],?_,λx G=>?_,?_,λj hj=>?_⟩,by dsimp only;omega⟩
          . have T:=B.1;rw[<- AcR b (by omega)];exact T
          . rcases List.mem_or_eq_of_mem_set G with Z|rfl
            . exact hin1 x Z
            . exact hin x (H1 hbx)
          . dsimp only;rw[t,<- htk,M2,E9 (by omega),List.take_set_of_le (V2 _)];rfl
          . dsimp only at hj;rw[H7 (by omega),hrd j (by omega)]
        . rw[if_pos (by have:=Classical.not_not.1 l;exact⟨this.1.symm,this.2.symm⟩),Q5]at t;refine h_z ?_;refine ab ?_;refine Ar rfl (GY rfl (Au rfl (o_z ?_)));exact⟨(q,m+1),A1,⟨S1,by dsimp only;omega,by dsimp only;omega,by dsimp only;omega,L,hL,hb1,hin1,by dsimp only;rw[t,htk],λj hj=>hrd j (by dsimp only at hj;omega)⟩,by dsimp only;omega⟩
      . refine o_z ?_;have H:k+m=xs.length:=(by omega);rw[H,P4]at htk;obtain⟨M,hm'⟩:∃M,xs.length-q=M+1:=⟨xs.length-q-1,by omega⟩;refine ab ?_;refine Ar rfl (Ar rfl (AT (Ie (lo:=q) rfl rfl rfl (by omega) (by omega)) rfl ?_));rw[hm'];refine TV rfl hb1 (by rw[K0,DS];omega) (allOne) λD N=>?_;refine o_z ?_;refine ab ?_;refine Ar rfl (Ar rfl (AT (QH (hi:=q) rfl rfl rfl (by omega)) rfl (Au rfl (o_z ?_))));refine ab ?_;have E:=N.st e;have U:St (eT i) w O D O:=S1.comp E λ_ Z=>Z;have u:=N.blk;rw[AcB (by omega) (by simp[Builtin.zeroCells,hL,hm',Value.cells])]at u;refine X2 rfl (AC rfl) ⟨O,U,?_⟩;have n:(L.take q).length=q:=(by rw[N8];omega);have o:((xs.flatMap encM)++sp).length=c*2:=htot;have:=Own.close (base:=0) (F:=Fr 0 D O) (cap:=c) (xs:=L.take q) (V5 _) (λZ=>f.2.2 (e.symm.trans Z.2)) u (Lg λx G=>hin1 x (List.mem_of_mem_take G)) (by rw[n];omega) hcm (by
          show _=c*2;rw[<- o];simp only[K0,DS,n,Builtin.zeroCells,I2,Array.size_map,Array.size_range,Value.cells];simp;omega)
        rw[n,htk]at this;exact this.rw (λk Z=>Z) (λV I=>by
          have:g=V:=(by simpa[Value.ownBlock]using I);subst this;exact e) f.2.2
    . rw[if_neg λZ=>he ⟨Z.1.symm,Z.2.symm⟩,hkc]at d;refine h_z ?_;refine ab ?_;refine Ar rfl (GY rfl (Au rfl (o_z ?_)));exact⟨k+1,D4,⟨rfl,by omega,by omega,by rw[d,M2,ha];rfl⟩,by omega⟩
  . refine o_z ?_;refine ab ?_;refine Ar rfl (Au rfl (o_z ?_));refine ab ?_;refine X2 rfl (AC rfl) ⟨O,St.refl _ _ _,?_⟩;have:k=xs.length:=(by omega);rw[this,P4]at hkc;rw[hkc];exact f
end
section
open Go Go.RowKit Go.Lib Go.Sort
def Gr(a w:World):Prop:=Ext a w/\a.drawn<=w.drawn
theorem Gr.refl(a:World):Gr a a:=⟨V8 _ _,V2 _⟩
theorem Gr.trans{a w w':World}(b:Gr a w)(k:Gr w w'):Gr a w':=⟨⟨k.1.os.trans b.1.os,k.1.tape.trans b.1.tape,k.1.output.trans b.1.output,U8 b.1.size k.1.size,λj hj=>(k.1.block j (K1 hj b.1.size)).trans (b.1.block j hj)⟩,U8 b.2 k.2⟩
theorem Gr.grow{n w:World}(o:Gr n w):∃q os,w=grow (n.drewN q) os:=by
  obtain⟨⟨j,h2,h3,h4,h5⟩,h6⟩:=o;refine⟨w.drawn-n.drawn,w.heap.extract n.heap.size w.heap.size,?_⟩;cases n with|mk a k e os c =>
  cases w with|mk f g d l b =>
  dsimp only at j h2 h3 h4 h5 h6;subst j;subst h2;subst h3;unfold Go.Sort.grow World.drewN;dsimp only;congr 1
  . apply Array.ext
    . simp;omega
    . intro i h m;by_cases hi:i<a.size
      . rw[Array.getElem_append_left hi];have:=h5 i hi;rw[C7 hi,C7 h]at this;exact Q1 this
      . rw[Array.getElem_append_right (by omega),Array.getElem_extract];congr 1;omega
  . omega
theorem Gr.of_grow{a w:World}(b:∃q os,w=Go.Sort.grow (a.drewN q) os):Gr a w:=by
  obtain⟨q,os,rfl⟩:=b;refine⟨⟨rfl,rfl,rfl,?_,λk hk=>?_⟩,?_⟩
  . show a.heap.size<=(a.heap++os).size;simp
  . show(a.heap++os)[k]?=a.heap[k]?
    rw[B8 hk]
  . show a.drawn<=a.drawn+q;omega
section
variable {P:Program}{n:Nat}{Q:X0}{ops:Array Oper}{rest:List Oper}{l:Env}{w:World}{d:Tmp}{ty:TypeId}{pos:String}{aft:Array Edge}
theorem TW{c:Code}(E:Nat→Env)(I:Nat→World→Prop)(N d:Nat)(hs:W4 l (E d))(p:I d w)
    (f:∀k w,I k w->k<=N/\ZN P n c (thn (λr w'=>W4 r (E (k+1))/\I (k+1) w') Q) (E k) w):ZN P n (.loop c) Q l w:=by
  intro a D;have s:∀a' w',(∃k,Ok n a' (E k)/\I k w')->∃m,(∃k,Ok n a' (E k)/\I k w'/\N-k=m)/\∀k,Ok n a' (E k)->I k w'->m<=N-k:=by
    intro a' w' ⟨k,B,h3⟩;have:∀(q k:Nat),N-k<=q->Ok n a' (E k)->I k w'->∃m,(∃k,Ok n a' (E k)/\I k w'/\N-k=m)/\∀k,Ok n a' (E k)->I k w'->m<=N-k:=by
      intro q
      induction q with
      |zero=>intro k o t u;exact⟨N-k,⟨k,t,u,rfl⟩,λ_ _ _=>by omega⟩
      |succ q F =>
        intro k o t u;by_cases C:∃g,Ok n a' (E g)/\I g w'/\N-g<=q
        . obtain⟨g,y,z,g3⟩:=C;exact F g g3 y z
        . refine⟨N-k,⟨k,t,u,rfl⟩,λg y z=>?_⟩;rcases T9 (N-g) (N-k)with h|h
          . exact absurd ⟨g,y,z,by omega⟩ C
          . exact h
    exact this _ k (V2 _) B h3
  refine wp_loop (λa' w'=>∃k,Ok n a' (E k)/\I k w') (λa' w'=>Classical.epsilon λm=>(∃k,Ok n a' (E k)/\I k w'/\N-k=m)/\∀k,Ok n a' (E k)->I k w'->m<=N-k) ⟨d,D.sub hs,p⟩ ?_;intro a' w' v;obtain⟨⟨k,t,u,hk⟩,_⟩:=E4 (s a' w' v);obtain⟨G,hr⟩:=f k w' u;refine T7 (λe A x hl=>?_) (hr a' t);obtain⟨hn,r,ho',o⟩:=hl;cases e with
  |normal =>
    obtain⟨j,hI₂⟩:=o;have b:=ho'.sub j;refine⟨⟨k+1,b,hI₂⟩,?_⟩;obtain⟨_,hmin⟩:=E4 (s A x ⟨k+1,b,hI₂⟩);have H:=hmin (k+1) b hI₂;have B:=(f (k+1) x hI₂).1;exact J8 H (J9 (by omega) hk)
  |panic c=>exact hn.elim
  |outgrown=>exact hn.elim
  |exit i=>exact⟨trivial,r,ho',o⟩
  |goto i=>exact⟨trivial,r,ho',o⟩
  |ret=>exact⟨trivial,r,ho',o⟩
theorem TX{f:FuncId}[hf:Callable P f]{xs:List Operand}{vs:List Value}{h:Array TypeId}{R:Value->World->Prop}(k:X5 l xs=some vs)(hd:Nat.blt d n=true)(hc:Calls P f vs.toArray w λe w'=>∃v,e=.returned v/\R v w')
    (o:∀v w',R v w'->ZE P n ops Q rest ((d,v)::l) w'):ZE P n ops Q (⟨some d,.call { callee:=.value (.func f),args:=xs.toArray,argTypes:=h },ty,pos,aft,none⟩::rest) l w :=
  fun a i=>wpList_plain rfl λK m=>by
    obtain⟨j,h1,h2,h3⟩:=hf.eq;have b:¬j.body=none:=λe=>(by rw[e]at h2;simp at h2);have c : ¬j.name = "runtime.NumGoroutine" := fun e=>by rw[e]at h3; simp at h3
    unfold Oper.wp;have g:a.eval (.func f)=.func (.func f) #[] #[]:=rfl;have:(execOp a.eval ⟨some d,.call { callee:=.value (.func f),args:=xs.toArray,argTypes:=h },ty,pos,aft,none⟩).run P w=.ok (.enter f vs.toArray) w:=by
      simp[execOp,resolve,g,Deferred.ofValue,invoke,callFunc,h1,b,c,i.evals k]
    rw[this];exact hc.mono λ_ _ ⟨v,he,hR⟩=>by subst he;exact m _ _ (o v _ hR _ (i.put hd v))
theorem Tg{f:FuncId}[hf:Callable P f]{y:Operand}{xs:List Operand}{vs:List Value}{h:Array TypeId}{R:Value->World->Prop}(j:opv l y=some (.func (.func f) #[] #[]))(k:X5 l xs=some vs)(hd:Nat.blt d n=true)(hc:Calls P f vs.toArray w λe w'=>∃v,e=.returned v/\R v w')
    (o:∀v w',R v w'->ZE P n ops Q rest ((d,v)::l) w'):ZE P n ops Q (⟨some d,.call { callee:=.value y,args:=xs.toArray,argTypes:=h },ty,pos,aft,none⟩::rest) l w :=
  fun a b=>wpList_plain rfl λK m=>by
    obtain⟨i,h1,h2,h3⟩:=hf.eq;have c:¬i.body=none:=λe=>(by rw[e]at h2;simp at h2);have g : ¬i.name = "runtime.NumGoroutine" := fun e=>by rw[e]at h3; simp at h3
    unfold Oper.wp;have:(execOp a.eval ⟨some d,.call { callee:=.value y,args:=xs.toArray,argTypes:=h },ty,pos,aft,none⟩).run P w=.ok (.enter f vs.toArray) w:=by
      simp[execOp,resolve,b.eval j,Deferred.ofValue,invoke,callFunc,h1,c,g,b.evals k]
    rw[this];exact hc.mono λ_ _ ⟨v,he,hR⟩=>by subst he;exact m _ _ (o v _ hR _ (b.put hd v))
theorem Py{t:TypeId}{z:Value}{size bytes:Nat}[TInfo P t z size bytes](hd:Nat.blt d n=true)
    (c:∀w',New w w' t z.cells.toList->w'.drawn=w.drawn->ZE P n ops Q rest ((d,.pointer (some ⟨w.heap.size,0,none⟩))::l) w'):ZE P n ops Q (⟨some d,.alloc t,ty,pos,aft,none⟩::rest) l w :=
  OU (w':=w.alloc (.cells z.cells t)) (λa b=>by simp[execOp,Instr.alloc,HH (P:=P) (t:=t),newVar,Gj]) hd (c _ (by simpa using New.mk' w t z.cells.toList) rfl)
theorem Pz{t:TypeId}{z:Value}{size bytes:Nat}[TInfo P t z size bytes]{x y:Operand}{g o:Nat}{c:TypeId}{v:Value}{cs:List Value}(f:opv l x=some (.pointer (some ⟨g,o,none⟩)))(h:opv l y=some v)
    (hb:Blk w g c cs) (d:v.cells.toList.length=size) (hl:o+size<=cs.length) (i:∀u∈v.cells.toList,u.oneCell'=true)
    (k:∀w',Upd w w' g c (W9 cs o v.cells.toList)->w'.drawn=w.drawn->ZE P n ops Q rest l w'):ZE P n ops Q (⟨none,.store t x y,ty,pos,aft,none⟩::rest) l w:=λa e=>by
  refine wpList_plain rfl λK j=>?_;obtain⟨w',hr,hu,hd⟩:=Hg (P:=P) g c o v.cells.toList 0 cs w hb (by omega) i;unfold Oper.wp;have b:v.cells.size=size:=(by simpa using d);have:(execOp a.eval ⟨none,.store t x y,ty,pos,aft,none⟩).run P w=.ok .skip w':=by
    simp[execOp,Instr.storeAt,Instr.sureAddr,e.eval f,e.eval h,storeVar,DZ (P:=P) (t:=t),b,hr]
  rw[this];exact j _ _ (k w' hu hd a e)
end
theorem New.gr{w w':World}{t:TypeId}{cs:List Value}(a:New w w' t cs)(hd:w'.drawn=w.drawn):Gr w w':=⟨a.ext,U6 hd.symm⟩
theorem AbV(x y:Fct)(u:World):Calls prog 92 #[.agg #[.int .i64 x.var,.int .i64 x.val],.agg #[.int .i64 y.var,.int .i64 y.val]] u λe w'=>e=.returned (.int .i64 (cfM x y))/\∃q c,w'=grow (u.drewN q) c:=by
  have h:=Jj (P:=prog) (f:=92) (vs:=[.agg #[.int .i64 x.var,.int .i64 x.val],.agg #[.int .i64 y.var,.int .i64 y.val]]) (w:=u) (R:=λv w'=>v=.int .i64 (cfM x y)/\∃q c,w'=grow (u.drewN q) c) func92 rfl ntmps92 rfl ?_
  . exact h.mono λe w' ⟨v,he,m,hg⟩=>⟨by rw[he,m],hg⟩
  refine BX (BI (My rfl rfl (My rfl rfl (Bu (Dj rfl) (Eb ?_)))));have a:Blk ((u.alloc (.cells (encM x).toArray 61)).alloc (.cells (encM y).toArray 61)) u.heap.size 61 (encM x) :=
    (New.mk' u _ (encM x)).blk.keep ((New.mk' _ _ (encM y)).ext.block _ (New.mk' u _ (encM x)).blk.lt)
  have b:Blk ((u.alloc (.cells (encM x).toArray 61)).alloc (.cells (encM y).toArray 61)) (u.alloc (.cells (encM x).toArray 61)).heap.size 61 (encM y):=(New.mk' _ _ (encM y)).blk;generalize r:(u.alloc (.cells (encM x).toArray 61)).alloc (.cells (encM y).toArray 61)=W2 at a b;have n:(u.alloc (.cells (Value.agg #[.int .i64 x.var,.int .i64 x.val]).cells 61)).alloc (.cells (Value.agg #[.int .i64 y.var,.int .i64 y.val]).cells 61)=W2:=r;rw[n];generalize s:u.heap.size=b1 at a;generalize o:(u.alloc (.cells (encM x).toArray 61)).heap.size=b2 at b;have j:(u.alloc (.cells (Value.agg #[.int .i64 x.var,.int .i64 x.val]).cells 61)).heap.size=b2:=o;rw[j];refine BX (QA (λw'=>Blk w' b1 61 (encM x)/\Blk w' b2 61 (encM y)) [(0,true),(1,true),(2,true),(3,true),(5,true),(6,true),(7,true),(8,true),(4,false),(9,false),(10,false),(11,false),(12,true)] rfl ⟨a,b⟩ ?_);refine Gc rfl (λ_ _=>Dd rfl) ?_;refine Gc rfl (λ_ g=>CJ rfl (g.1.cell (i:=0) rfl)) ?_;refine Gc rfl (λ_ _=>Dd rfl) ?_;refine Gc rfl (λ_ g=>CJ rfl (g.2.cell (i:=0) rfl)) ?_;refine Gc rfl (λ_ _=>Dd rfl) ?_;refine Gc rfl (λ_ g=>CJ rfl (g.1.cell (i:=1) rfl)) ?_;refine Gc rfl (λ_ _=>Dd rfl) ?_;refine Gc rfl (λ_ g=>CJ rfl (g.2.cell (i:=1) rfl)) ?_;refine Hc rfl (Iu rfl rfl (Aat x.var y.var _) (HQ ⟨λ_=>⟨a,b⟩,?_⟩));refine Hc rfl (Iu rfl rfl (Aat x.val y.val _) (HQ ⟨λ_=>⟨a,b⟩,?_⟩));have p:=New.mk' (dr W2 (W2.drawn+1)) 3 [.int .i64 (Lib.compareInt x.var y.var),.int .i64 (Lib.compareInt x.val y.val)];have k:=a.keep (p.ext.block b1 a.lt);have l:=b.keep (p.ext.block b2 b.lt);have t:Vb ((dr W2 (W2.drawn+1)).alloc (.cells [.int .i64 (Lib.compareInt x.var y.var),.int .i64 (Lib.compareInt x.val y.val)].toArray 3)) (λ_=>True) (.slice (some ⟨(dr W2 (W2.drawn+1)).heap.size,0,none⟩) 2 2) [Lib.compareInt x.var y.var,Lib.compareInt x.val y.val] :=
    Vb.made p ⟨[_],_,rfl,⟨rfl,Mz _ _⟩,[_],_,rfl,⟨rfl,Mz _ _⟩,rfl⟩ rfl trivial (by decide)
  refine Hc rfl (Oc rfl rfl rfl (λv m=>by simp at m;rcases m with rfl|rfl<;>rfl) rfl (HQ ⟨λ_=>⟨k,l⟩,?_⟩));refine Hc rfl (Iu rfl rfl (QB t) (HQ ⟨λ_=>⟨k,l⟩,?_⟩));refine Gc rfl (λ_ _=>Dj rfl) ?_;refine Sj ?_;refine Hj ?_;refine⟨_,Z5 rfl (AC rfl),rfl,1,#[.cells (encM x).toArray 61,.cells (encM y).toArray 61,.cells [.int .i64 (Lib.compareInt x.var y.var),.int .i64 (Lib.compareInt x.val y.val)].toArray 3],?_⟩;subst r;have hd:∀os d,dr (grow u os) d=grow (dr u d) os:=λ_ _=>rfl;rw[alloc_eq_grow,alloc_eq_grow,alloc_eq_grow,grow_grow,hd,grow_grow];rfl
def cfN:List Fct->List Fct->Int
  |[],[]=>0
  |[],_::_=>-1
  |_::_,[]=>1
  |x::xs,y::ys=>if cfM x y≠0 then cfM x y else cfN xs ys
theorem QJ{α:Type}{l:List α}{k:Nat}(a:k<l.length):∃x,l[k]?=some x:=⟨l[k],D1 a⟩
theorem Vf{xs ys:List Fct}{k:Nat}{x y:Fct}(a:xs[k]?=some x)(b:ys[k]?=some y):cfN (xs.drop k) (ys.drop k)=if cfM x y≠0 then cfM x y else cfN (xs.drop (k+1)) (ys.drop (k+1)):=by
  have c:xs.drop k=x::xs.drop (k+1):=by
    rw[C5 (AF a)];rw[D1 (AF a)]at a;rw[Q1 a]
  have d:ys.drop k=y::ys.drop (k+1):=by
    rw[C5 (AF b)];rw[D1 (AF b)]at b;rw[Q1 b]
  rw[c,d];rfl
theorem AbP{X:World}{F p:Nat→Prop}{q r:Value}{xs ys:List Fct}(g:Vb X F q xs)(s:Vb X p r ys)(D:∀k,F k→k<X.heap.size)(j:∀k,p k→k<X.heap.size):Calls prog 91 [q,r,.func (.func 92) #[] #[]].toArray X λe w'=>∃v,e=.returned v∧v=.int .i64 (cfN xs ys)∧Gr X w':=by
  obtain⟨t,c1,rfl⟩:=g.form;obtain⟨E,c2,rfl⟩:=s.form;have O:xs.length<=9223372036854775807:=U8 g.len.2.1 g.len.2.2;refine Jj func91 rfl ntmps91 rfl ?_;refine BX (BI (Bu (Dj rfl) (Eb ?_)));refine BX (BX (BI (Bu (Di rfl) (Bu (IM rfl) (Bu (Di rfl) (Eb ?_))))));refine Kj (TW (λk=>[(0,.slice t xs.length c1),(1,.slice E ys.length c2),(2,.func (.func 92) #[] #[]),(11,.slice t xs.length c1),(12,.int .i64 (xs.length:Int)),(13,.int .i64 (k:Int))]) (λk w'=>Gr X w'/\k<=xs.length/\k<=ys.length/\cfN xs ys=cfN (xs.drop k) (ys.drop k)) xs.length 0 Af ⟨Gr.refl _,V5 _,V5 _,rfl⟩ λk P hk=>⟨hk.2.1,?_⟩);obtain⟨h,k1,k2,k3⟩:=hk;refine BX (BI (Bu (Do rfl rfl) (Eb ?_)));refine BX ?_;by_cases hlt:(k:Int)<(xs.length:Int)
  . rw[decide_eq_true hlt];refine It rfl (Is ?_);obtain⟨x,hx⟩:=QJ (l:=xs) (k:=k) (by omega);obtain⟨Q,o1,ce1,hA1,hl1,hd1,r1⟩:=(g.agree (h.1.agree D)).elem' hx;obtain⟨rfl,rx⟩:=r1;refine BX (Kj ?_);refine BX (BI (Bu (Di rfl) (Bu (Hx rfl rfl hA1 rfl hl1) (Bu (Fp rfl rfl hd1) (Py rfl λS u G=>Bu (Dj rfl) (Pz rfl rfl u.blk rfl (Bg) (allOne) λT H I=>Eb ?_))))));have w:=u.upd H;have m:=h.trans (w.gr (I.trans G));have z:=w.blk;refine BX (BX (BI (Bu (Di rfl) (Bu (Di rfl) (Bu (IM rfl) (Bu (Bi rfl rfl) (Eb ?_)))))));by_cases c:(ys.length:Int)<=(k:Int)
    . rw[decide_eq_true c];refine It rfl (BX (BI (Bu (Dj rfl) (Eb ?_))));have a:(1:Int)=cfN xs ys:=by
        rw[k3,show ys.drop k=[]from F0 (by omega),C5 (AF hx)];rfl
      refine Hj ?_;exact⟨_,Z5 rfl (AC rfl),by rw[a],m⟩
    . rw[decide_eq_false c];refine HP rfl (Is ?_);obtain⟨y,hy⟩:=QJ (l:=ys) (k:=k) (by omega);obtain⟨U,o2,ce2,hA2,hl2,hd2,r2⟩:=(s.agree (m.1.agree j)).elem' hy;obtain⟨rfl,ry⟩:=r2;refine BX (BI (Bu (Di rfl) (Bu (Di rfl) (Bu (Hx rfl rfl hA2 rfl hl2) (Bu (Fp rfl rfl hd2) (Py rfl λV A J=>Pz rfl rfl A.blk rfl (Bg) (allOne) λB K L=>Eb ?_))))));have n:=A.upd K;have M:=m.trans (n.gr (L.trans J));have N:=n.blk;have o:=z.keep (n.ext.block _ z.lt);refine BX (BI (Bu (Di rfl) (Bu (Fp rfl rfl o.cellsAt) (Bu (Fp rfl rfl N.cellsAt) (Tg (R:=λv w'=>v=.int .i64 (cfM x y)/\Gr B w') rfl rfl rfl ((AbV x y B).mono λe w' ⟨he,hg⟩=>⟨_,he,rfl,Gr.of_grow hg⟩) λv W ⟨a,G6⟩=>Bu (Dj rfl) (Eb ?_))))));subst a;have C:=M.trans G6;refine BX (BI (Bu (Di rfl) (Bu (Gb rfl rfl) (Eb ?_))));have b:=Vf hx hy;by_cases hc:cfM x y≠0
      . rw[decide_eq_true hc];rw[if_pos hc]at b;have a:cfM x y=cfN xs ys:=(by rw[k3,b]);refine It rfl (BX (BI (Bu (Di rfl) (Bu (Dj rfl) (Eb ?_)))));refine Hj ?_;exact⟨_,Z5 rfl (AC rfl),by rw[a],C⟩
      . rw[decide_eq_false hc];rw[if_neg hc]at b;refine HP rfl (Is ?_);refine BI (Bu (JA rfl rfl (by omega)) (Bu (Di rfl) (Eb ?_)));exact⟨Af,C,by omega,by omega,by rw[k3,b]⟩
  . rw[decide_eq_false hlt];refine HP rfl (Qz ?_);refine BX (BX (BI (Bu (Di rfl) (Bu (IM rfl) (Bu (Di rfl) (Bu (IM rfl) (Bu (Do rfl rfl) (Eb ?_))))))));have d:k=xs.length:=(by omega);by_cases f:(xs.length:Int)<(ys.length:Int)
    . rw[decide_eq_true f];have a:(-1:Int)=cfN xs ys:=by
        rw[k3,d,N9,C5 (l:=ys) (i:=xs.length) (by omega)];rfl
      refine It rfl (BX (BI (Bu (Dj rfl) (Eb ?_))));refine Hj ?_;exact⟨_,Z5 rfl (AC rfl),by rw[a],h⟩
    . rw[decide_eq_false f];have a:(0:Int)=cfN xs ys:=by
        rw[k3,d,N9,show ys.drop xs.length=[]from F0 (by omega)];rfl
      refine HP rfl (Is (BX (BI (Bu (Dj rfl) (Eb ?_)))));refine Hj ?_;exact⟨_,Z5 rfl (AC rfl),by rw[a],h⟩
theorem AbW{j:World}{F b:Nat->Prop}{c d:Value}{xs ys:List Fct}(f:Vb j F c xs)(g:Vb j b d ys)(h:∀k,F k->k<j.heap.size)(a:∀k,b k->k<j.heap.size):Calls prog 61 [c,d].toArray j λe w'=>∃v,e=.returned v/\v=.int .i64 (cfN xs ys)/\Gr j w':=by
  refine Jj func61 rfl ntmps61 rfl ?_;refine BX (BI (Bu (Dj rfl) (Eb ?_)));refine BX (BI (Bu (Di rfl) (Bu (Di rfl) (TX (R:=λv w'=>v=.int .i64 (cfN xs ys)/\Gr j w') rfl rfl (AbP f g h a) λv w' ⟨i,hG⟩=>Bu (Dj rfl) (Eb ?_)))));refine Hj ?_;subst i;exact⟨_,Z5 rfl (AC rfl),rfl,hG⟩
end
section
open Go.Shelf
def PW:Go.Shelf.Ren:=⟨fun|6=>60|15=>90|14=>89|28=>126|29=>127|20=>118|21=>119|22=>120|23=>121|24=>122|25=>123|26=>124|27=>125|46=>141|47=>142|48=>143|49=>144|50=>145|57=>158|n=>n,fun|22=>86|24=>23|25=>138|3=>3|39=>187|0=>0|53=>230|55=>203|4=>4|46=>224|45=>223|50=>40|5=>5|9=>9|66=>251|70=>254|76=>264|77=>265|n=>n,fun|n=>n⟩
theorem PA:Go.Proofs.SlLaysF.n6 prog PW:={
  mixed:=by kernel_rfl
  f6:=⟨f60.name,by decide,func60.trans (congrArg some (by kernel_rfl))⟩
  f14:=⟨f89.name,by decide,func89.trans (congrArg some (by kernel_rfl))⟩
  f15:=func90.trans (congrArg some (by kernel_rfl))
  f20:=⟨f118.name,by decide,func118.trans (congrArg some (by kernel_rfl))⟩
  f21:=⟨f119.name,by decide,func119.trans (congrArg some (by kernel_rfl))⟩
  f22:=⟨f120.name,by decide,func120.trans (congrArg some (by kernel_rfl))⟩
  f23:=⟨f121.name,by decide,func121.trans (congrArg some (by kernel_rfl))⟩
  f24:=⟨f122.name,by decide,func122.trans (congrArg some (by kernel_rfl))⟩
  f25:=⟨f123.name,by decide,func123.trans (congrArg some (by kernel_rfl))⟩
  f26:=⟨f124.name,by decide,func124.trans (congrArg some (by kernel_rfl))⟩
  f27:=⟨f125.name,by decide,func125.trans (congrArg some (by kernel_rfl))⟩
  f28:=func126.trans (congrArg some (by kernel_rfl))
  f29:=func127.trans (congrArg some (by kernel_rfl))
  f46:=⟨f141.name,by decide,func141.trans (congrArg some (by kernel_rfl))⟩
  f47:=func142.trans (congrArg some (by kernel_rfl))
  f48:=func143.trans (congrArg some (by kernel_rfl))
  f49:=⟨f144.name,by decide,func144.trans (congrArg some (by kernel_rfl))⟩
  f50:=⟨f145.name,by decide,func145.trans (congrArg some (by kernel_rfl))⟩
  f57:=⟨f158.name,by decide,func158.trans (congrArg some (by kernel_rfl))⟩
  t0:=underlying0
  a0:=isAgg0
  z0:=sizeOf0
  v0:=zeroValue0
  t3:=underlying3
  a3:=isAgg3
  z3:=sizeOf3
  v3:=zeroValue3
  t4:=underlying4
  a4:=isAgg4
  z4:=sizeOf4
  v4:=zeroValue4
  t5:=underlying5
  a5:=isAgg5
  z5:=sizeOf5
  v5:=zeroValue5
  t9:=underlying9
  a9:=isAgg9
  z9:=sizeOf9
  v9:=zeroValue9
  t22:=underlying86
  a22:=isAgg86
  z22:=sizeOf86
  v22:=zeroValue86
  a24:=isAgg23
  z24:=sizeOf23
  t25:=underlying138
  a25:=isAgg138
  z25:=sizeOf138
  v25:=zeroValue138
  t39:=underlying187
  a39:=isAgg187
  z39:=sizeOf187
  v39:=zeroValue187
  t45:=underlying223
  a45:=isAgg223
  z45:=sizeOf223
  v45:=zeroValue223
  t46:=underlying224
  a46:=isAgg224
  z46:=sizeOf224
  v46:=zeroValue224
  t50:=underlying40
  a50:=isAgg40
  z50:=sizeOf40
  v50:=zeroValue40
  t53:=underlying230
  a53:=isAgg230
  z53:=sizeOf230
  v53:=zeroValue230
  t55:=underlying203
  a55:=isAgg203
  z55:=sizeOf203
  v55:=zeroValue203
  t66:=underlying251
  a66:=isAgg251
  z66:=sizeOf251
  v66:=zeroValue251
  t70:=underlying254
  a70:=isAgg254
  z70:=sizeOf254
  v70:=zeroValue254
  t76:=underlying264
  a76:=isAgg264
  z76:=sizeOf264
  v76:=zeroValue264
  t77:=underlying265
  a77:=isAgg265
  z77:=sizeOf265
  v77:=zeroValue265 }
open Go.RowKit Go.Lib Go.Sort in
theorem Vg{α:Type}[Inhabited α](enc:α->Value)(j:OneCell enc)(f:α->α->Int)(k:SWO (ltOf f))(g:Nat)(h:Array Value)(a off cap:Nat)(o:Array α)(w:World)(l:∀b w,(callFunc g b).run prog w=.ok (.enter g b) w)(c:CmpLays1 prog g h enc f a off o.size w)(m:Holds enc w a off o)(d:a<w.heap.size)(i:o.size<4611686018427387904) :
    Calls prog 60 #[.slice (some ⟨a,off,none⟩) o.size cap,.func (.func g) #[] h] w λe w' =>
      e=.returned (.tuple #[])/\∃n os,w'=sortWorld enc w a off n (pdq (ltOf f) o 0 o.size (Lib.bitLen o.size) true true) os:=Any.slices_SortFunc_eq PA enc j f k g h a off cap o w l c m d i
open Go.RowKit Go.Lib Go.Sort in
theorem Th{α:Type}[Inhabited α](p:Option Addr)(cap:Nat)(a:Value)(w:World) :
    Calls prog 60 #[.slice p 0 cap,a] w λe w'=>e=.returned (.tuple #[])/\w'=w:=AnyF.slices_SortFunc_none { PA with } p cap a w
end
section
open Go Go.RowKit Go.Lib Go.Sort
theorem GJ(x y:Fct):(ZW x y/\cfM x y=-1)\/(x=y/\cfM x y=0)\/(ZW y x/\cfM x y=1):=by
  unfold cfM;simp only[orL];rcases cmp3 x.var y.var with⟨a,h2⟩|⟨a,h2⟩|⟨a,h2⟩<;>rcases cmp3 x.val y.val with⟨b,g2⟩|⟨b,g2⟩|⟨b,g2⟩<;>rw[h2,g2]<;>unfold ZW;all_goals first
    |(left;exact⟨by omega,by decide⟩)
    |(right;right;exact⟨by omega,by decide⟩)
    |(right;left;exact⟨by cases x;cases y;simp_all,by decide⟩)
theorem Jn{x y z:Fct}(a:ZW x y)(b:ZW y z):ZW x z:=by unfold ZW at *;omega
theorem HI{x:Fct}(a:ZW x x):False:=by unfold ZW at a;omega
theorem JQ:∀{x y:List Fct},cfN x y=0->x=y
  |[],[],_=>rfl
  |[],_::_,h=>by simp[cfN]at h
  |_::_,[],h=>by simp[cfN]at h
  |a::x,b::y,h=>by
    simp only[cfN]at h;rcases GJ a b with⟨_,h2⟩|⟨c,h2⟩|⟨_,h2⟩
    . rw[h2]at h;simp at h
    . rw[h2]at h;simp at h;rw[c,JQ h]
    . rw[h2]at h;simp at h
theorem Iw:∀x:List Fct,cfN x x=0
  |[]=>rfl
  |a::x=>by
    simp only[cfN];rcases GJ a a with⟨b,_⟩|⟨_,h2⟩|⟨b,_⟩
    . exact(HI b).elim
    . rw[h2];simp[Iw x]
    . exact(HI b).elim
theorem Fk:∀x y:List Fct,cfN y x=- cfN x y
  |[],[]=>rfl
  |[],_::_=>rfl
  |_::_,[]=>rfl
  |a::x,b::y=>by
    simp only[cfN];have f:=Fk x y;rcases GJ a b with⟨c,e⟩|⟨c,e⟩|⟨c,e⟩<;>rcases GJ b a with⟨d,g2⟩|⟨d,g2⟩|⟨d,g2⟩<;>first|(subst c;first|exact(HI d).elim|(rw[e];simp[f]))|(subst d;exact(HI c).elim)|exact(HI (Jn c d)).elim|(rw[e,g2];simp)
theorem HR:∀{x y z:List Fct},cfN x y≤0→cfN y z≤0→cfN x z≤0
  |[],_,[],_,_=>by simp[cfN]
  |[],_,_::_,_,_=>by simp[cfN]
  |_::_,[],_,h,_=>by simp[cfN]at h
  |_::_,_::_,[],_,h=>by simp[cfN]at h
  |a  :: x,b::y,c::z,h1,h2=>by
    simp only[cfN]at h1 h2 ⊢;have g:=@HR x y z;rcases GJ a b with⟨e,p2⟩|⟨e,p2⟩|⟨e,p2⟩
    . rcases GJ b c with⟨f,q2⟩|⟨f,q2⟩|⟨f,q2⟩
      . rcases GJ a c with⟨d,r2⟩|⟨d,r2⟩|⟨d,r2⟩
        . rw[r2];simp
        . subst d;exact(HI (Jn e f)).elim
        . exact(HI (Jn (Jn e f) d)).elim
      . subst f;rw[p2];simp
      . rw[q2]at h2;simp at h2
    . subst e;rcases GJ a c with⟨d,r2⟩|⟨d,r2⟩|⟨d,r2⟩
      . rw[r2];simp
      . rw[p2]at h1;rw[r2]at h2 ⊢;simp at h1 h2 ⊢;exact g h1 h2
      . rw[r2]at h2;simp at h2
    . rw[p2]at h1;simp at h1
def leN(x y:List Fct):Bool:=decide (cfN x y<=0)
def Dh(xs:List (List Fct)):List (List Fct):=xs.mergeSort leN
theorem TY(a b c:List Fct)(d:leN a b=true)(e:leN b c=true):leN a c=true:=by unfold leN at *;simp at *;exact HR d e
theorem TZ(a b:List Fct):(leN a b||leN b a)=true:=by
  unfold leN;have:=Fk a b;simp;omega
theorem Vh{a b:List Fct}(c:leN a b=true)(d:leN b a=true):a=b:=by
  unfold leN at *
  simp at c d;have:=Fk a b;exact JQ (by omega)
theorem LZ(xs:List (List Fct)):(Dh xs).Perm xs:=I5 xs leN
theorem Hr(xs:List (List Fct)):(Dh xs).length=xs.length:=(LZ xs).length_eq
theorem RH(xs:List (List Fct)):(Dh xs).Pairwise (λa b=>leN a b=true):=List.pairwise_mergeSort TY TZ xs
theorem Ua{a b:List (List Fct)}(c:a.Pairwise λx y=>leN x y=true)(hb:b.Pairwise λx y=>leN x y=true)(f:a.Perm b):a=b:=List.Perm.eq_of_pairwise (le:=λx y=>leN x y=true) (λx y _ _ d e=>Vh d e) c hb f
abbrev Aaz(w:World)(O:Lab):Type:={ p:Value×List Fct // Vb w (Fr 0 w O) p.1 p.2 }
instance eltInhN{w:World}{O:Lab}:Inhabited (Aaz w O):=⟨⟨(.slice none 0 0,[]),Vb.nil _ _⟩⟩
def Zc{w:World}{O:Lab}(x:Aaz w O):Value:=x.1.1
def cfG{w:World}{O:Lab}(x y:Aaz w O):Int:=cfN x.1.2 y.1.2
theorem ltG{w:World}{O:Lab}(x y:Aaz w O):ltOf cfG x y=decide (cfN x.1.2 y.1.2<0):=by
  unfold ltOf cfG;rfl
theorem AcA{w:World}{O:Lab}:SWO (ltOf (cfG (w:=w) (O:=O))) where
  irrefl x:=by rw[ltG,Iw];simp
  trans x y z h1 h2:=by
    rw[ltG]at *
    simp at *
    have a:=HR (V1 h1) (V1 h2);rcases L4 a with h|h
    . exact h
    . exfalso;have he:=JQ h;rw[<- he,Fk]at h2;omega
  ntrans x y z h1 h2:=by
    rw[ltG]at *
    simp at *
    have b:=Fk x.1.2 y.1.2;have c:=Fk y.1.2 z.1.2;have d:=Fk x.1.2 z.1.2;have:=HR (x:=z.1.2) (y:=y.1.2) (z:=x.1.2) (by omega) (by omega);omega
theorem Abq{w:World}{O:Lab}:∀{xs:List (List Fct)}{cells:List Value},Chunks w (Fr 0 w O) cells xs->∃ps:List (Aaz w O),cells=ps.map Zc/\ps.map (·.1.2)=xs
  |[],_,h=>⟨[],h,rfl⟩
  |x::xs,_,⟨cs,rest,he,hr,hc⟩=>by
    obtain⟨ps,h1,h2⟩:=Abq hc;obtain⟨v,hv,hs⟩:=hr;refine⟨⟨(v,x),⟨v,rfl,hs⟩⟩::ps,by rw[he,hv,h1];rfl,by simp[h2]⟩
theorem Og{w w':World}{O:Lab}(a:Agree (Fr 0 w O) w w'):∀(ps:List (Aaz w O)),Chunks w' (Fr 0 w O) (ps.map Zc) (ps.map (·.1.2))
  |[]=>rfl
  |p  :: ps=>⟨[Zc p],ps.map Zc,rfl,by
      obtain⟨v,hv,hs⟩:=(p.2.agree a:Vb w' (Fr 0 w O) p.1.1 p.1.2)
      exact⟨_,rfl,by    have:p.1.1=v:=by simpa using hv
                        unfold Zc;rw[this];exact hs⟩,Og a ps⟩
theorem Ix{α:Type}[Inhabited α](enc:α->Value){w:World}{a off m:Nat}{c:Array α}{os:Array Obj}{k:Nat}(hk:k<w.heap.size)(b:a≠k):(sortWorld enc w a off m c os).heap[k]?=w.heap[k]?:=by
  show((w.heap.modify a _)++os)[k]?=_;rw[B8 (by simpa using hk),F3,if_neg b]
theorem MM{i:Nat}{w:World}{O:Lab}{v:Value}{xs:List (List Fct)}(hR:Rw i w O 23 v xs)(hl:xs.length<4611686018427387904) :
    Fn prog 60 [v,.func (.func 61) #[] #[]] w λ_ w'=>∃O',St (eT i) w O w' O'/\Rw i w' O' 23 v (Dh xs):=by
  intro d;rcases K4 xs.length with h0|h0
  . have hx:xs=[]:=B2 h0;subst hx;obtain⟨p,c,rfl⟩:=hR.form;have hs:Dh []=[]:=B2 (Hr []);exact(Th (α:=Fct) p c _ (dr w d)).mono λe w' ⟨he,hw⟩=>⟨_,w,d,he,hw,O,St.refl _ _ _,by rw[hs];exact hR⟩
  . obtain⟨g,cap,cells,sp,rfl,hg,hFg,hb,hc,hlen,hnc,hcm,htot⟩:=hR.1.open h0;obtain⟨ps,rfl,hxs⟩:=Abq hc;have hpl:ps.length=xs.length:=(by rw[<- hxs,R1]);have hgi:O g=i:=hR.2.1 g rfl;have hg0:∀k,Fr 0 w O k->g≠k:=λk hk e=>(by subst e;exact hR.2.2 (hgi.symm.trans hk.2));have hH:Holds Zc (dr w d) g 0 ps.toArray:=λj hj=>by
      have hj':j<ps.length:=(by simpa using hj);refine⟨?_,by rw[U4];exact hb.frozen j⟩;rw[U4];refine hb.cell ?_;rw[C4 (by simpa using hj'),M3,D1 hj',getElem!_pos _ j hj];simp
    have eg:∀args w,(callFunc 61 args).run prog w=.ok (.enter 61 args) w:=enters_of func61 (by kernel_rfl) rfl;have hcmp:CmpLays1 prog 61 #[] Zc (cfG (w:=w) (O:=O)) g 0 ps.toArray.size (dr w d):=by
      intro m os dk hs x y;have hsw:∀k,Fr 0 w O k->k<(sortWorld Zc (dr w d) g 0 m dk os).heap.size:=λk hk=>by
        have h1:k<w.heap.size:=hk.1;show k<((w.heap.modify g _)++os).size;simp;omega
      have ag:Agree (Fr 0 w O) w (sortWorld Zc (dr w d) g 0 m dk os):=λk hk=>Ix Zc (w:=dr w d) hk.1 (hg0 k hk);exact(AbW (x.2.agree ag) (y.2.agree ag) hsw hsw).mono λe w' ⟨v,he,hv,hG⟩=>⟨by rw[he,hv];rfl,hG.grow⟩
    have hcall:=Vg Zc (λx=>by obtain⟨A,c,hv⟩:=x.2.form;unfold Zc;rw[hv];rfl) cfG AcA 61 #[] g 0 cap ps.toArray (dr w d) eg hcmp hH hb.lt (by simpa[hpl]using hl);have e1:ps.toArray.size=xs.length:=(by simp[hpl]);rw[e1]at hcall;obtain⟨⟨hsz,_,hperm⟩,hsort⟩:=pdq_sorts (ltOf (cfG (w:=w) (O:=O))) AcA ps.toArray 0 ps.toArray.size (Lib.bitLen xs.length) true true (V5 _) (V2 _) (Or.inl rfl);rw[e1]at hsz hperm hsort;generalize hqs:pdq (ltOf (cfG (w:=w) (O:=O))) ps.toArray 0 xs.length (Lib.bitLen xs.length) true true=qs at *
    have hqsz:qs.size=xs.length:=hsz;have hqp:qs.toList.Perm ps:=by
      have e2:qs.extract 0 xs.length=qs:=(by rw[<- hqsz];exact K7);have e3:ps.toArray.extract 0 xs.length=ps.toArray:=(by rw[<- e1];exact K7);rw[e2,e3]at hperm;simpa using hperm
    have hres:qs.toList.map (·.1.2)=Dh xs:=by
      refine Ua ?_ (RH xs) ((hqp.map _).trans (by rw[hxs];exact(LZ xs).symm));rw[List.pairwise_map,D0];intro a b ha hb' hab;have:=hsort a b (V5 _) hab (by have:=hb';rw[I2,hqsz]at this;exact this);simp only[I2]at ha hb';rw[getElem!_pos _ b hb',getElem!_pos _ a ha,ltG]at this;have hn:=Fk qs[a].1.2 qs[b].1.2;unfold leN;simp at this ⊢;omega
    refine hcall.mono λe w' ⟨he,n,os,hw⟩=>⟨_,w',w'.drawn,he,rfl,upO O w.heap.size (λ_=>0),?_,?_⟩
    . subst hw;refine⟨rfl,rfl,rfl,?_,λk hk hne=>⟨?_,Ex hk⟩⟩
      . show w.heap.size<=((w.heap.modify g _)++os).size;simp
      . exact Ix Zc (w:=dr w d) hk (λe=>hne (by rw[<- e];exact hgi))
    . have hblk:Blk w' g 23 (qs.toList.map Zc++sp):=by
        subst hw;unfold Blk at hb ⊢;have hsz':g<w.heap.size:=Blk.lt hb;show((w.heap.modify g _)++os)[g]?=_;rw[B8 (by simpa using hsz'),F3,if_pos rfl,hb];simp only[R0,Go.Sort.onCells];congr 2;apply Array.ext
        . simp only[Go.Sort.putCells,Array.size_mapIdx,List.size_toArray,K0,R1,I2,hqsz,hpl]
        . intro j h1 h2;simp only[Go.Sort.putCells,H3,U4,U7,V5,true_and,H2];by_cases hj:j<xs.length
          . rw[if_pos (by simp[hqsz];exact hj),D8 (by simp[hqsz];exact hj)];rw[getElem!_pos qs j (by rw[hqsz];exact hj)];simp
          . rw[if_neg (by simp[hqsz];omega)];rw[C8 (by simp[hpl];omega),C8 (by simp[hqsz];omega)];simp[hpl,hqsz]
      have hS:∀k,Fr 0 w O k->Fr 0 w' (upO O w.heap.size λ_=>0) k:=λk hk=>⟨by subst hw;show k<((w.heap.modify g _)++os).size;have:=hk.1;simp;omega,(Ex hk.1).trans hk.2⟩;have ag:Agree (Fr 0 w O) w w':=λk hk=>(by subst hw;exact Ix Zc (w:=dr w d) hk.1 (hg0 k hk));have hml:(qs.toList.map (λx:Aaz w O=>x.1.2)).length=xs.length:=(by simp[hqsz]);have:=Own.close (w:=w') (base:=0) (F:=Fr 0 w O) (cap:=cap) (xs:=qs.toList.map (λx:Aaz w O=>x.1.2)) (V5 _) hFg hblk (Og ag qs.toList) (by rw[hml];exact hnc) hcm (by rw[K0,R1]at htot ⊢;rw[I2,hqsz,<- hpl];exact htot);rw[hml,hres]at this;exact this.rw hS (λg' hg'=>by
        have:g=g':=(by simpa[Value.ownBlock]using hg');subst this;exact(Ex hb.lt).trans hgi) hR.2.2
end
section
open Go Go.RowKit
attribute [local irreducible] ewp owp hwp hwq hws Ev Evg Fn W6 X7 X4 X1
attribute [local irreducible] hwx YW hwz ZY
noncomputable def GF(h:List Fct):Option ((List Fct)×Err) :=
  bnd (rng (ρ:=(List Fct)×Err) (λ(i:Nat)(a:Fct)(k:Unit)=>bnd (if a.var<0 then(some true)else(if a.val<0 then(some true)else(some false)):Option Bool) λe=>if e=true then(some (.ret (([]:List Fct),(⟨1⟩:Err))))else(some (.next ()))) h 0 ()) λb=>fin b λ(j:Unit)=>bnd (Bd h) λc=>bnd (if c.length<4611686018427387904 then some (Bf c)else none) λf=>bnd (Eg f) λd=>bnd (Cr d) λg=>if g=true then some (d,(⟨0⟩:Err))else some (([]:List Fct),(⟨2⟩:Err))
theorem Pa{w:World}{A:Nat->Prop}(hA:∀k,A k->k<w.heap.size){vx0:Value}{x0:List Fct}(f0:Vb w A vx0 x0){r:(List Fct)×Err}(hm:GF x0=some r) :
    Fn prog 138 [vx0] w λv w'=>Ext w w'/\T2 w' (upA A w w') v r:=by
 obtain⟨O,hB,w1⟩:=enter hA;obtain⟨A2,c3,rfl⟩:=f0.form;refine AG func138 rfl ntmps138 ?_;unfold GF at hm;refine Aj (Ae (Au rfl (Au rfl (o_z (Aj (Aj (Ae (Ar rfl (AO rfl ?_)))))))));have l5:=Bj f0.len;have r4:=rngNat l5;refine Ar rfl (o_z ?_);obtain⟨a1,b1,hm⟩:=bs hm;refine Dg (X:=Unit) (x0.length) b1 rfl l5 (λs8 x9=>[(0,(.slice A2 x0.length c3)),(7,(.slice A2 x0.length c3))]) (λs8 x9 w'=>∃O':Lab,Bs w A w' O') () ⟨O,hB⟩ A1 (λ_ _=>rfl) ?_ ?_
 ·rintro c1 x1 s8 x9 y1 d1 e0 ⟨e1,hB⟩ b0 c0 k0;have rk10:=YV e0 l5;refine Aj (Ae ?_);obtain⟨z1,a2,f1,l0,m0,n0,rfl,b2,c2⟩:=(f0.zs hA hB).elem' e0;refine BA (hA:=l0) (hj:=rfl) (hlt:=m0) rfl rfl (BE (hl:=rfl) (hc:=n0) rfl ?_);refine BL 2 e1 λd2 e2 f2 g0 h0=>?_;refine AR h0 rfl rfl rfl (Bg) (allOne) λg2 i0 h0=>?_;refine o_z (Aj ?_);obtain⟨g1,a0,b0⟩:=bs b0;refine Bc (λl' w'=>∃(h1:Unit) (O':Lab),W4 l' [(0,(.slice A2 x0.length c3)),(7,(.slice A2 x0.length c3)),(8,(.int .i64 (x0.length:Int))),(9,(.int .i64 (c1:Int))),(20,(.bool g1))]/\Bs w A w' O') ?_ ?_
  ·refine Ae (AJ rfl (AL (hc:=Blk.cell (i:=0) (h0.1) rfl) rfl (Cp rfl rfl (λo0=>?_) λo0=>?_)))
   ·replace a0:=ip a0 o0;refine Ar rfl (Ay rfl rfl (Ay rfl rfl (Ay rfl rfl (AV rfl rfl (o_z ?_)))));obtain rfl:=sm a0;exact⟨(),_,Ad,(hB.st g0).st i0⟩
   replace a0:=im a0 o0;refine Ar rfl (Az rfl rfl (AJ rfl (Az rfl rfl (AL (hc:=Blk.cell (i:=1) (h0.1) rfl) rfl (Az rfl rfl (Cp rfl rfl (λp0=>?_) λp0=>?_))))))
   ·replace a0:=ip a0 p0;refine AS rfl rfl (o_z ?_);obtain rfl:=sm a0;exact⟨(),_,Ad,(hB.st g0).st i0⟩
   replace a0:=im a0 p0;refine AS rfl rfl (o_z ?_);obtain rfl:=sm a0;exact⟨(),_,Ad,(hB.st g0).st i0⟩
  replace hB:=(hB.st g0).st i0;rintro h2 i1 ⟨h1,j1,q0,hB⟩;refine AQ _ q0 ?_;refine Bx rfl (λr0=>?_) (λr0=>?_)
  ·replace b0:=ip b0 r0;refine Aj (Ae (Da rfl (Au rfl (Au rfl (o_z (AD ?_))))));obtain rfl:=sm b0;obtain rfl:=c0 _ rfl;obtain rfl:=sm (Bp hm);exact X3 rfl (AC rfl) (AC rfl) ⟨hB.ext,_,_,rfl,(Vb.mono (F:=Fr 0 i1 j1) (Vb.nil _ _) hB.out),(vErr (by decide))⟩
  replace b0:=im' b0 r0;refine AE ?_;obtain rfl:=sm b0;exact show Exists _ from⟨_,(),rfl,A1,_,hB⟩
 rintro i2 j2 ⟨k2,l2,rfl,s0,k1,hB⟩;replace hm:=AW hm;refine AQ _ s0 ?_;refine Aj (Ae (Ar rfl ?_));obtain⟨m2,l1,hm⟩:=bs hm;refine DF 3 (O:=k1) (Bt Fr.lt (f0.zs hA hB) l1) rfl λn2 o2 p2 q2 v0 j0=>?_;refine Au rfl (o_z (Aj (Ae (Ar rfl ?_))));obtain⟨r2,t0,hm⟩:=bs hm;obtain⟨m1,t0⟩:=FV t0;refine Po (MI j0 m1) rfl rfl λs2 t2 n1 w0 j0=>?_;rw[t0]at j0;refine o_z (Aj (Ae (Ar rfl ?_)));obtain⟨u2,o1,hm⟩:=bs hm;refine BM (O:=n1) (Hn j0 o1) rfl λv2 w2 p1 y0 d0=>?_;obtain⟨x2,y2,rfl⟩:=d0.form;refine Au rfl (o_z (Aj (Aj (Ae (Ar rfl ?_)))));obtain⟨q1,r1,hm⟩:=bs hm;refine BO (O:=p1) (EL (λ_ h=>h) (d0).all r1) rfl λz2 z0 s1 u0 t1=>?_;obtain rfl:=t1.bool;cases q1
 case false =>
  replace hm:=iF hm;refine Cx rfl (o_z (Am rfl (Aj (Ae (Da rfl (Au rfl (Au rfl (o_z (AD ?_)))))))));obtain rfl:=sm hm;replace hB:=(((hB.st v0).st w0).st y0).st u0;exact X3 rfl (AC rfl) (AC rfl) ⟨hB.ext,_,_,rfl,(Vb.mono (F:=Fr 0 z0 s1) (Vb.nil _ _) hB.out),(vErr (by decide))⟩
 replace hm:=iT hm;refine Cw rfl (o_z (Ah rfl (AE (Aj (Ae (Ar rfl (Au rfl (Au rfl (o_z (AD ?_))))))))));replace d0:=d0.st u0;obtain⟨u1,v1,d0⟩:=d0.freeze;obtain rfl:=sm hm;replace hB:=((((hB.st v0).st w0).st y0).st u0).st v1;exact X3 rfl (AC rfl) (AC rfl) ⟨hB.ext,_,_,rfl,(Vb.mono (F:=Fr 0 z0 u1) d0 hB.out),(vErr (W3 0))⟩
noncomputable def FT(g:List Fct)(h:List Fct):Option ((List Fct)×Bool) :=
  bnd (bnd (Cr g) λb=>if b=true then bnd (Cr h) λc=>if c=true then some false else some true else some true:Option Bool) λi=>if i=true then(some (([]:List Fct),false))else(bnd (Bd g) λd=>bnd (X6 16 d h) λe=>bnd (GF e) λa=>bnd (if a.2.n=0 then(some true)else(some false):Option Bool) λf=>some (a.1,f))
section
attribute [local irreducible] Vb Lc Rw Ob
theorem Pb{w:World}{A:Nat->Prop}(hA:∀k,A k->k<w.heap.size){c:Value}{i:List Fct}(l:Vb w A c i){d:Value}{j:List Fct}(m:Vb w A d j){r:(List Fct)×Bool}(hm:FT i j=some r) :
    Fn prog 115 [c,d] w λv w'=>Ext w w'/\T2 w' (upA A w w') v r:=by
 obtain⟨_,_,_⟩:=Db hA;apply CZ l;intros;apply CZ m;intros;refine AG func115 rfl ntmps115 ?_;unfold FT at hm;refine Aj (Ae (Au rfl (Au rfl (o_z (Aj (Aj (Dp (X:=Unit) hm [0,1] [] [] [] (λ_ _ e _ t=>(15,.bool e)::t) (λ_ _ _ _ t=>t) ?_ ?_)))))))
 ·intro e a;refine Ae (Ar rfl ?_);obtain⟨n,i0,a⟩:=bs a;refine DE rfl (EL (λ_ y=>y) zA i0) ?_;intros;cases n
  case false =>
   replace a:=iF a;refine Cx rfl (Ar rfl (Ay rfl rfl (Ay rfl rfl (Ay rfl rfl (AV rfl rfl (o_z ?_))))));obtain rfl:=sm a;exact Bb ()
  replace a:=iT a;refine Cw rfl (Ar rfl (Az rfl rfl (Ar rfl (Az rfl rfl ?_))));obtain⟨o,k0,a⟩:=bs a;refine DE rfl (EL (λ_ y=>y) zA k0) ?_;intros;cases o
  case false =>
   replace a:=iF a;refine Az rfl rfl (Cx rfl (AS rfl rfl (o_z ?_)));obtain rfl:=sm a;exact Bb ()
  replace a:=iT a;refine Az rfl rfl (Cw rfl (AS rfl rfl (o_z ?_)));obtain rfl:=sm a;exact Bb ()
 intro e _ _ _ _ hm;intros;refine BP ?_;refine Bx rfl (λf=>?_) (λf=>?_)
 ·replace hm:=ip hm f;refine Aj (Ae (Au rfl (Au rfl (o_z (AD ?_)))));obtain rfl:=sm hm;exact Ge
 replace hm:=im' hm f;refine AE (Aj (Ae (Ar rfl ?_)));obtain⟨s,l0,hm⟩:=bs hm;refine UU 2 rfl (Bt Fr.lt zV l0) ?_;intros;refine ac ?_;obtain⟨u,m0,hm⟩:=bs hm;refine LP m0 ?_;intros;refine GP 2 ?_;intros;obtain⟨x,n0,hm⟩:=bs hm;refine KB rfl (Pa Fr.lt zV n0) λ_ _ _ _ _ p q=>?_;apply Dw p;intros;apply Dw q;intros;refine Ar rfl (AZ rfl rfl (AZ rfl rfl (Au rfl (Au rfl (o_z (Aj (Dp (X:=Unit) hm [] [6] [] [] (λv _ g _ t=>(4,(v 6))::(5,.bool g)::t) (λ_ _ _ _ t=>t) ?_ ?_)))))))
 ·intro g b;refine Qy (Ci (FH 0 5)) ?_;refine AM rfl rfl (AM rfl rfl (AB rfl (AY (λ_ _=>Sg rfl) (λh=>?_) (λh=>?_))))
  ·replace b:=ip b h;refine CY rfl rfl (CY rfl rfl (h_z ?_));obtain rfl:=sm b;exact Bb ()
  replace b:=im b h;refine CY rfl rfl (CY rfl rfl (h_z ?_));obtain rfl:=sm b;exact Bb ()
 intro g _ _ _ _ hm;intros;refine BP ?_;refine AD ?_;obtain rfl:=sm hm;exact Ge
end
noncomputable def EC(m:List (List Fct))(n:List (List Fct)):Option ((List (List Fct))×Err) :=
  bnd (rng (ρ:=(List (List Fct))×Err) (λ(o:Nat)(k:List Fct)(e:(List (List Fct))×(List (List Fct)))=>bnd (rng (ρ:=Ctl ((List (List Fct))×(List (List Fct))) ((List (List Fct))×Err)) (λ(p:Nat)(l:List Fct)(a:(List (List Fct))×(List (List Fct)))=>bnd (FT k l) λb=>if(!b.2)=true then(some (.next (a.1,a.2)))else(bnd (AU a.2 b.1) λf=>if f.2=true then(some (.next (a.1,a.2)))else(if(a.1.length:Int)=1024 then(some (.ret (.ret (([]:List (List Fct)),(⟨5⟩:Err)))))else(bnd (Cc a.2 f.1 [b.1]) λg=>bnd (X6 24 a.1 [b.1]) λh=>some (.next (h,g)))))) n 0 (e.1,e.2)) λd=>fin d λ(c:(List (List Fct))×(List (List Fct)))=>some (.next (c.1,c.2))) m 0 (([]:List (List Fct)),([]:List (List Fct)))) λi=>fin i λ(j:(List (List Fct))×(List (List Fct)))=>some (j.1,(⟨0⟩:Err))
theorem Iy{w:World}{A:Nat->Prop}(hA:∀k,A k->k<w.heap.size){vx0:Value}{x0:List (List Fct)}(i1:Vb w A vx0 x0){vx1:Value}{x1:List (List Fct)}(j1:Vb w A vx1 x1){r:(List (List Fct))×Err}(hm:EC x0 x1=some r) :
    Fn prog 88 [vx0,vx1] w λv w'=>Ext w w'/\T2 w' (upA A w w') v r:=by
 obtain⟨O,hB,h4⟩:=enter hA;obtain⟨A3,c4,rfl⟩:=i1.form;obtain⟨A5,c6,rfl⟩:=j1.form;refine AG func88 rfl ntmps88 ?_;unfold EC at hm;refine Aj (Ae (Au rfl (Au rfl (o_z (Aj (Ae (Au rfl (Au rfl (o_z (Aj (Aj (Ae (Ar rfl (AO rfl ?_))))))))))))));have l8:=Bj i1.len;have r7:=rngNat l8;refine Ar rfl (o_z ?_);obtain⟨t2,k1,hm⟩:=bs hm;refine Dg (X:=(Option Addr×Nat)×(Option Addr×Nat)) (x0.length) k1 rfl l8 (λl0 d0=>[(1,(.slice A5 x1.length c6)),(6,(.slice d0.1.1 l0.1.length d0.1.2)),(7,(.slice d0.2.1 l0.2.length d0.2.2)),(16,(.slice A3 x0.length c4))]) (λl0 d0 w'=>∃O':Lab,Bs w A w' O'/\Rw 4 w' O' 23 (.slice d0.1.1 l0.1.length d0.1.2) l0.1/\Rw 3 w' O' 23 (.slice d0.2.1 l0.2.length d0.2.2) l0.2) ((none,0),(none,0)) ⟨O,hB,(Rw.nil 4 (by decide)),(Rw.nil 3 (by decide))⟩ Af (λ_ _=>rfl) ?_ ?_
 ·rintro u2 l1 l0 d0 i4 v2 z0 ⟨w2,hB,a1,o2⟩ e0 q0 m1;have rk13:=YV z0 l8;refine Aj (Ae ?_);obtain⟨j4,k4,x2,n1,o1,p1,l4,rfl,g0⟩:=(i1.zs hA hB).elem' z0;replace g0:=Vb.of_slice g0;obtain⟨p2,q2,rfl⟩:=g0.form;refine BA (hA:=n1) (hj:=rfl) (hlt:=o1) rfl rfl (AL (hc:=cat0 p1) rfl (Au rfl (o_z (Aj (Ae (Ar rfl (AO rfl ?_)))))));have q1:=Bj j1.len;have m4:=rngNat q1;refine Ar rfl (o_z ?_);obtain⟨r2,r1,e0⟩:=bs e0;refine Dg (X:=(Option Addr×Nat)×(Option Addr×Nat)) (x1.length) r1 rfl q1 (λm0 c0=>[(1,(.slice A5 x1.length c6)),(6,(.slice c0.1.1 m0.1.length c0.1.2)),(7,(.slice c0.2.1 m0.2.length c0.2.2)),(9,(.slice p2 l1.length q2)),(16,(.slice A3 x0.length c4)),(17,(.int .i64 (x0.length:Int))),(18,(.int .i64 (u2:Int))),(22,(.slice A5 x1.length c6))]) (λm0 c0 w'=>∃O':Lab,Bs w A w' O'/\Rw 4 w' O' 23 (.slice c0.1.1 m0.1.length c0.1.2) m0.1/\Rw 3 w' O' 23 (.slice c0.2.1 m0.2.length c0.2.2) m0.2/\Vb w' (Fr 0 w' O') (.slice p2 l1.length q2) l1) ((d0.1.1,d0.1.2),(d0.2.1,d0.2.2)) ⟨w2,hB,a1,o2,g0⟩ Eo (λ_ _=>rfl) ?_ ?_
  ·rintro n4 o4 m0 c0 p4 y2 b1 ⟨z2,hB,h0,i0,g0⟩ a0 r0 s1;have rk49:=YV b1 q1;refine Aj (Ae ?_);obtain⟨q4,r4,a3,t1,u1,v1,s4,rfl,h1⟩:=(j1.zs hA hB).elem' b1;replace h1:=Vb.of_slice h1;obtain⟨t4,u4,rfl⟩:=h1.form;refine BA (hA:=t1) (hj:=rfl) (hlt:=u1) rfl rfl (AL (hc:=cat0 v1) rfl (Au rfl (o_z (Aj (Ae (Ar rfl (Ar rfl ?_)))))));obtain⟨w1,b3,a0⟩:=bs a0;refine Ey (O:=z2) (R:=λw' F v=>T2 w' F v w1) (Pb Fr.lt g0 h1 b3) rfl λv4 c3 d3 f0 e3=>?_;obtain⟨w4,x4,rfl,n0,f3⟩:=e3;obtain⟨y4,z4,rfl⟩:=n0.form;obtain rfl:=f3.bool;refine Ar rfl (AZ rfl rfl (AZ rfl rfl (Au rfl (Au rfl (o_z (Aj (Aj (Ae (Ar rfl (Em rfl (o_z (Bx rfl (λy1=>?_) (λy1=>?_)))))))))))))
   ·replace a0:=ip a0 y1;refine Cl ?_;obtain rfl:=sm a0;exact show Exists _ from⟨_,((c0.1.1,c0.1.2),(c0.2.1,c0.2.2)),rfl,Eo,_,hB.st f0,h0.st f0,i0.st f0,g0.st f0⟩
   replace a0:=im' a0 y1;refine AE (Aj (Ae (Ar rfl (Ar rfl ?_))));obtain⟨g3,h3,a0⟩:=bs a0;replace i0:=i0.st f0;refine Ip (O:=d3) (A:=All c3) (R:=λw' F v=>T2 w' F v g3) (DW (λ_ h=>h) (i0).all (vMo n0) h3) rfl rfl λa5 i3 s2 j0 j3=>?_;obtain⟨k3,l3,rfl,z1,a2⟩:=j3;obtain⟨rfl,b2⟩:=z1.int;obtain rfl:=a2.bool;refine Ar rfl (AZ rfl rfl (AZ rfl rfl (Au rfl (Au rfl (o_z (Aj (Aj (Ae (Ar rfl (o_z (Bx rfl (λs0=>?_) (λs0=>?_))))))))))))
   ·replace a0:=ip a0 s0;refine Cl ?_;obtain rfl:=sm a0;exact show Exists _ from⟨_,((c0.1.1,c0.1.2),(c0.2.1,c0.2.2)),rfl,Eo,_,(hB.st f0).st j0,(h0.st f0).st j0,i0.st j0,(g0.st f0).st j0⟩
   replace a0:=im' a0 s0;refine AE (Aj (Aj (Ae (Ar rfl (AO rfl ?_)))));replace h0:=(h0.st f0).st j0;have c2:=Bj h0.len;have m3:=rngNat c2;refine EH rfl rfl (λt0=>?_) λt0=>?_
   ·replace a0:=ip a0 t0;refine o_z (Am rfl (Aj (Ae (Da rfl (Au rfl (Au rfl (o_z (AD ?_))))))));obtain rfl:=sm a0;obtain rfl:=r0 _ rfl;obtain rfl:=sm (Bp e0);obtain rfl:=q0 _ rfl;obtain rfl:=sm (Bp hm);replace hB:=(hB.st f0).st j0;exact X3 rfl (AC rfl) (AC rfl) ⟨hB.ext,_,_,rfl,(Vb.mono (F:=Fr 0 i3 s2) (Vb.nil _ _) hB.out),(vErr (by decide))⟩
   replace a0:=im a0 t0;refine o_z (Ah rfl (AE (Aj (Ae (Ar rfl (Ar rfl (Ar rfl ?_)))))));replace n0:=n0.st j0;refine CW 2 s2 (xs:=([w1.1]:List (List Fct))) rfl rfl rfl ⟨n0,trivial⟩ λn3 o3 p3 u0 v0=>?_;obtain⟨d2,w0,v0⟩:=v0.freeze;obtain⟨q3,e2,a0⟩:=bs a0;replace i0:=((i0.st j0).st u0).st w0;refine BM (O:=d2) (Hm i0 b2 v0 e2) rfl λr3 s3 t3 c1 d1=>?_;obtain⟨f2,g2,rfl⟩:=d1.form;refine Au rfl (o_z (Ae (Ar rfl (Ar rfl ?_))));obtain⟨u3,y0,a0⟩:=bs a0;obtain⟨y0,h2,i2⟩:=Bw y0;have o0:=(u0.an w0).an c1;replace h0:=h0.st o0;replace n0:=n0.st o0;refine Dl rfl (a:=w1.1) h0 n0 (λ_=>rfl) rfl h2 i2 ⟨rfl,rfl⟩ λv3 j2 k2 w3 x3 e1 f1=>?_;rw[<- y0]at f1 ⊢;refine Au rfl (o_z ?_);obtain rfl:=sm a0;have p0:=((((f0.an j0).an u0).an w0).an c1).an e1;exact show Exists _ from⟨_,((j2,k2),(f2,g2)),rfl,Eo,_,hB.st p0,f1,d1.st e1,g0.st p0⟩
  rintro y3 z3 ⟨a4,k0,rfl,b0,b4,hB,h0,i0,g0⟩;replace e0:=AW e0;obtain rfl:=sm e0;exact show Exists _ from⟨_,((k0.1.1,k0.1.2),(k0.2.1,k0.2.2)),rfl,⟨(Bn b0 _ _ rfl),(Bn b0 _ _ rfl),(Bn b0 _ _ rfl),(Bn b0 _ _ rfl),(Bn b0 _ _ rfl),(Bn b0 _ _ rfl),trivial⟩,_,hB,h0,i0⟩
 rintro d4 l2 ⟨e4,f4,rfl,g1,g4,hB,a1,o2⟩;replace hm:=AW hm;refine AQ _ g1 ?_;refine Aj (Ae (Ar rfl (Au rfl (Au rfl (o_z (AD ?_))))));obtain⟨m2,n2,a1⟩:=a1.freeze;obtain rfl:=sm hm;replace hB:=hB.st n2;exact X3 rfl (AC rfl) (AC rfl) ⟨hB.ext,_,_,rfl,(Vb.mono (F:=Fr 0 l2 m2) a1 hB.out),(vErr (W3 0))⟩
noncomputable def Gs(S:List Int)(X:Opr)(v:Fct):Option ((List (List Fct))×Err) :=
  bnd (rng (ρ:=(List (List Fct))×Err) (λ(Y:Nat)(w:Eff)(x:(List Eff))=>if w.var=v.var then(bnd (X6 40 x [w]) λQ=>some (.next Q))else(some (.next x))) X.effs 0 ([]:List Eff)) λt=>fin t λ(y:(List Eff))=>bnd (W5 ((y.length:Int)-1)) λR=>bnd (lop (ρ:=(List (List Fct))×Err) (λ(a:(List Eff)×(List (List Fct))×Int)=>if(-1)<=a.2.2 then(bnd (if 0<=a.2.2 then(bnd (atI a.1 a.2.2) λz=>if z.val≠v.val then(some (.done a.2.1))else(bnd (atI a.1 a.2.2) λA=>bnd (W5 (a.2.2+1)) λB=>bnd (Zi a.1 B (a.1.length:Int)) λC=>bnd (rng (ρ:=Fin (List (List Fct)) (Ctl ((List Eff)×(List (List Fct))×Int) ((List (List Fct))×Err))) (λ(T:Nat)(l:Eff)(m:(List (List Fct)))=>if l.val=v.val then(some (.next m))else(bnd (Ew S l) λb=>if b.2.n≠0 then(some (.ret (.ret (.ret (([]:List (List Fct)),(⟨b.2.n⟩:Err))))))else(bnd (EC m b.1) λc=>if c.2.n≠0 then(some (.ret (.ret (.ret (([]:List (List Fct)),(⟨c.2.n⟩:Err))))))else(some (.next c.1))))) C 0 [A.cond]) λh=>fin h λ(D:(List (List Fct)))=>bnd (rng (ρ:=Fin (List (List Fct)) (Ctl ((List Eff)×(List (List Fct))×Int) ((List (List Fct))×Err))) (λ(U:Nat)(o:List Fct)(d:(List (List Fct)))=>bnd (AX d o) λE=>if E=true then some (.next d)else bnd (X6 24 d [o]) λF=>some (.next F)) D 0 a.2.1) λi=>fin i λ(G:(List (List Fct)))=>some (.done G)))else(bnd (W5 (a.2.2+1)) λH=>bnd (Zi a.1 H (a.1.length:Int)) λI=>bnd (rng (ρ:=Fin (List (List Fct)) (Ctl ((List Eff)×(List (List Fct))×Int) ((List (List Fct))×Err))) (λ(V:Nat)(p:Eff)(q:(List (List Fct)))=>if p.val=v.val then(some (.next q))else(bnd (Ew S p) λe=>if e.2.n≠0 then(some (.ret (.ret (.ret (([]:List (List Fct)),(⟨e.2.n⟩:Err))))))else(bnd (EC q e.1) λf=>if f.2.n≠0 then(some (.ret (.ret (.ret (([]:List (List Fct)),(⟨f.2.n⟩:Err))))))else(some (.next f.1))))) I 0 [[v]]) λj=>fin j λ(J:(List (List Fct)))=>bnd (rng (ρ:=Fin (List (List Fct)) (Ctl ((List Eff)×(List (List Fct))×Int) ((List (List Fct))×Err))) (λ(W:Nat)(r:List Fct)(g:(List (List Fct)))=>bnd (AX g r) λK=>if K=true then some (.next g)else bnd (X6 24 g [r]) λL=>some (.next L)) J 0 a.2.1) λk=>fin k λ(M:(List (List Fct)))=>some (.done M)):Option (Fin (List (List Fct)) (Ctl ((List Eff)×(List (List Fct))×Int) ((List (List Fct))×Err)))) λN=>fin N λ(O:(List (List Fct)))=>bnd (W5 (a.2.2-1)) λP=>some (.next (a.1,O,P)))else(some (.brk (a.1,a.2.1,a.2.2)))) (y,([]:List (List Fct)),R)) λu=>fin u λ(s:(List Eff)×(List (List Fct))×Int)=>if 1024<(s.2.1.length:Int)then(some (([]:List (List Fct)),(⟨5⟩:Err)))else(some (s.2.1,(⟨0⟩:Err)))
theorem Oh{w:World}{A:Nat->Prop}(hA:∀k,A k->k<w.heap.size){vx0:Value}{x0:List Int}(u6:Vb w A vx0 x0){vx1:Value}{x1:Opr}(xB:Vb w A vx1 x1){vx2:Value}{x2:Fct}(eB:Vb w A vx2 x2){r:(List (List Fct))×Err}(hm:Gs x0 x1 x2=some r) :
    Fn prog 87 [vx0,vx1,vx2] w λv w'=>Ext w w'/\T2 w' (upA A w w') v r:=by
 obtain⟨O,hB,bH⟩:=enter hA;obtain⟨A4,c5,rfl⟩:=u6.form;obtain⟨cH,rfl,v7,v8,rfl,h9,v6,dH,eH⟩:=id xB;obtain⟨fH,gH,rfl⟩:=h9.form;obtain⟨yB,zB,rfl⟩:=v6.form;obtain⟨aC,rfl,rfl,hH,iH⟩:=id eB;refine AG func87 rfl ntmps87 ?_;unfold Gs at hm;refine Aj (Ae (Ea 2 O rfl λjH kH bC cC w6=>?_));refine Ea 3 bC rfl λh1 lH dC fB f0=>?_;refine Au rfl (Au rfl (o_z (Aj (Ae (Au rfl (o_z (Aj (Aj (Ae (AJ rfl ?_))))))))));replace w6:=w6.st fB;refine AL (hc:=Blk.cell (i:=3) (w6.1) rfl) rfl (AO rfl ?_);have x6:=Bj v6.len;have mH:=rngNat x6;refine Ar rfl (o_z ?_);obtain⟨gB,y6,hm⟩:=bs hm;replace hB:=(hB.st cC).st fB;refine Dg (X:=(Option Addr×Nat)) (x1.effs.length) y6 rfl x6 (λi4 e3=>[(0,(.slice A4 x0.length c5)),(5,(.pointer (some ⟨h1,0,none⟩))),(8,(.slice e3.1 i4.length e3.2)),(21,(.slice yB x1.effs.length zB))]) (λi4 e3 w'=>∃O':Lab,Bs w A w' O'/\Lc 3 w' O' h1 61 [(.int .i64 x2.var),(.int .i64 x2.val)]/\Rw 5 w' O' 59 (.slice e3.1 i4.length e3.2) i4) (none,0) ⟨dC,hB,f0,(Rw.nil 5 (by decide))⟩ Af (λ_ _=>rfl) ?_ ?_
 ·rintro nH j4 i4 e3 oH eC k4 ⟨fC,hB,f0,i2⟩ u0 z6 a7;have rk36:=YV k4 x6;refine Aj (Ae ?_);obtain⟨pH,qH,gC,b7,c7,d7,rH,rfl,m6,hC,iC⟩:=(v6.zs hA hB).elem' k4;obtain⟨jC,kC,rfl⟩:=m6.form;refine BA (hA:=b7) (hj:=rfl) (hlt:=c7) rfl rfl (BE (hl:=rfl) (hc:=d7) rfl ?_);refine BL 4 fC λsH tH uH g4 n6=>?_;refine AR n6 rfl rfl rfl (Bg) (allOne) λvH h4 n6=>?_;refine o_z (Aj (Ae (AJ rfl (AL (hc:=Blk.cell (i:=1) (n6.1) rfl) rfl (AJ rfl ?_)))));replace f0:=(f0.st g4).st h4;refine AL (hc:=Blk.cell (i:=0) (f0.1) rfl) rfl (EH rfl rfl (λe7=>?_) λe7=>?_)
  ·replace u0:=ip u0 e7;refine o_z (Am rfl (Ae (Ar rfl (BE (hl:=rfl) (hc:=(n6.1).cellsAt) rfl ?_))));obtain⟨wH,f7,u0⟩:=bs u0;obtain⟨f7,lC,mC⟩:=Bw f7;replace i2:=(i2.st g4).st h4;replace m6:=(m6.st g4).st h4;refine Dl rfl (a:=j4) i2 (Vb.ofAgg (cs:=[(.slice jC j4.cond.length kC),(.int .i64 j4.var),(.int .i64 j4.val)]) (x:=j4) rfl ⟨_,rfl,m6,hC,iC⟩) (λ_=>rfl) rfl lC mC ⟨rfl,rfl⟩ λxH nC oC yH zH iB jB=>?_;rw[<- f7]at jB ⊢;refine Au rfl (o_z ?_);obtain rfl:=sm u0;exact show Exists _ from⟨_,(nC,oC),rfl,Af,_,((hB.st g4).st h4).st iB,f0.st iB,jB⟩
  replace u0:=im u0 e7;refine o_z (Ah rfl (AE ?_));obtain rfl:=sm u0;exact show Exists _ from⟨_,(e3.1,e3.2),rfl,Af,_,(hB.st g4).st h4,f0,(i2.st g4).st h4⟩
 rintro aI bI ⟨cI,kB,rfl,g7,dI,hB,f0,i2⟩;replace hm:=AW hm;refine AQ _ g7 ?_;refine Aj (Ae (Au rfl (o_z (Aj (Aj (Ae (Ar rfl (AO rfl ?_))))))));have pC:=Bj i2.len;have eI:=rngNat pC;obtain⟨fI,lB,hm⟩:=bs hm;have qC:=(Bh lB);refine Hi (he:=lB) rfl rfl (Au rfl (o_z ?_));obtain⟨l4,h7,hm⟩:=bs hm;refine Bc (aft l4 (λ(i0:(List Eff)×(List (List Fct))×Int)(e0:(Option Addr×Nat)×(Option Addr×Nat))=>[(11,(.slice e0.2.1 i0.2.1.length e0.2.2))]) (λi0 e0 w'=>∃O':Lab,Bs w A w' O'/\Rw 11 w' O' 23 (.slice e0.2.1 i0.2.1.length e0.2.2) i0.2.1/\W1 i0.2.2)) ?_ ?_
 ·refine BC ?_;obtain⟨i7,m4,i2⟩:=i2.freeze;replace hB:=hB.st m4;replace f0:=f0.st m4;refine GB (σ:=(List Eff)×(List (List Fct))×Int) (X:=(Option Addr×Nat)×(Option Addr×Nat)) h7 (λ(i0:(List Eff)×(List (List Fct))×Int)(e0:(Option Addr×Nat)×(Option Addr×Nat))=>[(0,(.slice A4 x0.length c5)),(5,(.pointer (some ⟨h1,0,none⟩))),(8,(.slice e0.1.1 i0.1.length e0.1.2)),(11,(.slice e0.2.1 i0.2.1.length e0.2.2)),(12,(.int .i64 i0.2.2))]) _ (λi0 e0 w'=>∃O':Lab,Bs w A w' O'/\Lc 3 w' O' h1 61 [(.int .i64 x2.var),(.int .i64 x2.val)]/\Vb w' (Fr 0 w' O') (.slice e0.1.1 i0.1.length e0.1.2) i0.1/\Rw 11 w' O' 23 (.slice e0.2.1 i0.2.1.length e0.2.2) i0.2.1/\W1 i0.2.2) _ ((kB.1,kB.2),(none,0)) ⟨i7,hB,f0,i2,(Rw.nil 11 (by decide)),qC⟩ Ad ?_;rintro i0 e0 rC mB ⟨j7,hB,f0,b0,h0,n4⟩ g0 n0 j2;refine Aj (Aj (Ae (Ar rfl (Es rfl rfl (λl3=>?_) λl3=>?_))))
  ·replace g0:=ip g0 l3;refine o_z (Am rfl (AE (Aj ?_)));obtain⟨k7,a0,g0⟩:=bs g0;refine Bc (λl' w'=>∃(a2:(List (List Fct))) (e1:(Option Addr×Nat)) (O':Lab),k7=.done a2/\W4 l' [(0,(.slice A4 x0.length c5)),(5,(.pointer (some ⟨h1,0,none⟩))),(8,(.slice e0.1.1 i0.1.length e0.1.2)),(11,(.slice e1.1 a2.length e1.2)),(12,(.int .i64 i0.2.2))]/\Bs w A w' O'/\Lc 3 w' O' h1 61 [(.int .i64 x2.var),(.int .i64 x2.val)]/\Vb w' (Fr 0 w' O') (.slice e0.1.1 i0.1.length e0.1.2) i0.1/\Rw 11 w' O' 23 (.slice e1.1 a2.length e1.2) a2) ?_ ?_
   ·refine BC (Aj (Ae (BE (hl:=rfl) (hc:=(f0.1).cellsAt) rfl ?_)));refine CW 6 j7 (xs:=([x2]:List Fct)) rfl rfl rfl ⟨(eB.zs hA hB),trivial⟩ λsC tC uC o1 m3=>?_;obtain⟨l7,p1,m3⟩:=m3.freeze;refine CW 7 l7 (xs:=([[x2]]:List (List Fct))) rfl rfl rfl ⟨m3,trivial⟩ λm7 n7 o7 q1 n3=>?_;refine Au rfl (o_z (Aj (Aj (Ae (Ar rfl (Es rfl rfl (λo3=>?_) λo3=>?_))))))
    ·replace a0:=ip a0 o3;refine o_z (Am rfl (Aj (Aj ?_)));refine Ct (·=n7) [(0,true),(1,true),(2,true),(3,true),(4,true),(5,true),(6,true),(7,true)] rfl rfl ?_;refine AM rfl rfl (AM rfl rfl ?_);obtain⟨vC,p7,a0⟩:=bs a0;obtain⟨q7,r7⟩:=Cn p7;replace b0:=((b0.st o1).st p1).st q1;obtain⟨wC,xC,nB,o4,p4,q4,yC,rfl,s7,zC,aD⟩:=b0.elem' r7;obtain⟨bD,cD,rfl⟩:=s7.form;refine CX (hA:=o4) (hj:=q7) (hlt:=p4) rfl rfl rfl (Be rfl rfl (Du (hc:=cat2 q4) rfl rfl (Be rfl rfl ?_)));replace f0:=((f0.st o1).st p1).st q1;refine Du (hc:=Blk.cell (i:=1) (f0.1) rfl) rfl rfl (SR rfl rfl rfl rfl (λp3=>?_) λp3=>?_)
     ·replace a0:=ip a0 p3;refine h_z (Am rfl (Cl ?_));obtain rfl:=sm a0;have f3:=(o1.an p1).an q1;exact⟨_,(e0.2.1,e0.2.2),_,rfl,Ad,hB.st f3,f0,b0,h0.st f3⟩
     replace a0:=im a0 p3;refine h_z (Ah rfl (AE (Ae (Ar rfl (Ar rfl ?_)))));obtain⟨t7,u7,a0⟩:=bs a0;obtain⟨w7,x7⟩:=Cn u7;obtain⟨dD,eD,oB,r4,s4,t4,fD,rfl,u4,gD,hD⟩:=b0.elem' x7;obtain⟨iD,jD,rfl⟩:=u4.form;refine BA (hA:=r4) (hj:=w7) (hlt:=s4) rfl rfl (AJ rfl (AL (hc:=cat0 t4) rfl ?_));refine CW 8 o7 (xs:=([t7.cond]:List (List Fct))) rfl rfl rfl ⟨u4,trivial⟩ λy7 kD lD q3 r3=>?_;refine Au rfl (o_z (Aj (Aj (Ae (Ar rfl (Ar rfl ?_))))));obtain⟨mD,v4,a0⟩:=bs a0;have nD:=(Bh v4);refine DM (he:=v4) rfl rfl ?_;obtain⟨k2,z7,a0⟩:=bs a0;replace b0:=b0.st q3;obtain⟨w4,x4,o0,a8⟩:=AcF b0 z7;refine TJ (hc:=a8) rfl rfl rfl (AO rfl ?_);have s3:=Bj o0.len;have oD:=rngNat s3;refine Ar rfl (o_z ?_);obtain⟨b8,y4,a0⟩:=bs a0;obtain⟨c8,l2,r3⟩:=r3.freeze;have g3:=(((o1.an p1).an q1).an q3).an l2;replace hB:=hB.st g3;replace f0:=(f0.st q3).st l2;replace b0:=b0.st l2;replace h0:=h0.st g3;replace o0:=o0.st l2;refine Dg (X:=(Option Addr×Nat)) (k2.length) y4 rfl s3 (λb2 v0=>[(0,(.slice A4 x0.length c5)),(5,(.pointer (some ⟨h1,0,none⟩))),(8,(.slice e0.1.1 i0.1.length e0.1.2)),(11,(.slice e0.2.1 i0.2.1.length e0.2.2)),(12,(.int .i64 i0.2.2)),(13,(.slice v0.1 b2.length v0.2)),(66,(.slice w4 k2.length x4))]) (λb2 v0 w'=>∃O':Lab,Bs w A w' O'/\Lc 3 w' O' h1 61 [(.int .i64 x2.var),(.int .i64 x2.val)]/\Vb w' (Fr 0 w' O') (.slice e0.1.1 i0.1.length e0.1.2) i0.1/\Rw 11 w' O' 23 (.slice e0.2.1 i0.2.1.length e0.2.2) i0.2.1/\Vb w' (Fr 0 w' O') (.slice v0.1 b2.length v0.2) b2/\Vb w' (Fr 0 w' O') (.slice w4 k2.length x4) k2) ((some ⟨y7,0,none⟩),1) ⟨c8,hB,f0,b0,h0,r3,o0⟩ D5 (λ_ _=>rfl) ?_ ?_
     ·rintro pD m2 b2 v0 qD pB h3 ⟨d8,hB,f0,b0,h0,l0,o0⟩ c0 i1 o6;have rk198:=YV h3 s3;refine Aj (Ae ?_);obtain⟨rD,sD,qB,z4,a5,b5,tD,rfl,n2,e8,f8⟩:=o0.elem' h3;obtain⟨g8,h8,rfl⟩:=n2.form;refine BA (hA:=z4) (hj:=rfl) (hlt:=a5) rfl rfl (BE (hl:=rfl) (hc:=b5) rfl ?_);refine BL 9 d8 λuD vD i8 r1 o2=>?_;refine AR o2 rfl rfl rfl (Bg) (allOne) λwD s1 o2=>?_;refine o_z (Aj (Aj (Ae (AJ rfl (AL (hc:=Blk.cell (i:=2) (o2.1) rfl) rfl (AJ rfl ?_))))));replace f0:=(f0.st r1).st s1;refine AL (hc:=Blk.cell (i:=1) (f0.1) rfl) rfl (EH rfl rfl (λt3=>?_) λt3=>?_)
      ·replace c0:=ip c0 t3;refine o_z (Am rfl (Cl ?_));obtain rfl:=sm c0;have w0:=r1.an s1;exact show Exists _ from⟨_,(v0.1,v0.2),rfl,D5,_,hB.st w0,f0,b0.st w0,h0.st w0,l0.st w0,o0.st w0⟩
      replace c0:=im c0 t3;refine o_z (Ah rfl (AE (Aj (Ae (Ar rfl (BE (hl:=rfl) (hc:=(o2.1).cellsAt) rfl ?_))))));obtain⟨j8,k8,c0⟩:=bs c0;replace hB:=(hB.st r1).st s1;replace n2:=(n2.st r1).st s1;refine Ey (O:=i8) (R:=λw' F v=>T2 w' F v j8) (JP Fr.lt (u6.zs hA hB) (Vb.ofAgg (cs:=[(.slice g8 m2.cond.length h8),(.int .i64 m2.var),(.int .i64 m2.val)]) (x:=m2) rfl ⟨_,rfl,n2,e8,f8⟩) k8) rfl λxD l8 d5 t1 m8=>?_;obtain⟨yD,zD,rfl,e5,n8⟩:=m8;obtain⟨aE,bE,rfl⟩:=e5.form;obtain⟨rfl,o8⟩:=n8.err;refine Ar rfl (AZ rfl rfl (AZ rfl rfl (Au rfl (Au rfl (o_z (Aj (Aj (Ae (Ar rfl (Cy rfl (λu3=>?_) λu3=>?_))))))))))
      ·replace c0:=ip c0 u3;refine o_z (Am rfl (Aj (Ae (Ar rfl (Au rfl (Au rfl (o_z (AD ?_))))))));obtain rfl:=sm c0;obtain rfl:=i1 _ rfl;obtain rfl:=sm (Bp a0);obtain rfl:=sm (Bp g0);obtain rfl:=n0 _ rfl;obtain rfl:=sm (Bp hm);replace hB:=hB.st t1;exact X3 rfl (AC rfl) (AC rfl) ⟨hB.ext,_,_,rfl,(Vb.mono (F:=Fr 0 l8 d5) (Vb.nil _ _) hB.out),(vErr o8)⟩
      replace c0:=im c0 u3;refine o_z (Ah rfl (AE (Aj (Ae (Ar rfl (Ar rfl ?_))))));obtain⟨p8,q8,c0⟩:=bs c0;replace l0:=((l0.st r1).st s1).st t1;refine Ey (O:=d5) (R:=λw' F v=>T2 w' F v p8) (Iy Fr.lt l0 e5 q8) rfl λcE r8 s8 p2 t8=>?_;obtain⟨dE,eE,rfl,f5,u8⟩:=t8;obtain⟨w8,x8,rfl⟩:=f5.form;obtain⟨rfl,y8⟩:=u8.err;refine Ar rfl (AZ rfl rfl (AZ rfl rfl (Au rfl (Au rfl (o_z (Aj (Ae (Ar rfl (Cy rfl (λv3=>?_) λv3=>?_)))))))))
      ·replace c0:=ip c0 v3;refine o_z (Am rfl (Aj (Ae (Ar rfl (Au rfl (Au rfl (o_z (AD ?_))))))));obtain rfl:=sm c0;obtain rfl:=i1 _ rfl;obtain rfl:=sm (Bp a0);obtain rfl:=sm (Bp g0);obtain rfl:=n0 _ rfl;obtain rfl:=sm (Bp hm);replace hB:=(hB.st t1).st p2;exact X3 rfl (AC rfl) (AC rfl) ⟨hB.ext,_,_,rfl,(Vb.mono (F:=Fr 0 r8 s8) (Vb.nil _ _) hB.out),(vErr y8)⟩
      replace c0:=im c0 v3;refine o_z (Ah rfl (AE ?_));obtain rfl:=sm c0;have c2:=((r1.an s1).an t1).an p2;exact show Exists _ from⟨_,(w8,x8),rfl,D5,_,(hB.st t1).st p2,(f0.st t1).st p2,b0.st c2,h0.st c2,f5,o0.st c2⟩
     rintro fE gE ⟨q2,r2,rfl,g5,z8,hB,f0,b0,h0,l0,o0⟩;replace a0:=AW a0;refine AQ _ g5 ?_;refine Aj (Ae (Ar rfl (AO rfl ?_)));have w3:=Bj l0.len;have hE:=rngNat w3;refine Ar rfl (o_z ?_);obtain⟨a9,h5,a0⟩:=bs a0;refine Dg (X:=(Option Addr×Nat)) (q2.length) h5 rfl w3 (λd2 y0=>[(0,(.slice A4 x0.length c5)),(5,(.pointer (some ⟨h1,0,none⟩))),(8,(.slice e0.1.1 i0.1.length e0.1.2)),(11,(.slice y0.1 d2.length y0.2)),(12,(.int .i64 i0.2.2)),(96,(.slice r2.1 q2.length r2.2))]) (λd2 y0 w'=>∃O':Lab,Bs w A w' O'/\Lc 3 w' O' h1 61 [(.int .i64 x2.var),(.int .i64 x2.val)]/\Vb w' (Fr 0 w' O') (.slice e0.1.1 i0.1.length e0.1.2) i0.1/\Rw 11 w' O' 23 (.slice y0.1 d2.length y0.2) d2/\Vb w' (Fr 0 w' O') (.slice r2.1 q2.length r2.2) q2) (e0.2.1,e0.2.2) ⟨z8,hB,f0,b0,h0,l0⟩ D3 (λ_ _=>rfl) ?_ ?_
     ·rintro iE i5 d2 y0 jE rB i3 ⟨b9,hB,f0,b0,p0,l0⟩ j0 p6 q6;have rk276:=YV i3 w3;refine Aj (Ae ?_);obtain⟨kE,lE,sB,j5,k5,l5,mE,rfl,q0⟩:=l0.elem' i3;replace q0:=Vb.of_slice q0;obtain⟨nE,oE,rfl⟩:=q0.form;refine BA (hA:=j5) (hj:=rfl) (hlt:=k5) rfl rfl (AL (hc:=cat0 l5) rfl ?_);refine BL 10 b9 λpE qE m5 s2 f1=>?_;refine AR f1 rfl rfl rfl (Bg) (allOne) λc9 t2 f1=>?_;refine o_z (Aj (Ae (Ar rfl (Qq rfl rfl rfl ?_))));obtain⟨d9,e9,j0⟩:=bs j0;replace p0:=(p0.st s2).st t2;replace q0:=(q0.st s2).st t2;refine BO (O:=m5) (Dy (λ_ h=>h) (p0).all f1.1 f1.1.lt (Rp.mono (F:=Fr 0 c9 m5) (x:=i5) (Vb.cells1 q0) Fr.lt) e9) rfl λrE sE tE u1 f9=>?_;obtain rfl:=f9.bool;cases d9
      case false =>
       replace j0:=iF j0;refine Cx rfl (o_z (Am rfl (Ae (Ar rfl ?_))));replace f1:=f1.st u1;refine AL (hc:=Blk.cell (i:=0) (f1.1) rfl) rfl ?_;obtain⟨uE,x3,j0⟩:=bs j0;obtain⟨x3,g9,i9⟩:=Bw x3;replace p0:=p0.st u1;replace q0:=q0.st u1;refine Dl rfl (a:=i5) p0 q0 (λ_=>rfl) rfl g9 i9 ⟨rfl,rfl⟩ λvE j9 k9 wE xE l9 n5=>?_;rw[<- x3]at n5 ⊢;refine Au rfl (o_z ?_);obtain rfl:=sm j0;have j1:=((s2.an t2).an u1).an l9;exact show Exists _ from⟨_,(j9,k9),rfl,D3,_,hB.st j1,f0.st j1,b0.st j1,n5,l0.st j1⟩
      replace j0:=iT j0;refine Cw rfl (o_z (Ah rfl (AE ?_)));obtain rfl:=sm j0;have k1:=(s2.an t2).an u1;exact show Exists _ from⟨_,(y0.1,y0.2),rfl,D3,_,hB.st k1,f0.st k1,b0.st k1,p0.st u1,l0.st k1⟩
     rintro yE zE ⟨aF,o5,rfl,z0,bF,hB,f0,b0,p0,l0⟩;replace a0:=AW a0;obtain rfl:=sm a0;exact⟨_,(o5.1,o5.2),_,rfl,⟨(Bn z0 _ _ rfl),(Bn z0 _ _ rfl),(Bn z0 _ _ rfl),(Bn z0 _ _ rfl),(Bn z0 _ _ rfl),trivial⟩,hB,f0,b0,p0⟩
    replace a0:=im a0 o3;refine o_z (Ah rfl (AE (Aj (Aj (Ae (Ar rfl (Ar rfl ?_)))))));obtain⟨cF,p5,a0⟩:=bs a0;have dF:=(Bh p5);refine DM (he:=p5) rfl rfl ?_;obtain⟨u2,m9,a0⟩:=bs a0;replace b0:=((b0.st o1).st p1).st q1;obtain⟨q5,r5,r0,n9⟩:=AcF b0 m9;refine TJ (hc:=n9) rfl rfl rfl (AO rfl ?_);have y3:=Bj r0.len;have eF:=rngNat y3;refine Ar rfl (o_z ?_);obtain⟨o9,s5,a0⟩:=bs a0;obtain⟨p9,z3,n3⟩:=n3.freeze;have e2:=((o1.an p1).an q1).an z3;replace hB:=hB.st e2;replace f0:=f0.st e2;replace b0:=b0.st z3;replace h0:=h0.st e2;replace r0:=r0.st z3;refine Dg (X:=(Option Addr×Nat)) (u2.length) s5 rfl y3 (λf2 a1=>[(0,(.slice A4 x0.length c5)),(5,(.pointer (some ⟨h1,0,none⟩))),(8,(.slice e0.1.1 i0.1.length e0.1.2)),(11,(.slice e0.2.1 i0.2.1.length e0.2.2)),(12,(.int .i64 i0.2.2)),(13,(.slice a1.1 f2.length a1.2)),(66,(.slice q5 u2.length r5))]) (λf2 a1 w'=>∃O':Lab,Bs w A w' O'/\Lc 3 w' O' h1 61 [(.int .i64 x2.var),(.int .i64 x2.val)]/\Vb w' (Fr 0 w' O') (.slice e0.1.1 i0.1.length e0.1.2) i0.1/\Rw 11 w' O' 23 (.slice e0.2.1 i0.2.1.length e0.2.2) i0.2.1/\Vb w' (Fr 0 w' O') (.slice a1.1 f2.length a1.2) f2/\Vb w' (Fr 0 w' O') (.slice q5 u2.length r5) u2) ((some ⟨m7,0,none⟩),1) ⟨p9,hB,f0,b0,h0,n3,r0⟩ D5 (λ_ _=>rfl) ?_ ?_
    ·rintro fF v2 f2 a1 gF tB j3 ⟨q9,hB,f0,b0,h0,m0,r0⟩ d0 l1 r6;have rk349:=YV j3 y3;refine Aj (Ae ?_);obtain⟨hF,jF,uB,t5,u5,v5,kF,rfl,w2,r9,s9⟩:=r0.elem' j3;obtain⟨t9,u9,rfl⟩:=w2.form;refine BA (hA:=t5) (hj:=rfl) (hlt:=u5) rfl rfl (BE (hl:=rfl) (hc:=v5) rfl ?_);refine BL 9 q9 λlF mF v9 v1 y2=>?_;refine AR y2 rfl rfl rfl (Bg) (allOne) λnF w1 y2=>?_;refine o_z (Aj (Aj (Ae (AJ rfl (AL (hc:=Blk.cell (i:=2) (y2.1) rfl) rfl (AJ rfl ?_))))));replace f0:=(f0.st v1).st w1;refine AL (hc:=Blk.cell (i:=1) (f0.1) rfl) rfl (EH rfl rfl (λa4=>?_) λa4=>?_)
     ·replace d0:=ip d0 a4;refine o_z (Am rfl (Cl ?_));obtain rfl:=sm d0;have b1:=v1.an w1;exact show Exists _ from⟨_,(a1.1,a1.2),rfl,D5,_,hB.st b1,f0,b0.st b1,h0.st b1,m0.st b1,r0.st b1⟩
     replace d0:=im d0 a4;refine o_z (Ah rfl (AE (Aj (Ae (Ar rfl (BE (hl:=rfl) (hc:=(y2.1).cellsAt) rfl ?_))))));obtain⟨w9,x9,d0⟩:=bs d0;replace hB:=(hB.st v1).st w1;replace w2:=(w2.st v1).st w1;refine Ey (O:=v9) (R:=λw' F v=>T2 w' F v w9) (JP Fr.lt (u6.zs hA hB) (Vb.ofAgg (cs:=[(.slice t9 v2.cond.length u9),(.int .i64 v2.var),(.int .i64 v2.val)]) (x:=v2) rfl ⟨_,rfl,w2,r9,s9⟩) x9) rfl λoF y9 w5 y1 z9=>?_;obtain⟨pF,qF,rfl,x5,aA⟩:=z9;obtain⟨rF,sF,rfl⟩:=x5.form;obtain⟨rfl,bA⟩:=aA.err;refine Ar rfl (AZ rfl rfl (AZ rfl rfl (Au rfl (Au rfl (o_z (Aj (Aj (Ae (Ar rfl (Cy rfl (λb4=>?_) λb4=>?_))))))))))
     ·replace d0:=ip d0 b4;refine o_z (Am rfl (Aj (Ae (Ar rfl (Au rfl (Au rfl (o_z (AD ?_))))))));obtain rfl:=sm d0;obtain rfl:=l1 _ rfl;obtain rfl:=sm (Bp a0);obtain rfl:=sm (Bp g0);obtain rfl:=n0 _ rfl;obtain rfl:=sm (Bp hm);replace hB:=hB.st y1;exact X3 rfl (AC rfl) (AC rfl) ⟨hB.ext,_,_,rfl,(Vb.mono (F:=Fr 0 y9 w5) (Vb.nil _ _) hB.out),(vErr bA)⟩
     replace d0:=im d0 b4;refine o_z (Ah rfl (AE (Aj (Ae (Ar rfl (Ar rfl ?_))))));obtain⟨cA,dA,d0⟩:=bs d0;replace m0:=((m0.st v1).st w1).st y1;refine Ey (O:=w5) (R:=λw' F v=>T2 w' F v cA) (Iy Fr.lt m0 x5 dA) rfl λtF eA fA z2 gA=>?_;obtain⟨uF,vF,rfl,y5,iA⟩:=gA;obtain⟨jA,kA,rfl⟩:=y5.form;obtain⟨rfl,lA⟩:=iA.err;refine Ar rfl (AZ rfl rfl (AZ rfl rfl (Au rfl (Au rfl (o_z (Aj (Ae (Ar rfl (Cy rfl (λc4=>?_) λc4=>?_)))))))))
     ·replace d0:=ip d0 c4;refine o_z (Am rfl (Aj (Ae (Ar rfl (Au rfl (Au rfl (o_z (AD ?_))))))));obtain rfl:=sm d0;obtain rfl:=l1 _ rfl;obtain rfl:=sm (Bp a0);obtain rfl:=sm (Bp g0);obtain rfl:=n0 _ rfl;obtain rfl:=sm (Bp hm);replace hB:=(hB.st y1).st z2;exact X3 rfl (AC rfl) (AC rfl) ⟨hB.ext,_,_,rfl,(Vb.mono (F:=Fr 0 eA fA) (Vb.nil _ _) hB.out),(vErr lA)⟩
     replace d0:=im d0 c4;refine o_z (Ah rfl (AE ?_));obtain rfl:=sm d0;have g2:=((v1.an w1).an y1).an z2;exact show Exists _ from⟨_,(jA,kA),rfl,D5,_,(hB.st y1).st z2,(f0.st y1).st z2,b0.st g2,h0.st g2,y5,r0.st g2⟩
    rintro wF xF ⟨a3,b3,rfl,z5,mA,hB,f0,b0,h0,m0,r0⟩;replace a0:=AW a0;refine AQ _ z5 ?_;refine Aj (Ae (Ar rfl (AO rfl ?_)));have d4:=Bj m0.len;have yF:=rngNat d4;refine Ar rfl (o_z ?_);obtain⟨nA,a6,a0⟩:=bs a0;refine Dg (X:=(Option Addr×Nat)) (a3.length) a6 rfl d4 (λh2 c1=>[(0,(.slice A4 x0.length c5)),(5,(.pointer (some ⟨h1,0,none⟩))),(8,(.slice e0.1.1 i0.1.length e0.1.2)),(11,(.slice c1.1 h2.length c1.2)),(12,(.int .i64 i0.2.2)),(96,(.slice b3.1 a3.length b3.2))]) (λh2 c1 w'=>∃O':Lab,Bs w A w' O'/\Lc 3 w' O' h1 61 [(.int .i64 x2.var),(.int .i64 x2.val)]/\Vb w' (Fr 0 w' O') (.slice e0.1.1 i0.1.length e0.1.2) i0.1/\Rw 11 w' O' 23 (.slice c1.1 h2.length c1.2) h2/\Vb w' (Fr 0 w' O') (.slice b3.1 a3.length b3.2) a3) (e0.2.1,e0.2.2) ⟨mA,hB,f0,b0,h0,m0⟩ D3 (λ_ _=>rfl) ?_ ?_
    ·rintro zF b6 h2 c1 aG vB k3 ⟨oA,hB,f0,b0,s0,m0⟩ k0 s6 t6;have rk427:=YV k3 d4;refine Aj (Ae ?_);obtain⟨bG,cG,wB,c6,d6,e6,dG,rfl,t0⟩:=m0.elem' k3;replace t0:=Vb.of_slice t0;obtain⟨eG,fG,rfl⟩:=t0.form;refine BA (hA:=c6) (hj:=rfl) (hlt:=d6) rfl rfl (AL (hc:=cat0 e6) rfl ?_);refine BL 10 oA λgG hG f6 c3 g1=>?_;refine AR g1 rfl rfl rfl (Bg) (allOne) λpA d3 g1=>?_;refine o_z (Aj (Ae (Ar rfl (Qq rfl rfl rfl ?_))));obtain⟨qA,rA,k0⟩:=bs k0;replace s0:=(s0.st c3).st d3;replace t0:=(t0.st c3).st d3;refine BO (O:=f6) (Dy (λ_ h=>h) (s0).all g1.1 g1.1.lt (Rp.mono (F:=Fr 0 pA f6) (x:=b6) (Vb.cells1 t0) Fr.lt) rA) rfl λiG jG kG z1 sA=>?_;obtain rfl:=sA.bool;cases qA
     case false =>
      replace k0:=iF k0;refine Cx rfl (o_z (Am rfl (Ae (Ar rfl ?_))));replace g1:=g1.st z1;refine AL (hc:=Blk.cell (i:=0) (g1.1) rfl) rfl ?_;obtain⟨lG,e4,k0⟩:=bs k0;obtain⟨e4,tA,uA⟩:=Bw e4;replace s0:=s0.st z1;replace t0:=t0.st z1;refine Dl rfl (a:=b6) s0 t0 (λ_=>rfl) rfl tA uA ⟨rfl,rfl⟩ λmG vA wA nG oG xA g6=>?_;rw[<- e4]at g6 ⊢;refine Au rfl (o_z ?_);obtain rfl:=sm k0;have m1:=((c3.an d3).an z1).an xA;exact show Exists _ from⟨_,(vA,wA),rfl,D3,_,hB.st m1,f0.st m1,b0.st m1,g6,m0.st m1⟩
     replace k0:=iT k0;refine Cw rfl (o_z (Ah rfl (AE ?_)));obtain rfl:=sm k0;have n1:=(c3.an d3).an z1;exact show Exists _ from⟨_,(c1.1,c1.2),rfl,D3,_,hB.st n1,f0.st n1,b0.st n1,s0.st z1,m0.st n1⟩
    rintro pG qG ⟨rG,h6,rfl,d1,sG,hB,f0,b0,s0,m0⟩;replace a0:=AW a0;obtain rfl:=sm a0;exact⟨_,(h6.1,h6.2),_,rfl,⟨(Bn d1 _ _ rfl),(Bn d1 _ _ rfl),(Bn d1 _ _ rfl),(Bn d1 _ _ rfl),(Bn d1 _ _ rfl),trivial⟩,hB,f0,b0,s0⟩
   rintro tG uG ⟨a2,e1,vG,rfl,i6,hB,f0,b0,yA⟩;replace g0:=AW g0;refine AQ _ i6 ?_;refine Ae (Ar rfl ?_);obtain⟨wG,j6,g0⟩:=bs g0;have zA:=(Bh j6);refine Hi (he:=j6) rfl rfl (Au rfl (o_z ?_));obtain rfl:=sm g0;exact show Exists _ from⟨_,((e0.1.1,e0.1.2),(e1.1,e1.2)),rfl,Ad,_,hB,f0,b0,yA,zA⟩
  replace g0:=im g0 l3;refine o_z (Ah rfl (Cl ?_));obtain rfl:=sm g0;exact show Exists _ from⟨_,((e0.1.1,e0.1.2),(e0.2.1,e0.2.2)),j2 _ rfl,B3,_,hB,h0,n4⟩
 rintro xG k6 ⟨yG,zG,rfl,l6,aB,hB,h0,n4⟩;replace hm:=AW hm;refine AQ _ l6 ?_;refine Aj (Aj (Ae (Ar rfl (AO rfl ?_))));have bB:=Bj h0.len;have aH:=rngNat bB;refine Cq rfl rfl (λf4=>?_) λf4=>?_
 ·replace hm:=ip hm f4;refine o_z (Am rfl (Aj (Ae (Da rfl (Au rfl (Au rfl (o_z (AD ?_))))))));obtain rfl:=sm hm;exact X3 rfl (AC rfl) (AC rfl) ⟨hB.ext,_,_,rfl,(Vb.mono (F:=Fr 0 k6 aB) (Vb.nil _ _) hB.out),(vErr (by decide))⟩
 replace hm:=im hm f4;refine o_z (Ah rfl (AE (Aj (Ae (Ar rfl (Au rfl (Au rfl (o_z (AD ?_)))))))));obtain⟨cB,dB,h0⟩:=h0.freeze;obtain rfl:=sm hm;replace hB:=hB.st dB;exact X3 rfl (AC rfl) (AC rfl) ⟨hB.ext,_,_,rfl,(Vb.mono (F:=Fr 0 k6 cB) h0 hB.out),(vErr (W3 0))⟩
noncomputable def Fy(e:Tsk)(r:Int)(s:List Fct):Option ((List (List Fct))×Err) :=
  bnd (CE e) λf=>if f.n≠0 then(some (([]:List (List Fct)),(⟨f.n⟩:Err)))else(bnd (if r<0 then(some true)else(if(e.ops.length:Int)<=r then(some true)else(some false)):Option Bool) λt=>if t=true then(some (([]:List (List Fct)),(⟨1⟩:Err)))else(bnd (EJ e.vars s) λu=>if u=true then bnd (atI e.ops r) λg=>bnd (mkI 24 (([]:List (List Fct)):List (List Fct)) (s.length:Int)) λh=>bnd (rng (ρ:=(List (List Fct))×Err) (λ(i:Nat)(v:Fct)(j:(List (List (List Fct))))=>bnd (Gs e.vars g v) λa=>if a.2.n≠0 then(some (.ret (([]:List (List Fct)),(⟨a.2.n⟩:Err))))else(bnd (j[i]?) λw=>some (.next (j.set i a.1)))) s 0 h) λd=>fin d λ(k:(List (List (List Fct))))=>bnd (Bd g.pre) λl=>bnd (rng (ρ:=(List (List Fct))×Err) (λ(m:Nat)(x:List (List Fct))(o:(List (List Fct)))=>bnd (k[m]?) λp=>bnd (EC o p) λb=>if b.2.n≠0 then(some (.ret (([]:List (List Fct)),(⟨b.2.n⟩:Err))))else(some (.next b.1))) h 0 [l]) λc=>fin c λ(q:(List (List Fct)))=>some (q,(⟨0⟩:Err))else some (([]:List (List Fct)),(⟨2⟩:Err))))
section
attribute [local irreducible] Vb Lc Rw Ob
theorem Ma{w:World}{A:Nat->Prop}(hA:∀k,A k->k<w.heap.size){d:Value}{q:Tsk}(z0:Vb w A d q){g:Int}(x:W1 g){e:Value}{s:List Fct}(y:Vb w A e s){r:(List (List Fct))×Err}(hm:Fy q g s=some r) :
    Fn prog 58 [d,(.int .i64 g),e] w λv w'=>Ext w w'/\T2 w' (upA A w w') v r:=by
 obtain⟨_,_,_⟩:=Db hA;apply CZ z0;intros;apply CZ y;intros;refine AG func58 rfl ntmps58 ?_;unfold Fy at hm;refine Aj (Ae (Gx 2 ?_));intros;refine Au rfl (Au rfl (o_z (Aj (Aj (Ae (Ep ?_))))));obtain⟨I,b1,hm⟩:=bs hm;refine DE rfl (FY (λ_ Y=>Y) zA b1) ?_;intros;refine Au rfl (o_z (Aj (Ae (Ar rfl (Cy rfl (λh=>?_) λh=>?_)))))
 ·replace hm:=ip hm h;refine o_z (Am rfl (Aj (Ae (Ar rfl (Au rfl (Au rfl (o_z (AD ?_))))))));obtain rfl:=sm hm;exact Ge
 replace hm:=im hm h;refine o_z (Ah rfl (AE (Aj (Aj (Dp (X:=Unit) hm [1,2,3] [] [] [] (λ_ _ i _ t=>(33,.bool i)::t) (λ_ _ _ _ t=>t) ?_ ?_)))))
 ·intro i a;refine Ae (Ar rfl (Cp rfl rfl (λl0=>?_) λl0=>?_))
  ·replace a:=ip a l0;refine Ar rfl (Ay rfl rfl (Ay rfl rfl (Ay rfl rfl (Ay rfl rfl (Ay rfl rfl (AV rfl rfl (o_z ?_)))))));obtain rfl:=sm a;exact Bb ()
  replace a:=im a l0;refine Ar rfl (Az rfl rfl (Ar rfl (Az rfl rfl (AJ rfl (Az rfl rfl (BN (Az rfl rfl (AO rfl (Az rfl rfl (Es rfl rfl (λj=>?_) λj=>?_))))))))))
  ·replace a:=ip a j;refine AS rfl rfl (o_z ?_);obtain rfl:=sm a;exact Bb ()
  replace a:=im a j;refine AS rfl rfl (o_z ?_);obtain rfl:=sm a;exact Bb ()
 intro i _ _ _ _ hm;intros;refine BP ?_;refine Bx rfl (λl=>?_) (λl=>?_)
 ·replace hm:=ip hm l;refine Aj (Ae (Da rfl (Au rfl (Au rfl (o_z (AD ?_))))));obtain rfl:=sm hm;exact Ge
 replace hm:=im' hm l;refine AE (Aj (Aj (Ae (AJ rfl (BN (Ar rfl ?_))))));obtain⟨z,d1,hm⟩:=bs hm;refine DE rfl (HZ (λ_ Y=>Y) zA zA d1) ?_;intros;cases z
 case false =>
  replace hm:=iF hm;refine Cx rfl (o_z (Am rfl (Aj (Ae (Da rfl (Au rfl (Au rfl (o_z (AD ?_)))))))));obtain rfl:=sm hm;exact Ge
 replace hm:=iT hm;refine Cw rfl (o_z (Ah rfl (AE (Aj (Ae (AJ rfl (BN (Ar rfl ?_))))))));obtain⟨J,s1,hm⟩:=bs hm;refine KA ?_;intros;refine Gp ?_;refine Cv 3 ?_;intros;refine BW ?_;intros;refine o_z (Aj (Ae (Ar rfl (AO rfl ?_))));obtain⟨K,e1,hm⟩:=bs hm;refine XI 4 e1 ?_;intros;refine Au rfl (o_z (Aj (Aj (Ae (Ar rfl (AO rfl (Ar rfl (o_z (Fq (X:=Unit) hm [3,9,10,49] [] [4,5] [4] (λ_ _ _ _ t=>t) (λ_ o u _ t=>uR (o 4) 4 u::t) () ?_ ?_)))))))))
 ·intro L M u _ _ _ _ b N _ B;intros;refine Aj (Ae (Ar rfl (FW ?_)));intros;refine Gp ?_;refine Cv 5 ?_;intros;refine Au rfl (BW ?_);intros;refine o_z (Aj (Ae (AJ rfl (BN ?_))));refine Ep ?_;refine Ep ?_;obtain⟨O,o0,b⟩:=bs b;refine KB rfl (Oh Fr.lt zV zV zV o0) λ_ _ _ _ _ C D=>?_;apply Dw C;intros;apply Dw D;intros;refine Ar rfl (AZ rfl rfl (AZ rfl rfl (Au rfl (Au rfl (o_z (Aj (Aj (Ae (Ar rfl (Cy rfl (λm=>?_) λm=>?_))))))))))
  ·replace b:=ip b m;refine o_z (Am rfl (Aj (Ae (Ar rfl (Au rfl (Au rfl (o_z (AD ?_))))))));obtain rfl:=sm b;obtain rfl:=B _ rfl;exact Ge
  replace b:=im b m;refine o_z (Ah rfl (AE (Ae (Ar rfl (Ar rfl (Ar rfl ?_))))));obtain⟨P,i1,b⟩:=bs b;refine FW ?_;intros;refine Qw ?_;intros;refine o_z ?_;exact EI () b
 intro Q _ _ _ _ hm;intros;refine BP ?_;refine Aj (Ae (AJ rfl (BN ?_)));obtain⟨E,s0,hm⟩:=bs hm;refine UU 6 rfl (Bt Fr.lt zV s0) ?_;intros;refine GP 6 ?_;intros;refine GC 7 ([E]:List (List Fct)) ?_;intros;refine Au rfl (o_z (Aj (Aj (Ae (Ar rfl (AO rfl (Ar rfl (o_z (GP 7 ?_)))))))));intros;refine Fq (X:=(Option Addr×Nat)) hm [76] [] [] [] (λ_ _ f n t=>(15,sv n f)::t) (λ_ _ f n t=>fV n f::t) (_,_) ?_ ?_
 ·intro R S f _ _ _ _ c T _ F;intros;refine Aj (Ae ?_);obtain⟨U,n1,c⟩:=bs c;refine FW ?_;intros;refine Le (Au rfl (o_z (Aj (Ae (Ar rfl (Ar rfl ?_))))));obtain⟨V,t0,c⟩:=bs c;refine KB rfl (Iy Fr.lt zV zV t0) λ_ _ _ _ _ G H=>?_;apply Dw G;intros;apply Dw H;intros;refine Ar rfl (AZ rfl rfl (AZ rfl rfl (Au rfl (Au rfl (o_z (Aj (Aj (Ae (Ar rfl (Cy rfl (λp=>?_) λp=>?_))))))))))
  ·replace c:=ip c p;refine o_z (Am rfl (Aj (Ae (Ar rfl (Au rfl (Au rfl (o_z (AD ?_))))))));obtain rfl:=sm c;obtain rfl:=F _ rfl;exact Ge
  replace c:=im c p;refine o_z (Ah rfl (AE (Ae (Ar rfl (Au rfl (o_z ?_))))));exact EI (_,_) c
 intro W _ _ _ _ hm;intros;refine BP ?_;refine Aj (Ae (Ar rfl (Au rfl (Au rfl (o_z (AD ?_))))));obtain rfl:=sm hm;exact Ge
end
noncomputable def CU(k:Tsk)(l:Int)(m:List Fct):Option ((List (List Fct))×Err) :=
  bnd (Fy k l m) λa=>if a.2.n≠0 then(some (([]:List (List Fct)),(⟨a.2.n⟩:Err)))else(bnd (FI a.1) λb=>bnd (if b.length<4611686018427387904 then some (Dh b)else none) λg=>bnd (Zb (ρ:=(List (List Fct))×Err) (λ(c:Nat)(d:(List (List Fct)))=>bnd (d[c]?) λh=>bnd (Bd h) λi=>bnd (d[c]?) λj=>some (.next (d.set c i))) b.length g) λe=>fin e λ(f:(List (List Fct)))=>some (f,(⟨0⟩:Err)))
theorem Jb{w:World}{A:Nat->Prop}(hA:∀k,A k->k<w.heap.size){c:Value}{n:Tsk}(o:Vb w A c n){f:Int}(g:W1 f){d:Value}{p:List Fct}(q:Vb w A d p){r:(List (List Fct))×Err}(hm:CU n f p=some r) :
    Fn prog 29 [c,(.int .i64 f),d] w λv w'=>Ext w w'/\T2 w' (upA A w w') v r:=by
 obtain⟨O,hB,d3⟩:=enter hA;obtain⟨V,rfl,v5,v6,v7,v8,rfl,h9,o1,p1,q1⟩:=id o;obtain⟨W,g3,rfl⟩:=h9.form;obtain⟨Y,i3,rfl⟩:=o1.form;obtain⟨Z,k3,rfl⟩:=p1.form;obtain⟨l3,m3,rfl⟩:=q1.form;obtain⟨n3,o3,rfl⟩:=q.form;refine AG func29 rfl ntmps29 ?_;unfold CU at hm;refine Aj (Ae (Ea 2 O rfl λp3 q3 D E G=>?_));refine Au rfl (Au rfl (o_z (Aj (Ae (BE (hl:=rfl) (hc:=(G.1).cellsAt) rfl (Ar rfl (Ar rfl ?_)))))));obtain⟨H,v1,hm⟩:=bs hm;replace hB:=hB.st E;refine Ey (O:=D) (R:=λw' F v=>T2 w' F v H) (Ma Fr.lt (o.zs hA hB) g (q.zs hA hB) v1) rfl λr3 I s t J=>?_;obtain⟨s3,t3,rfl,h1,z1⟩:=J;obtain⟨u3,v3,rfl⟩:=h1.form;obtain⟨rfl,a2⟩:=z1.err;refine Ar rfl (AZ rfl rfl (AZ rfl rfl (Au rfl (Au rfl (o_z (Aj (Aj (Ae (Ar rfl (Cy rfl (λh=>?_) λh=>?_))))))))))
 ·replace hm:=ip hm h;refine o_z (Am rfl (Aj (Ae (Ar rfl (Au rfl (Au rfl (o_z (AD ?_))))))));obtain rfl:=sm hm;replace hB:=hB.st t;exact X3 rfl (AC rfl) (AC rfl) ⟨hB.ext,_,_,rfl,(Vb.mono (F:=Fr 0 I s) (Vb.nil _ _) hB.out),(vErr a2)⟩
 replace hm:=im hm h;refine o_z (Ah rfl (AE (Aj (Ae (Ar rfl ?_)))));obtain⟨i,b2,hm⟩:=bs hm;refine DF 3 (O:=s) (MJ Fr.lt h1 b2) rfl λu x w3 x3 K e=>?_;refine Au rfl (o_z (Aj (Ae (Ar rfl ?_))));obtain⟨y3,o0,hm⟩:=bs hm;obtain⟨L,o0⟩:=FV o0;refine Po (MM e L) rfl rfl λz3 a4 M N e=>?_;rw[o0]at e;refine o_z (Aj (Aj (Ae (Ar rfl (AO rfl ?_)))));have j:=Bj e.len;have b4:=rngNat j;refine Ar rfl (o_z ?_);obtain⟨k1,q0,hm⟩:=bs hm;replace hB:=((hB.st t).st K).st N;refine LO (X:=Unit) (i.length) q0 j (λl y=>[(10,(.slice u i.length x))]) (λl y w'=>∃z:Lab,Bs w A w' z/\Rw 3 w' z 23 (.slice u i.length x) l) () ⟨M,hB,e⟩ B5 (λ_ _=>rfl) ?_ ?_
 ·rintro c4 l y d4 g2 P ⟨Q,hB,b⟩ a0 t0 u0;have B:=AaQ P j;refine Aj (Ae (Ar rfl (Au rfl (o_z (Ae (Ar rfl (Ar rfl (Ar rfl (Ar rfl ?_)))))))));obtain⟨e4,i2,a0⟩:=bs a0;obtain⟨f4,g4,j2,v0,w0,y0,h4,rfl,l0⟩:=b.elem i2;replace l0:=Vb.of_slice l0;obtain⟨i4,j4,rfl⟩:=l0.form;refine BA (hA:=v0) (hj:=rfl) (hlt:=w0) rfl rfl (AL (hc:=cat0 y0) rfl ?_);obtain⟨S,l2,a0⟩:=bs a0;refine DF 4 (O:=Q) (Bt Fr.lt l0 l2) rfl λm2 n2 o2 p2 C m=>?_;obtain⟨q2,h0,a0⟩:=bs a0;replace b:=b.st C;obtain⟨r2,s2,m1,c0,i0,n1,t2,rfl,e0⟩:=b.elem h0;replace e0:=Vb.of_slice e0;obtain⟨u2,v2,rfl⟩:=e0.form;refine BA (hA:=c0) (hj:=rfl) (hlt:=i0) rfl rfl ?_;obtain⟨w2,j0,m⟩:=m.freeze;replace b:=b.st j0;refine Fe rfl b (a:=S) m c0 rfl rfl (AF h0) λy2 z0 b=>?_;refine o_z ?_;obtain rfl:=sm a0;exact show Exists _ from⟨_,(),rfl,B5,_,((hB.st C).st j0).st z0,b⟩
 rintro z2 T ⟨a3,b3,rfl,k0,c3,hB,b⟩;replace hm:=AW hm;refine AQ _ k0 ?_;refine Aj (Ae (Ar rfl (Au rfl (Au rfl (o_z (AD ?_))))));obtain⟨U,c1,b⟩:=b.freeze;obtain rfl:=sm hm;replace hB:=hB.st c1;exact X3 rfl (AC rfl) (AC rfl) ⟨hB.ext,_,_,rfl,(Vb.mono (F:=Fr 0 T U) b hB.out),(vErr (W3 0))⟩
end
section
section
variable {α σ ρ:Type}
theorem BH{s:σ}{f:σ->Option ρ}:fin (.done s) f=f s:=rfl
theorem II{c:ρ}{f:σ->Option ρ}:fin (.ret c) f=some c:=rfl
theorem Cd{x y:α}:(if true=true then x else y)=x:=rfl
theorem BY{x y:α}:(if false=true then x else y)=y:=rfl
theorem Mb{f:Nat→α→σ→Option (Ctl σ ρ)}{I:Nat→σ→Prop}{R:ρ→Prop}:∀(ys:List α)(j:Nat)(s:σ),I j s →
    (∀k x s,ys[k]?=some x->I (j+k) s->(∃a,f (j+k) x s=some (.next a)/\I (j+k+1) a)\/(∃r,f (j+k) x s=some (.ret r)/\R r)) ->
    (∃a,rng f ys j s=some (.done a)/\I (j+ys.length) a)\/∃r,rng f ys j s=some (.ret r)/\R r
  |[],j,s,c,_=>.inl ⟨s,rfl,c⟩
  |y  :: ys,j,s,c,g=>by
    rcases g 0 y s rfl c with⟨a,h1,h2⟩|⟨r,h1,h2⟩
    . have b:f j y s=some (.next a):=h1;simp only[rng,b];rcases Mb (I:=I) (R:=R) ys (j+1) a h2 (λk x s hk e=>by
        have:=g (k+1) x s (by simpa using hk) (by rwa[show j+(k+1)=j+1+k from by omega]);rwa[show j+(k+1)=j+1+k from by omega]at this)with⟨d,h3,h4⟩|h3
      . exact .inl ⟨d,h3,by rw[M8,show j+(ys.length+1)=j+1+ys.length from by omega];exact h4⟩
      . exact .inr h3
    . have b:f j y s=some (.ret r):=h1;simp only[rng,b];exact .inr ⟨r,rfl,h2⟩
theorem Jv{f:Nat->α->σ->Option (Ctl σ ρ)}{xs:List α}{s₀:σ}(I:Nat->σ->Prop)(R:ρ->Prop)(c:I 0 s₀)
    (d:∀k x s,xs[k]?=some x->I k s->(∃a,f k x s=some (.next a)/\I (k+1) a)\/(∃r,f k x s=some (.ret r)/\R r)) :
    (∃a,rng f xs 0 s₀=some (.done a)/\I xs.length a)\/∃r,rng f xs 0 s₀=some (.ret r)/\R r:=by
  have:=Mb (f:=f) (I:=I) (R:=R) xs 0 s₀ c (λk x s hk b=>by rw[U4]at b ⊢;exact d k x s hk b);rwa[U4]at this
theorem Jw{f:Nat->α->σ->Option (Ctl σ ρ)}{xs:List α}{s₀:σ}(I:Nat->σ->Prop)(b:I 0 s₀)(d:∀k x s,xs[k]?=some x->I k s->∃a,f k x s=some (.next a)/\I (k+1) a) :
    ∃a,rng f xs 0 s₀=some (.done a)/\I xs.length a:=by
  rcases Jv I (λ_=>False) b (λk x s hk c=>.inl (d k x s hk c))with d|⟨_,_,d⟩
  . exact d
  . exact d.elim
theorem Pc{f:Nat->α->σ->Option (Ctl σ ρ)}{xs:List α}(g:Nat->σ)(c:∀k x,xs[k]?=some x->f k x (g k)=some (.next (g (k+1)))):rng f xs 0 (g 0)=some (.done (g xs.length)):=by
  obtain⟨b,h1,h2⟩:=Jw (f:=f) (xs:=xs) (s₀:=g 0) (λk s=>s=g k) rfl (λk x s hk a=>⟨_,by rw[a];exact c k x hk,rfl⟩);rw[h1,h2]
theorem He{f:Nat->α->σ->Option (Ctl σ ρ)}{xs:List α}{s₀:σ}(g:Nat->σ)(a:s₀=g 0)(b:∀k x,xs[k]?=some x->f k x (g k)=some (.next (g (k+1)))):rng f xs 0 s₀=some (.done (g xs.length)):=by
  rw[a];exact Pc g b
theorem Hf{f:Nat->α->Unit->Option (Ctl Unit ρ)}{xs:List α}(a:∀k x,xs[k]?=some x->f k x ()=some (.next ())):rng f xs 0 ()=some (.done ()):=Pc (λ_=>()) a
theorem Vi{f:Nat->σ->Option (Ctl σ ρ)}{N:Nat}(g:Nat->σ)(a:∀k,k<N->f k (g k)=some (.next (g (k+1)))):Zb f N (g 0)=some (.done (g N)):=by
  have:=Pc (f:=λ_ k s=>f k s) (xs:=List.range N) g (λk x hk=>by
    obtain⟨hlt,rfl⟩:=C3.1 hk;simpa using a k (by simpa using hlt))
  rwa[List.length_range]at this
theorem PB{f:Nat->σ->Option (Ctl σ ρ)}{N:Nat}{s₀:σ}(g:Nat->σ)(a:s₀=g 0)(b:∀k,k<N->f k (g k)=some (.next (g (k+1)))):Zb f N s₀=some (.done (g N)):=by
  rw[a];exact Vi g b
theorem QK{f:Nat->σ->Option (Ctl σ ρ)}{N:Nat}{s₀:σ}(I:Nat->σ->Prop)(b:I 0 s₀)(d:∀k s,k<N->I k s->∃a,f k s=some (.next a)/\I (k+1) a) :
    ∃a,Zb f N s₀=some (.done a)/\I N a:=by
  have:=Jw (f:=λ_ k s=>f k s) (xs:=List.range N) (s₀:=s₀) I b (λk x s hk c=>by
    obtain⟨hlt,rfl⟩:=C3.1 hk;simpa using d k s (by simpa using hlt) c)
  rwa[List.length_range]at this
end
end
section
section
variable {α σ ρ β:Type}
theorem Pd{f:σ->Option (Ctl σ ρ)}(I:σ->Prop)(g:σ->Prop)(R:ρ->Prop)(b:σ->Nat)(h:∀s,I s->(∃a,f s=some (.next a)/\I a/\b a<b s)\/(∃a,f s=some (.brk a)/\g a)\/∃r,f s=some (.ret r)/\R r) :
    ∀s,I s->(∃a,lop f s=some (.done a)/\g a)\/∃r,lop f s=some (.ret r)/\R r:=by
  have c:∀(n:Nat) s,I s->b s<n->(∃a,lop f s=some (.done a)/\g a)\/∃r,lop f s=some (.ret r)/\R r:=by
    intro n
    induction n with
    |zero=>intro s _ hn;omega
    |succ n e =>
      intro s d hn;rw[GS];rcases h s d with⟨a,h1,h2,h3⟩|⟨a,h1,h2⟩|⟨r,h1,h2⟩
      . rw[h1];exact e a h2 (by omega)
      . rw[h1];exact .inl ⟨a,rfl,h2⟩
      . rw[h1];exact .inr ⟨r,rfl,h2⟩
  exact λs d=>c (b s+1) s d (by omega)
theorem JR{f:σ->Option (Ctl σ ρ)}{s₀:σ}{k:Fin σ ρ->Option β}{P:β->Prop}(I:σ->Prop)(d:σ->Prop)(R:ρ->Prop)(b:σ->Nat)(c:I s₀)
    (e:∀s,I s->(∃a,f s=some (.next a)/\I a/\b a<b s)\/(∃a,f s=some (.brk a)/\d a)\/∃r,f s=some (.ret r)/\R r)
    (hb:∀s,d s->∃r,k (.done s)=some r/\P r) (hr:∀q,R q->∃r,k (.ret q)=some r/\P r):∃r,bnd (lop f s₀) k=some r/\P r:=by
  rcases Pd I d R b e s₀ c with⟨s,h1,h2⟩|⟨q,h1,h2⟩
  . rw[h1,At];exact hb s h2
  . rw[h1,At];exact hr q h2
theorem So{f:σ->Option (Ctl σ ρ)}{s₀:σ}{k:Fin σ ρ->Option β}{r:Option β}(I:σ->Prop)(e:σ->Prop)(b:σ->Nat)(c:I s₀)
    (g:∀s,I s->(∃a,f s=some (.next a)/\I a/\b a<b s)\/(∃a,f s=some (.brk a)/\e a)) (hb:∀s,e s->k (.done s)=r):bnd (lop f s₀) k=r:=by
  rcases Pd I e (λ_=>False) b (λs d=>(g s d).imp id .inl) s₀ c with⟨s,h1,h2⟩|⟨q,_,h2⟩
  . rw[h1,At];exact hb s h2
  . exact h2.elim
theorem ED{f:Nat→α→σ→Option (Ctl σ ρ)}{xs:List α}{s₀:σ}{k:Fin σ ρ→Option β}{P:β→Prop}(I:Nat→σ→Prop)(R:ρ→Prop)(e:I 0 s₀)
    (l:∀i x s,xs[i]?=some x->I i s->(∃a,f i x s=some (.next a)/\I (i+1) a)\/∃q,f i x s=some (.ret q)/\R q)
    (hb:∀s,I xs.length s->∃r,k (.done s)=some r/\P r) (hr:∀q,R q->∃r,k (.ret q)=some r/\P r):∃r,bnd (rng f xs 0 s₀) k=some r/\P r:=by
  have b:∀(ys:List α)(j:Nat)(s:σ),(∀i,ys[i]?=xs[j+i]?)->j+ys.length=xs.length->I j s->∃r,bnd (rng f ys j s) k=some r/\P r:=by
    intro ys
    induction ys with
    |nil=>intro j s _ hl c;exact hb s (by simp at hl;rw[<- hl];exact c)
    |cons y ys g =>
      intro j s d hl c;have h:xs[j]?=some y:=(by have:=d 0;simpa using this.symm);simp only[rng];rcases l j y s h c with⟨a,h1,h2⟩|⟨q,h1,h2⟩
      . rw[h1];exact g (j+1) a (λi=>by have:=d (i+1);rw[show j+1+i=j+(i+1)from by omega,<- this];simp) (by simp at hl;omega) h2
      . rw[h1,At];exact hr q h2
  exact b xs 0 s₀ (λi=>by rw[U4]) (by omega) e
theorem Jx{f:Nat->α->σ->Option (Ctl σ ρ)}{xs:List α}{s₀:σ}{k:Fin σ ρ->Option β}{r:Option β}(I:Nat->σ->Prop)(b:I 0 s₀)
    (c:∀i x s,xs[i]?=some x->I i s->∃a,f i x s=some (.next a)/\I (i+1) a) (hb:∀s,I xs.length s->k (.done s)=r):bnd (rng f xs 0 s₀) k=r:=by
  obtain⟨s,h1,h2⟩:=Jw I b c;rw[h1,At];exact hb s h2
end
end
section
open Go Go.RowKit
def ZX(o:Opr)(v p:Int):Opr:=⟨o.name,o.cost,o.pre++[⟨v,p⟩],o.effs++[⟨[],v,p+1⟩]⟩
def Zf(t:Tsk)(w:Int):List (Opr×Prt):=t.ops.zipIdx.map λq=>(⟨q.1.name,q.1.cost+w,q.1.pre,q.1.effs⟩,⟨(q.2:Int)⟩)
def ZO(ops:List (Opr×Nat))(v p:Int)(a:ByteArray):List (Opr×Prt):=(ops.filter λq=>decide (q.1.name=a)).map λq=>(ZX q.1 v p,⟨(q.2:Int)⟩)
def Abk(w v p:Int):Opr×Prt:=(ZX ⟨⟨#[]⟩,w,[],[]⟩ v p,⟨-1⟩)
def Z9(t:Tsk)(w v p:Int)(a:ByteArray):List (Opr×Prt):=ZO t.ops.zipIdx v p a++[Abk w v p]
def delL(t:Tsk)(w v:Int):Nat->List ByteArray->List (Opr×Prt)
  |_,[]=>[]
  |p,name::r=>Z9 t w v (p:Int) name++delL t w v (p+1) r
def cmpL(t:Tsk)(old:List ByteArray)(w:Int):List (Opr×Prt):=Zf t w++delL t w (t.vars.length:Int) 0 old
def YX(t:Tsk)(old:List ByteArray)(w:Int):Tsk :=
  ⟨t.vars++[(old.length:Int)+1],t.init++[0],t.goal++[⟨(t.vars.length:Int),(old.length:Int)⟩],(cmpL t old w).map (·.1)⟩
theorem PC(t:Tsk)(w v:Int)(a:ByteArray):∀(l:List ByteArray)(p:Nat),delL t w v p (l++[a])=delL t w v p l++Z9 t w v ((p+l.length:Nat):Int) a
  |[],p=>by simp[delL]
  |x::l,p=>by
    rw[M9,delL,delL,PC t w v a l (p+1),L8,M8,show p+1+l.length=p+(l.length+1)from by omega]
theorem Mc(ops:List (Opr×Nat))(v p:Int)(a:ByteArray):(ZO ops v p a).length<=ops.length:=by
  unfold ZO;rw[R1];exact G0 _ _
theorem QL(t:Tsk)(w:Int):(Zf t w).length=t.ops.length:=by unfold Zf;simp
theorem Ub(t:Tsk)(w v p:Int)(a:ByteArray):(Z9 t w v p a).length<=t.ops.length+1:=by
  unfold Z9;have:=Mc t.ops.zipIdx v p a;simp only[K0,F9,L5]at this ⊢;omega
theorem Ns(t:Tsk)(w v:Int):∀(l:List ByteArray)(p:Nat),(delL t w v p l).length<=l.length*(t.ops.length+1)
  |[],p=>by simp[delL]
  |x::l,p=>by
    rw[delL,K0,M8,Nat.succ_mul];have:=Ub t w v p x;have:=Ns t w v l (p+1);omega
theorem QM(t:Tsk)(old:List ByteArray)(w:Int):(cmpL t old w).length<=t.ops.length+old.length*(t.ops.length+1):=by
  unfold cmpL;rw[K0,QL];have:=Ns t w (t.vars.length:Int) old 0;omega
theorem Vj{α:Type}{l:List α}{k:Nat}{x:α}(a:l[k]?=some x):l.zipIdx.take (k+1)=l.zipIdx.take k++[(x,k)]:=by
  rw[M2,H9,a];simp
theorem Ti{ops:List (Opr×Nat)}{v p:Int}{a:ByteArray}{o:Opr}{k:Nat}:ZO (ops++[(o,k)]) v p a=ZO ops v p a++if o.name=a then[(ZX o v p,⟨(k:Int)⟩)]else[]:=by
  unfold ZO;rw[L6,R2];by_cases b:o.name=a<;>simp[b]
theorem Fz{l:List Fct}(a:l.length<=1000000):Bd l=some l:=if_pos ⟨by omega,by omega⟩
theorem PD{l:List Eff}(a:l.length<=1000000):Dr l=some l:=if_pos ⟨by omega,by omega⟩
theorem PE{l:List Int}(a:l.length<=1000000):CM l=some l:=if_pos ⟨by omega,by omega⟩
theorem Sp{o:Opr}{v:Int}{p:Nat}(a:o.pre.length<=1000)(b:o.effs.length<=1000)(c:p<=1000):Gh o v (p:Int)=some (ZX o v (p:Int)):=by
  unfold Gh;rw[Fz (by omega),At,Cb (by simp;omega) (by simp;omega),At,PD (by omega),At,Br (by unfold W1;omega),At,Cb (by simp;omega) (by simp;omega),At];rfl
theorem Nt{α:Type}{l:List α}{k:Nat}{x:α}(a:l[k]?=some x):l.set k x=l:=by
  refine M0 λj=>?_;rw[M4];split
  . rename_i e;subst e;split
    . exact a.symm
    . rename_i h2;exact absurd (AF a) h2
  . rfl
theorem Vk{l:List Eff}(b:∀e∈l,e.cond.length<=1000000):Fg l=some l:=by
  unfold Fg;rw[PB (λ_=>l) rfl ?_,At,BH];intro k hk;have a:l[k]?=some l[k]:=D1 hk;rw[a,At,Fz (b _ (List.getElem_mem hk)),At,At,Nt a]
def AaR(o:Opr):Prop:=o.pre.length<=1000/\o.effs.length<=1000/\∀e∈o.effs,e.cond.length<=1000
theorem OpOk.short{t:Tsk}(a:TaskOk t){k:Nat}{o:Opr}(b:t.ops[k]?=some o):o.pre.length<=64/\o.effs.length<=64/\∀e∈o.effs,e.cond.length<=64:=by
  obtain⟨_,_,h1,_,h2,h3⟩:=a.2.2.2.2.2 k o b;have c:=a.1;refine⟨by have:=Fs h2;omega,h1,λe he=>?_⟩;obtain⟨i,hi⟩:=H4 he;have:=Fs (h3 i e hi).1;omega
theorem Tj{t:Tsk}(g:TaskOk t)(old:List ByteArray)(w:Int):∀q∈cmpL t old w,AaR q.1:=by
  have b:∀q∈t.ops.zipIdx,q.1.pre.length<=64/\q.1.effs.length<=64/\∀e∈q.1.effs,e.cond.length<=64:=λq hq=>by
    obtain⟨k,hk⟩:=H4 hq;rw[H9]at hk;obtain⟨o,ho,rfl⟩:=E7.1 hk;exact OpOk.short g ho
  have a:∀(o:Opr)(v p:Int),(o.pre.length<=64/\o.effs.length<=64/\∀e∈o.effs,e.cond.length<=64)->AaR (ZX o v p):=λo v p ⟨f,h,h3⟩=>by
    refine⟨by simp[ZX];omega,by simp[ZX];omega,λe he=>?_⟩;rcases P8.1 he with he|he
    . have:=h3 e he;omega
    . have:e=⟨[],v,p+1⟩:=(by simpa using he);subst this;simp
  have c:∀(l:List ByteArray)(p:Nat),∀q∈delL t w (t.vars.length:Int) p l,AaR q.1:=by
    intro l
    induction l with
    |nil=>intro p q hq;simp[delL]at hq
    |cons x l i =>
      intro p q hq;rw[delL]at hq;rcases P8.1 hq with hq|hq
      . unfold Z9 at hq;rcases P8.1 hq with hq|hq
        . unfold ZO at hq;obtain⟨d,f,rfl⟩:=U9.1 hq;exact a _ _ _ (b d (Q9.1 f).1)
        . have:q=Abk w (t.vars.length:Int) p:=(by simpa using hq);subst this;exact a _ _ _ ⟨by simp,by simp,by simp⟩
      . exact i (p+1) q hq
  intro q hq;unfold cmpL at hq;rcases P8.1 hq with hq|hq
  . unfold Zf at hq;obtain⟨d,f,rfl⟩:=U9.1 hq;obtain⟨h,h3,h4⟩:=b d f;exact⟨by show d.1.pre.length<=1000;omega,by show d.1.effs.length<=1000;omega,λe he=>by have:=h4 e he;omega⟩
  . exact c old 0 q hq
def sp(l:List (Opr×Prt)):List Prt×List Opr:=(l.map (·.2),l.map (·.1))
theorem Pe(l:List (Opr×Prt))(q:Opr×Prt):sp (l++[q])=((sp l).1++[q.2],(sp l).2++[q.1]):=by simp[sp]
theorem QN(l:List (Opr×Prt)):(sp l).1.length=l.length/\(sp l).2.length=l.length:=by simp[sp]
theorem Jo{t:Tsk}(b:TaskOk t)(v:t.ops.length<=20){old:List ByteArray}(h:old.length<=63){w:Int}(z:0<=w)(A:w<=1000) :
    Fi t old w=some (if Y0 (YX t old w)≠0 then(⟨[],[],[],[]⟩,[],⟨Y0 (YX t old w)⟩)else(YX t old w,(cmpL t old w).map (·.2),⟨0⟩)):=by
  have E:=b.1;have hi:=b.2.2.2.1.1;have F:=Fs b.2.2.2.2.1;have B:(cmpL t old w).length<=2000:=by
    have:=QM t old w;have n:old.length*(t.ops.length+1)<=63*21:=R7 h (by omega);omega
  unfold Fi CE;rw[Ei.2 b,At,if_neg (by simp),if_neg (by omega),if_neg (by omega),At,BY,if_neg (by omega),Br (by unfold W1;omega),At,PE (by omega),At,Cb (by simp;omega) (by simp;omega),At,PE (by omega),At,Cb (by simp;omega) (by simp;omega),At,Fz (by omega),At,Cb (by simp;omega) (by simp;omega),At,At];have x:∀k o,t.ops[k]?=some o->t.ops.zipIdx.take (k+1)=t.ops.zipIdx.take k++[(o,k)]:=λk o G=>Vj G;rw[He (λk=>sp ((t.ops.zipIdx.take k).map λq=>(⟨q.1.name,q.1.cost+w,q.1.pre,q.1.effs⟩,⟨(q.2:Int)⟩))) (by simp[sp]) ?gg1,At,BH]
  case gg1 =>
    intro k o c;have hk:=AF c;obtain⟨y,n,_⟩:=OpOk.short b c;have hc:=(b.2.2.2.2.2 k o c).1;have C:=(b.2.2.2.2.2 k o c).2.1;have hl:((t.ops.zipIdx.take k).map λq=>((⟨q.1.name,q.1.cost+w,q.1.pre,q.1.effs⟩:Opr),(⟨(q.2:Int)⟩:Prt))).length<=20:=(by simp;omega);obtain⟨d,l2⟩:=QN ((t.ops.zipIdx.take k).map λq=>((⟨q.1.name,q.1.cost+w,q.1.pre,q.1.effs⟩:Opr),(⟨(q.2:Int)⟩:Prt)));rw[Br (by unfold W1;omega),At,Fz (by omega),At,PD (by omega),At,Cb (by rw[l2];simp;omega) (by rw[l2];simp;omega),At,Cb (by rw[d];simp;omega) (by rw[d];simp;omega),At,x k o c,R2,List.map_singleton,Pe]
  have i:t.ops.zipIdx.take t.ops.length=t.ops.zipIdx:=E5 (by simp);have f:(t.ops.zipIdx.take t.ops.length).map (λq=>((⟨q.1.name,q.1.cost+w,q.1.pre,q.1.effs⟩:Opr),(⟨(q.2:Int)⟩:Prt)))=Zf t w:=by
    unfold Zf;rw[i]
  rw[f];rw[He (λk=>sp (Zf t w++delL t w (t.vars.length:Int) 0 (old.take k))) (by simp[delL]) ?gg2,At,BH,P4]
  case gg2 =>
    intro k a hn;have hk:=AF hn;have p:(Zf t w++delL t w (t.vars.length:Int) 0 (old.take k)).length<=1500:=by
      have y:=Ns t w (t.vars.length:Int) (old.take k) 0;have n:(old.take k).length*(t.ops.length+1)<=63*21:=R7 (by simp;omega) (by omega);rw[K0,QL];omega
    rw[He (λj=>sp ((Zf t w++delL t w (t.vars.length:Int) 0 (old.take k))++ZO (t.ops.zipIdx.take j) (t.vars.length:Int) (k:Int) a)) (by simp[ZO]) ?gg3,At,BH,i]
    case gg3 =>
      intro j o c;have hj:=AF c;obtain⟨y,n,_⟩:=OpOk.short b c;have g:=Mc (t.ops.zipIdx.take j) (t.vars.length:Int) (k:Int) a;rw[N8,L5]at g;obtain⟨d,l2⟩:=QN ((Zf t w++delL t w (t.vars.length:Int) 0 (old.take k))++ZO (t.ops.zipIdx.take j) (t.vars.length:Int) (k:Int) a);rw[K0]at d l2;rw[x j o c,Ti];by_cases he:o.name=a
      . rw[if_pos he,if_pos he,Sp (by omega) (by omega) (by omega),At,Cb (by rw[l2];simp only[F9];omega) (by rw[l2];simp only[F9];omega),At,Cb (by rw[d];simp only[F9];omega) (by rw[d];simp only[F9];omega),At,<- L8,Pe]
      . rw[if_neg he,if_neg he,Q5]
    have g:=Mc t.ops.zipIdx (t.vars.length:Int) (k:Int) a;rw[L5]at g;obtain⟨d,l2⟩:=QN ((Zf t w++delL t w (t.vars.length:Int) 0 (old.take k))++ZO t.ops.zipIdx (t.vars.length:Int) (k:Int) a);rw[K0]at d l2;have r:old.take (k+1)=old.take k++[a]:=(by rw[M2,hn];rfl);have l:sp (Zf t w++delL t w (t.vars.length:Int) 0 (old.take (k+1)))=((sp ((Zf t w++delL t w (t.vars.length:Int) 0 (old.take k))++ZO t.ops.zipIdx (t.vars.length:Int) (k:Int) a)).1++[⟨-1⟩],(sp ((Zf t w++delL t w (t.vars.length:Int) 0 (old.take k))++ZO t.ops.zipIdx (t.vars.length:Int) (k:Int) a)).2++[ZX ⟨⟨#[]⟩,w,[],[]⟩ (t.vars.length:Int) (k:Int)]):=by
      have s:(0+(old.take k).length:Nat)=k:=(by simp;omega);rw[r,PC,s,Z9,<- L8,<- L8,Pe];rfl
    rw[Sp (by simp) (by simp) (by omega),At,Cb (by rw[l2];simp only[F9];omega) (by rw[l2];simp only[F9];omega),At,Cb (by rw[d];simp only[F9];omega) (by rw[d];simp only[F9];omega),At,if_neg (by rw[K0,l2];simp only[F9];omega),l]
  show bnd (Zb _ (sp (cmpL t old w)).2.length (sp (cmpL t old w)).2) _=_;have u:∀o∈(sp (cmpL t old w)).2,AaR o:=λo c=>by
    obtain⟨q,hq,rfl⟩:=U9.1 c;exact Tj b old w q hq
  rw[PB (λ_=>(sp (cmpL t old w)).2) rfl ?gg4,At,BH,At]
  case gg4 =>
    intro k hk;have m:(sp (cmpL t old w)).2[k]?=some (sp (cmpL t old w)).2[k]:=D1 hk;have D:=(u _ (List.getElem_mem hk)).2.2;rw[m,At,Vk (λe he=>by have:=D e he;omega),At,At,Nt m]
  show(if Y0 (YX t old w)≠0 then _ else _)=_;by_cases hc:Y0 (YX t old w)≠0
  . rw[if_pos hc,if_pos hc];rfl
  . rw[if_neg hc,if_neg hc];rfl
end
section
open Go Go.RowKit Go.Lib
section
variable {α ρ:Type}
theorem Sr{f:Nat->α->Unit->Option (Ctl Unit ρ)}{xs:List α}(P:Nat->α->Prop)(c:ρ)(h:∀k a,xs[k]?=some a->(P k a/\f k a ()=some (.ret c))\/(¬P k a/\f k a ()=some (.next ()))) :
    (rng f xs 0 ()=some (.ret c)/\∃k a,xs[k]?=some a/\P k a)\/(rng f xs 0 ()=some (.done ())/\∀k a,xs[k]?=some a->¬P k a):=by
  rcases Jv (f:=f) (xs:=xs) (s₀:=()) (λk _=>∀j a,j<k->xs[j]?=some a->¬P j a) (λr=>r=c/\∃k a,xs[k]?=some a/\P k a) (λj a hj=>absurd hj (by omega)) (λk x s hk g=>by
    rcases h k x hk with⟨b,h2⟩|⟨b,h2⟩
    . exact .inr ⟨_,h2,rfl,k,x,hk,b⟩
    . refine .inl ⟨_,h2,λj a hj d=>?_⟩;by_cases e:j=k
      . subst e;rw[hk]at d;obtain rfl:=Q1 d;exact b
      . exact g j a (by omega) d)with⟨s,b,h2⟩|⟨r,b,rfl,h2⟩
  . exact .inr ⟨b,λk a d=>h2 k a (AF d) d⟩
  . exact .inl ⟨b,h2⟩
end
def Ps(p:List Fct):Prop:=(∀x∈p,0<=x.var/\0<=x.val)/\p.Pairwise λx y=>x.var<y.var
theorem Aao{vars:List Int}{f:List Fct}:FactsOk vars f↔(∀x∈f,Y8 vars x)/\f.Pairwise λx y=>x.var<y.var:=by
  constructor
  . intro e;refine⟨λx a=>?_,D0.2 λi j hi hj b=>Jk e j i _ _ b (D1 hi) (D1 hj)⟩;obtain⟨i,hi,rfl⟩:=I4 a;exact e.1 i _ (D1 hi)
  . rintro⟨c,h2⟩;refine⟨λi x a=>c x (H1 a),λi x y a d=>?_⟩;obtain⟨hi,rfl⟩:=C3.1 a;obtain⟨hj,rfl⟩:=C3.1 d;exact D0.1 h2 i (i+1) hi hj (P1 i)
theorem FactsOk.ps{vars:List Int}{f:List Fct}(c:FactsOk vars f):Ps f:=by
  obtain⟨a,h2⟩:=Aao.1 c;exact⟨λx b=>⟨(a x b).1,(a x b).2.1⟩,h2⟩
theorem QO{p:List Fct}(hl:p.length≤1000000):∃b,Cr p=some b∧(b=true↔Ps p):=by
  unfold Cr;have r:=Sr (ρ:=Bool) (xs:=p) (f:=λ(w:Nat)(d:Fct)(C:Unit)=>bnd (if d.var<0 then(some true)else(if d.val<0 then(some true)else(if 0<(w:Int)then(bnd (W5 ((w:Int)-1)) λs=>bnd (atI p s) λt=>if d.var<=t.var then(some true)else(some false))else(some false))):Option Bool) λu=>if u=true then(some (.ret false))else(some (.next ())))
    (λk a=>a.var<0\/a.val<0\/∃b,0<k/\p[k-1]?=some b/\a.var<=b.var) false (λk a m=>by
    by_cases c:a.var<0
    . rw[if_pos c,At,Cd];exact .inl ⟨.inl c,rfl⟩
    rw[if_neg c];by_cases h2:a.val<0
    . rw[if_pos h2,At,Cd];exact .inl ⟨.inr (.inl h2),rfl⟩
    rw[if_neg h2];by_cases n:0<(k:Int)
    . have hk:=AF m;obtain⟨b,hb⟩:=AK (l:=p) (k:=k-1) (by omega);rw[if_pos n,Br (by unfold W1;omega),At,show(k:Int)-1=((k-1:Nat):Int)by omega,BD,hb,At];by_cases o:a.var<=b.var
      . rw[if_pos o,At,Cd];exact .inl ⟨.inr (.inr ⟨b,by omega,rfl,o⟩),rfl⟩
      . rw[if_neg o,At,BY];refine .inr ⟨?_,rfl⟩;rintro(h|h|⟨D,_,hb',h⟩)
        . exact c h
        . exact h2 h
        . obtain rfl:=Q1 hb';exact o h
    . rw[if_neg n,At,BY];refine .inr ⟨?_,rfl⟩;rintro(h|h|⟨_,h,_⟩)
      . exact c h
      . exact h2 h
      . omega)
  rcases r with⟨c,k,a,m,h2⟩|⟨c,h2⟩
  . rw[c,At,II];refine⟨_,rfl,by simp,λh=>?_⟩;exfalso;have hm:=h.1 a (H1 m);rcases h2 with h2|h2|⟨b,hk,hb,h2⟩
    . omega
    . omega
    . obtain⟨hi,rfl⟩:=C3.1 m;obtain⟨hj,rfl⟩:=C3.1 hb;have:=D0.1 h.2 (k-1) k hj hi (by omega);omega
  . rw[c,At,BH];refine⟨_,rfl,λ_=>⟨λx g=>?_,?_⟩,λ_=>rfl⟩
    . obtain⟨k,hk⟩:=H4 g;have:=h2 k x hk;constructor
      . exact Int.not_lt.1 λh=>this (.inl h)
      . exact Int.not_lt.1 λh=>this (.inr (.inl h))
    . have step:∀(i:Nat) x y,p[i]?=some x->p[i+1]?=some y->x.var<y.var:=λi x y g q=>Int.not_le.1 λh=>h2 (i+1) y q (.inr (.inr ⟨x,by omega,by simpa using g,h⟩));have A:∀(j i:Nat)(x y:Fct),i<j->p[i]?=some x->p[j]?=some y->x.var<y.var:=by
        intro j
        induction j with
        |zero=>intro i x y h;omega
        |succ j B =>
          intro i x y h g q;obtain⟨z,hz⟩:=AK (l:=p) (k:=j) (by have:=AF q;omega);have n:=step j z y hz q;by_cases e:i=j
          . subst e;rw[g]at hz;obtain rfl:=Q1 hz;exact n
          . have:=B i x z (by omega) g hz;omega
      exact D0.2 λi j hi hj v=>A j i _ _ v (D1 hi) (D1 hj)
theorem Iz{p:List Fct}(hl:p.length<=1000000)(a:Ps p):Cr p=some true:=by
  obtain⟨b,h1,h2⟩:=QO hl;rw[h1,h2.2 a]
def fdV:List Fct->Int->Int
  |[],_=>-1
  |f::l,v=>if f.var=v then f.val else fdV l v
theorem QP(p:List Fct)(v:Int):EA p v=some (fdV p v):=by
  unfold EA;have:∀(l:List Fct)(k:Nat),(bnd (rng (ρ:=Int) (λ(d:Nat)(b:Fct)(g:Unit)=>if b.var=v then(some (.ret b.val))else(some (.next ()))) l k ()) λc=>fin c λ(e:Unit)=>some (-1))=some (fdV l v):=by
    intro l
    induction l with
    |nil=>intro k;rfl
    |cons a l f =>
      intro k;by_cases h:a.var=v
      . simp[rng,fdV,h,bnd,fin]
      . have:=f (k+1);simp only[rng,fdV,if_neg h];exact this
  exact this p 0
theorem Ss{p:List Fct}(d:Ps p):∀f∈p,fdV p f.var=f.val:=by
  replace d:=d.2
  induction p with
  |nil=>intro f hf;simp at hf
  |cons a p b =>
    intro f hf;obtain⟨c,h2⟩:=K8.1 d;rcases S0.1 hf with rfl|hf
    . simp[fdV]
    . have:=c f hf;rw[fdV,if_neg (by omega)];exact b h2 f hf
def ctn(a b:List Fct):Bool:=b.all λf=>decide (fdV a f.var=f.val)
theorem JS(a b:List Fct):CF a b=some (ctn a b):=by
  unfold CF ctn;have:∀(l:List Fct)(k:Nat),(bnd (rng (ρ:=Bool) (λ(g:Nat)(c:Fct)(h:Unit)=>bnd (EA a c.var) λe=>if e≠c.val then(some (.ret false))else(some (.next ()))) l k ()) λd=>fin d λ(i:Unit)=>some true)=some (l.all λf=>decide (fdV a f.var=f.val)):=by
    intro l
    induction l with
    |nil=>intro k;rfl
    |cons f l j =>
      intro k;have:=j (k+1);simp only[rng,T4];rw[QP,At];by_cases m:fdV a f.var=f.val
      . rw[if_neg (by simpa using m),decide_eq_true m,Bool.true_and];exact this
      . rw[if_pos m,decide_eq_false m,Bool.false_and];rfl
  exact this b 0
theorem Nu{p:List Fct}(a:Ps p):ctn p p=true:=by
  unfold ctn;rw[N6];intro f hf;rw[decide_eq_true (Ss a f hf)]
theorem RI{a b:List Fct}(c:a.length<=1000000)(hb:b.length<=1000000)(d:Ps a)(e:Ps b):Fv a b=some (ctn a b):=by
  unfold Fv;rw[Iz c d,At,Cd,Iz hb e,At,Cd,JS,At];cases ctn a b<;>rfl
theorem QQ:∀(l:List Fct)(p x:Fct),x∈Zv p l∨x=p↔x∈l∨x=p
  |[],p,x=>by simp[Zv]
  |a  :: l,p,x=>by
    have b:=QQ l a x;simp only[Zv];by_cases h:p.var=a.var/\p.val=a.val
    . have e:p=a:=(by cases p;cases a;simp only[Fct.mk.injEq];exact h);subst e;rw[if_pos h];simp only[S0];constructor
      . intro h;rcases b.1 h with h|h
        . exact .inl (.inr h)
        . exact .inr h
      . rintro((h|h)|h)
        . exact .inr h
        . exact b.2 (.inl h)
        . exact .inr h
    . rw[if_neg h];simp only[S0];constructor
      . rintro((h|h)|h)
        . exact .inl (.inl h)
        . rcases b.1 (.inl h)with h|h
          . exact .inl (.inr h)
          . exact .inl (.inl h)
        . exact .inr h
      . rintro((h|h)|h)
        . exact .inl (.inl h)
        . rcases b.2 (.inl h)with h|h
          . exact .inl (.inr h)
          . exact .inl (.inl h)
        . exact .inr h
theorem Vl(l:List Fct)(x:Fct):x∈Zd l↔x∈l:=by
  cases l with
  |nil=>rfl
  |cons a l =>
    have:=QQ l a x;simp only[Zd,S0];constructor
    . rintro(h|h)
      . exact .inl h
      . exact(this.1 (.inl h)).symm
    . rintro(h|h)
      . exact .inl h
      . exact(this.2 (.inl h)).symm
theorem QR:∀(l:List Fct)(p:Fct),(Zv p l).length<=l.length
  |[],_=>V2 _
  |a::l,p=>by
    have b:=QR l a;simp only[Zv];split
    . simp;omega
    . simp;exact b
theorem QS(l:List Fct):(Zd l).length<=l.length:=by
  cases l with
  |nil=>exact V2 _
  |cons a l=>have:=QR l a;simp only[Zd,M8];omega
theorem Wz{f:List Fct}(hl:f.length<=100000)(hf:∀x∈f,0<=x.var/\0<=x.val):∃b,GF f=some (if b=true then(Zd (Bf f),⟨0⟩)else([],⟨2⟩))/\(b=true↔Ps (Zd (Bf f))):=by
  unfold GF;have d:rng (ρ:=(List Fct)×Err) (λ(e:Nat)(a:Fct)(h:Unit)=>bnd (if a.var<0 then(some true)else(if a.val<0 then(some true)else(some false)):Option Bool) λc=>if c=true then(some (.ret (([]:List Fct),(⟨1⟩:Err))))else(some (.next ()))) f 0 ()=some (.done ()):=Hf λk x g=>by
    have:=hf x (H1 g);rw[if_neg (by omega),if_neg (by omega),At,BY]
  have hs:=EZ f;have hc:=QS (Bf f);obtain⟨b,h2,h3⟩:=QO (p:=Zd (Bf f)) (by omega);rw[d,At,BH,Fz (by omega),At,if_pos (by omega),At];unfold Eg;rw[At,h2,At];refine⟨b,?_,h3⟩;cases b<;>rfl
theorem Vm{x y:List Fct}(g:x.length<=1000)(i:y.length<=1000)(a:Ps x)(c:Ps y):∃z d,FT x y=some (z,d)/\(d=true->Ps z/\z.length<=x.length+y.length/\∀f,f∈z↔f∈x\/f∈y):=by
  unfold FT;rw[Iz (by omega) a,At,Cd,Iz (by omega) c,At,Cd,At,BY,Fz (by omega),At,Cb (by omega) (by omega),At];obtain⟨b,h1,h2⟩:=Wz (f:=x++y) (by simp;omega) λf hf=>by
    rcases P8.1 hf with h|h
    . exact a.1 f h
    . exact c.1 f h
  rw[h1,At];cases b
  . exact⟨_,_,rfl,λh=>by simp at h⟩
  . refine⟨_,_,rfl,λ_=>⟨h2.1 rfl,?_,λf=>?_⟩⟩
    . have e:=QS (Bf (x++y));rw[EZ,K0]at e;exact e
    . show f∈Zd (Bf (x++y))↔_;rw[Vl,(LQ (x++y)).mem_iff,P8]
theorem Ps.facts{vars:List Int}{x y z:List Fct}(hz:Ps z)(a:FactsOk vars x)(b:FactsOk vars y)(h:∀f,f∈z↔f∈x\/f∈y):FactsOk vars z:=Aao.2 ⟨λf hf=>by
  rcases(h f).1 hf with h|h
  . exact(Aao.1 a).1 f h
  . exact(Aao.1 b).1 f h,hz.2⟩
theorem AcS(x y:Fct):Ef x y=some (cfM x y):=by
  have e:∀a b:Int,ET a b=some (compareInt a b):=λa b=>by
    unfold ET Gq compareInt;by_cases e:a<b
    . simp[bnd,e]
    . by_cases d:b<a
      . simp[bnd,e,d]
      . simp[bnd,e,d]
  unfold Ef cfM;rw[e,At,e,At];generalize compareInt x.var y.var=a;generalize compareInt x.val y.val=b;unfold Id;by_cases c:a=0
  . by_cases hb:b=0
    . simp[rng,bnd,fin,orL,c,hb]
    . simp[rng,bnd,fin,orL,c,hb]
  . simp[rng,bnd,fin,orL,c]
theorem AbY(x y:List Fct):DO x y=some (cfN x y):=by
  unfold DO Bk
  have:∀(l:List Fct)(k:Nat),k+l.length=x.length->(bnd (rng (ρ:=Int) (λ(d:Nat)(g:Fct)(i:Unit)=>if(y.length:Int)<=(d:Int)then(some (.ret 1))else(bnd (y[d]?) λh=>bnd (Ef g h) λe=>if e≠0 then(some (.ret e))else(some (.next ())))) l k ()) λc=>fin c λ(j:Unit)=>if(x.length:Int)<(y.length:Int)then(some (-1))else(some 0))=some (cfN l (y.drop k)):=by
    intro l
    induction l with
    |nil =>
      intro k hk;simp only[rng,At,BH];simp only[Q6]at hk;by_cases n:(x.length:Int)<(y.length:Int)
      . rw[if_pos n,C5 (by omega)];rfl
      . rw[if_neg n,show y.drop k=[]from F0 (by omega)];rfl
    |cons a l m =>
      intro k hk;simp only[M8]at hk;simp only[rng];by_cases n:(y.length:Int)<=(k:Int)
      . rw[if_pos n,show y.drop k=[]from F0 (by omega)];rfl
      . obtain⟨b,hb⟩:=AK (l:=y) (k:=k) (by omega);rw[if_neg n,hb,At,AcS,At,C5 (by omega)];rw[D1 (by omega)]at hb;rw[Q1 hb];simp only[cfN];by_cases f:cfM a b≠0
        . rw[if_pos f,if_pos f];rfl
        . rw[if_neg f,if_neg f];exact m (k+1) (by omega)
  rw[this x 0 (by omega)];rfl
theorem Vn{m:Nat}(b:m<=1000000000):∃v:U64,Z4 (BitVec.ofInt 64 (m:Int)) 1=some v/\v.toInt=((m/2:Nat):Int):=by
  refine⟨BitVec.ofInt 64 (m:Int)>>>1,rfl,?_⟩;have e:BitVec.ofInt 64 (m:Int)=BitVec.ofNat 64 m:=(by simp);have a:(BitVec.ofNat 64 m>>>1).toNat=m/2:=by
    rw[BitVec.toNat_ushiftRight,L7,Nat.mod_eq_of_lt (by omega),Nat.shiftRight_eq_div_pow]
  rw[e,BitVec.toInt_eq_toNat_of_lt (by rw[a];omega),a]
def SrtN(l:List (List Fct)):Prop:=l.Pairwise λx y=>cfN x y<0
theorem SrtN.get{l:List (List Fct)}(e:SrtN l){i j:Nat}{a b:List Fct}(c:i<j)(d:l[i]?=some a)(hb:l[j]?=some b):cfN a b<0:=by
  obtain⟨hi,rfl⟩:=C3.1 d;obtain⟨hj,rfl⟩:=C3.1 hb;exact D0.1 e i j hi hj c
theorem QT{x y z:List Fct}(a:cfN x y<0)(b:cfN y z<=0):cfN x z<0:=by
  have c:=HR (V1 a) b;rcases L4 c with h|h
  . exact h
  . have:=JQ h;subst this;have:=Fk x y;omega
theorem QU{x y z:List Fct}(a:cfN x y<=0)(b:cfN y z<0):cfN x z<0:=by
  have c:=HR a (V1 b);rcases L4 c with h|h
  . exact h
  . have:=JQ h;subst this;have:=Fk x y;omega
theorem Ab5{l:List (List Fct)}(hl:l.length≤100000)(G:SrtN l)(z:List Fct):∃(f:Nat) (b:Bool),AU l z=some ((f:Int),b)∧f≤l.length∧(b=true↔z∈l)∧(b=false→SrtN (l.take f++z::l.drop f)):=by
  unfold AU;have r:=Pd (ρ:=Int×Bool) (f:=λ(d:Int×Int)=>if d.1<d.2 then(bnd (W5 (d.1+d.2)) λt=>bnd (Z4 (BitVec.ofInt 64 t) 1) λh=>bnd (atI l h.toInt) λu=>bnd (DO u z) λw=>if w<0 then(bnd (W5 (h.toInt+1)) λA=>some (.next (A,d.2)))else(some (.next (d.1,h.toInt))))else(some (.brk (d.1,d.2))))
    (λs=>∃i j:Nat,s=((i:Int),(j:Int))/\i<=j/\j<=l.length/\(∀(k:Nat) a,k<i->l[k]?=some a->cfN a z<0)/\∀(k:Nat) a,j<=k->l[k]?=some a->0<=cfN a z)
    (λs=>∃i:Nat,s=((i:Int),(i:Int))/\i<=l.length/\(∀(k:Nat) a,k<i->l[k]?=some a->cfN a z<0)/\∀(k:Nat) a,i<=k->l[k]?=some a->0<=cfN a z)
    (λ_=>False) (λs=>(s.2-s.1).toNat) (λs ⟨i,j,hs,h1,h2,h3,h4⟩=>by
      subst hs;dsimp only;by_cases D:i<j
      . obtain⟨v,v1,v2⟩:=Vn (m:=i+j) (by omega);obtain⟨a,c⟩:=AK (l:=l) (k:=(i+j)/2) (by omega);rw[if_pos (by omega),Br (by unfold W1;omega),At,show(i:Int)+(j:Int)=((i+j:Nat):Int)from by omega,v1,At,v2,BD,c,At,AbY,At];by_cases hc:cfN a z<0
        . rw[if_pos hc,Br (by unfold W1;omega),At];refine .inl ⟨_,rfl,⟨(i+j)/2+1,j,by simp,by omega,h2,λk b hk hb=>?_,h4⟩,by dsimp only;omega⟩;by_cases e:k=(i+j)/2
          . subst e;rw[c]at hb;obtain rfl:=Q1 hb;exact hc
          . exact QT (G.get (by omega) hb c) (V1 hc)
        . rw[if_neg hc];refine .inl ⟨_,rfl,⟨i,(i+j)/2,rfl,by omega,by omega,h3,λk b hk hb=>?_⟩,by dsimp only;omega⟩;by_cases e:k=(i+j)/2
          . subst e;rw[c]at hb;obtain rfl:=Q1 hb;omega
          . have B:=G.get (by omega:(i+j)/2<k) c hb;have E:=Fk a z;have n2:=Fk b z;have:=QU (x:=z) (y:=a) (z:=b) (by omega) B;omega
      . obtain rfl:i=j:=(by omega);rw[if_neg (by omega)];exact .inr (.inl ⟨_,rfl,i,rfl,h2,h3,h4⟩)) (0,(l.length:Int)) ⟨0,l.length,rfl,by omega,by omega,λk a hk=>by omega,λk a hk c=>by have:=AF c;omega⟩
  rcases r with⟨s,k1,i,rfl,k2,k3,k4⟩|⟨_,_,hf⟩
  rotate_left
  . exact hf.elim
  rw[k1,At,BH];dsimp only;have n:(∀(k:Nat) a,i<=k->l[k]?=some a->0<cfN a z)->SrtN (l.take i++z::l.drop i):=λq=>by
    unfold SrtN;have o:∀a∈l.take i,cfN a z<0:=λa c=>by
      obtain⟨k,hk⟩:=H4 c;rw[K3]at hk;split at hk
      . exact k3 k a (by assumption) hk
      . cases hk
    have p:∀a∈l.drop i,cfN z a<0:=λa c=>by
      obtain⟨k,hk⟩:=H4 c;rw[K2]at hk;have:=q _ a (by omega) hk;have:=Fk a z;omega
    refine List.pairwise_append.2 ⟨G.sublist (List.take_sublist _ _),K8.2 ⟨p,G.sublist (List.drop_sublist _ _)⟩,λa c b hb=>?_⟩;rcases S0.1 hb with rfl|hb
    . exact o a c
    . exact QT (o a c) (V1 (p b hb))
  have g:∀(k:Nat),l[k]?=some z->i<=k:=λk hk=>by
    refine P5 λhlt=>?_;have:=k3 k z hlt hk;rw[Iw]at this;omega
  by_cases hi:i<l.length
  . obtain⟨a,c⟩:=AK (l:=l) (k:=i) hi;rw[if_pos (by omega),BD,c,At,AbY,At];by_cases C:cfN a z=0
    . rw[if_pos C,At];have:=JQ C;subst this;exact⟨i,true,rfl,k2,⟨λ_=>H1 c,λ_=>rfl⟩,λG=>by simp at G⟩
    . rw[if_neg C,At];have q:∀(k:Nat) b,i<=k->l[k]?=some b->0<cfN b z:=λk b hk hb=>by
        have F:=k4 i a (V2 _) c;by_cases e:k=i
        . subst e;rw[c]at hb;obtain rfl:=Q1 hb;omega
        . have B:=G.get (by omega:i<k) c hb;have E:=Fk a z;have n2:=Fk b z;have:=QU (x:=z) (y:=a) (z:=b) (by omega) B;omega
      refine⟨i,false,rfl,k2,⟨λG=>by simp at G,λhz=>?_⟩,λ_=>n q⟩;obtain⟨k,hk⟩:=H4 hz;have:=q k z (g k hk) hk;rw[Iw]at this;omega
  . rw[if_neg (by omega),At];refine⟨i,false,rfl,k2,⟨λG=>by simp at G,λhz=>?_⟩,λ_=>n λk a hk c=>by have:=AF c;omega⟩;obtain⟨k,hk⟩:=H4 hz;have:=g k hk;have:=AF hk;omega
end
section
open Go Go.RowKit
def effsOn(s:List Int):List Eff->List Int->List Int
  |[],a=>a
  |e::r,a=>effsOn s r (if holdsB e.cond s=true then a.set e.var.toNat e.val else a)
theorem HE(s:List Int):∀(a b:List Eff)(c:List Int),effsOn s (a++b) c=effsOn s b (effsOn s a c)
  |[],_,_=>rfl
  |e::a,b,c=>by simp[effsOn,HE s a b]
theorem GT(s:List Int):∀(a:List Eff)(b:List Int),(effsOn s a b).length=b.length
  |[],_=>rfl
  |e::a,b=>by
    rw[effsOn,GT s a];split<;>simp
theorem RJ(s:List Int){l:List Eff}{k:Nat}{e:Eff}(b:l[k]?=some e)(a:List Int):effsOn s (l.take (k+1)) a=if holdsB e.cond s=true then(effsOn s (l.take k) a).set e.var.toNat e.val else effsOn s (l.take k) a:=by
  rw[M2,b,HE];rfl
def Abj(s:List Int)(l:List Eff):Prop:=∀(i:Nat) e,l[i]?=some e->0<=e.var/\e.var<s.length
def succ(o:Opr)(s:List Int):List Int:=effsOn s o.effs s
end
section
open Go Go.RowKit
theorem TaskOk.effs{t:Tsk}(c:TaskOk t){s:List Int}(hs:StateOk t.vars s):∀(i:Nat) o,t.ops[i]?=some o->Abj s o.effs:=λi o b j e he=>by
  obtain⟨a,_,y,hy,_⟩:=((c.2.2.2.2.2 i o b).2.2.2.2.2 j e he).2;refine⟨a,?_⟩;have:=(C3.1 hy).1;rw[hs.1];simp only at a this;omega
end
section
open Go Go.RowKit Go.Lib
theorem Su{α σ ρ:Type}{f:Nat->α->σ->Option (Ctl σ ρ)}:∀(xs:List α)(k:Nat)(s:σ),(∀k x s,x∈xs->∃a,f k x s=some (.next a)\/f k x s=some (.brk a))->∃a,rng f xs k s=some (.done a)
  |[],_,s,_=>⟨s,rfl⟩
  |x::xs,k,s,h=>by
    obtain⟨a,h1|h1⟩:=h k x s K6
    . simp only[rng,h1];exact Su xs (k+1) a λk x s b=>h k x s (H0 _ b)
    . exact⟨a,by simp only[rng,h1]⟩
theorem MC{β a:Type}{x:Option β}{g:a->β}{P:a->Prop}(b:∃r,x=some r/\∃c,r=g c/\P c):∃c,x=some (g c)/\P c:=by
  obtain⟨r,h1,c,rfl,h2⟩:=b;exact⟨c,h1,h2⟩
theorem QV{σ ρ β:Type}{f:Nat->σ->Option (Ctl σ ρ)}{N:Nat}{s₀:σ}{k:Fin σ ρ->Option β}{P:β->Prop}(I:Nat->σ->Prop)(b:I 0 s₀)(d:∀i s,i<N->I i s->∃a,f i s=some (.next a)/\I (i+1) a)(hb:∀s,I N s->∃r,k (.done s)=some r/\P r):∃r,bnd (Zb f N s₀) k=some r/\P r:=by
  obtain⟨s,h1,h2⟩:=QK I b λk s hk c=>d k s hk c;rw[h1,At];exact hb s h2
theorem IA{σ ρ:Type}{x:Option (Ctl σ ρ)}{I:σ->Prop}(b:∃r,x=some r/\∃a,r=Ctl.next a/\I a):∃a,x=some (.next a)/\I a:=by
  obtain⟨r,h1,a,rfl,h2⟩:=b;exact⟨a,h1,h2⟩
def ZD(vars:List Int):Prop:=vars.length<=16/\(∀(i:Nat) n,vars[i]?=some n->1<=n/\n<=64)/\∀L:List (List Fct),L.Nodup->(∀p∈L,FactsOk vars p)->L.length<=1024
section
variable {vars:List Int}
theorem FactsOk.short(a:ZD vars){p:List Fct}(b:FactsOk vars p):p.length<=16:=U8 (Fs b) a.1
theorem SrtN.nodup{l:List (List Fct)}(d:SrtN l):l.Nodup:=d.imp λ{a b} c e=>by subst e;rw[Iw]at c;omega
def UnN(a b:List (List Fct))(z:List Fct):Prop:=∃x∈a,∃y∈b,∀f,f∈z↔f∈x\/f∈y
def JnI(vars:List Int)(a b:List (List Fct))(s:List (List Fct)×List (List Fct)):Prop:=SrtN s.2/\s.2.Perm s.1/\∀z∈s.1,FactsOk vars z/\UnN a b z
theorem JnI.len(d:ZD vars){a b:List (List Fct)}{s:List (List Fct)×List (List Fct)}(f:JnI vars a b s):s.1.length<=1024/\s.2.length<=1024:=by
  have c:=d.2.2 s.1 (f.2.1.nodup_iff.1 f.1.nodup) λp e=>(f.2.2 p e).1;exact⟨c,by rw[f.2.1.length_eq];exact c⟩
theorem Sv(r:ZD vars){a b:List (List Fct)}(J:∀p∈a,FactsOk vars p)(hb:∀p∈b,FactsOk vars p):∃i,EC a b=some (i,⟨0⟩)∧i.length≤1024∧∀z∈i,FactsOk vars z∧UnN a b z:=by
  unfold EC;obtain⟨s,h1,h2⟩:=Jw (ρ:=(List (List Fct))×Err) (xs:=a) (s₀:=(([]:List (List Fct)),([]:List (List Fct)))) (f:=λ(K:Nat)(D:List Fct)(t:(List (List Fct))×(List (List Fct)))=>bnd (rng (ρ:=Ctl ((List (List Fct))×(List (List Fct))) ((List (List Fct))×Err)) (λ(L:Nat)(E:List Fct)(c:(List (List Fct))×(List (List Fct)))=>bnd (FT D E) λd=>if(!d.2)=true then(some (.next (c.1,c.2)))else(bnd (AU c.2 d.1) λu=>if u.2=true then(some (.next (c.1,c.2)))else(if(c.1.length:Int)=1024 then(some (.ret (.ret (([]:List (List Fct)),(⟨5⟩:Err)))))else(bnd (Cc c.2 u.1 [d.1]) λv=>bnd (X6 24 c.1 [d.1]) λw=>some (.next (w,v)))))) b 0 (t.1,t.2)) λm=>fin m λ(e:(List (List Fct))×(List (List Fct)))=>some (.next (e.1,e.2))) (λ_ s=>JnI vars a b s) ⟨List.Pairwise.nil,R8 _,λz hz=>by simp at hz⟩ (λk x s hk h=>by
    have H:=H1 hk;have n:=J x H;refine IA ?_;refine ED (λ_ s=>JnI vars a b s) (λ_=>False) h (λj y s hj h=>.inl ?_) (λs hs=>⟨_,rfl,_,rfl,hs⟩) (λq hq=>hq.elim);have I:=H1 hj;have o:=hb y I;have Q:=n.short r;have R:=o.short r;obtain⟨z,M,j1,j2⟩:=Vm (x:=x) (y:=y) (by omega) (by omega) n.ps o.ps;rw[j1,At];cases M with
    |false=>exact⟨_,if_pos rfl,h⟩
    |true =>
      obtain⟨N,_,j4⟩:=j2 rfl;rw[if_neg (by simp)];have hl:=h.len r;obtain⟨g,F,b1,b2,b3,b4⟩:=Ab5 (l:=s.2) (by omega) h.1 z;dsimp only;rw[b1,At];cases F with
      |true=>exact⟨_,if_pos rfl,h⟩
      |false =>
        have O:¬z∈s.2:=λS=>(by have:=b3.2 S;cases this);have G:=N.facts n o j4;have P:(s.2.take g++z::s.2.drop g).Perm (s.1++[z]):=by
          refine List.perm_middle.trans ?_;rw[F4];exact((List.perm_cons z).2 h.2.1).trans (G1 (l₁:=[z]))
        have A:JnI vars a b (s.1++[z],s.2.take g++z::s.2.drop g):=⟨b4 rfl,P,λq hq=>by
          rcases P8.1 hq with hq|hq
          . exact h.2.2 q hq
          . obtain rfl:=K9.1 hq;exact⟨G,x,H,y,I,j4⟩⟩
        have B:=(A.len r).1;dsimp only at B;rw[K0,F9]at B;dsimp only;rw[if_neg (by simp),if_neg (by omega)];have C:Cc s.2 (g:Int) [z]=some (s.2.take g++z::s.2.drop g):=by
          unfold Cc AbQ;dsimp only;rw[if_pos ⟨by omega,by omega,by omega⟩,M6]
        rw[C,At,Cb (by simp;omega) (by simp;omega),At];exact⟨_,rfl,A⟩)
  rw[h1,At,BH];exact⟨_,rfl,(h2.len r).1,h2.2.2⟩
theorem Uc(f:ZD vars){e:Eff}(he:FactsOk vars e.cond):∃b,Ew vars e=some (b,⟨0⟩)∧∀z∈b,FactsOk vars z∧∃g∈e.cond,∃y,y≠g.val∧z=[⟨g.var,y⟩]:=by
  unfold Ew;have i:=he.short f;refine MC ?_;refine ED (λk s=>s.length<=64*k/\∀z∈s,FactsOk vars z/\∃g∈e.cond,∃y,y≠g.val/\z=[⟨g.var,y⟩]) (λ_=>False) ⟨V2 _,λz hz=>by simp at hz⟩ (λk g s hk h=>.inl ?_) (λs hs=>?_) (λq l=>l.elim)
  . have m:=AF hk;obtain⟨o,g1,n,gn,gl⟩:=he.1 k g hk;obtain⟨r,n2⟩:=f.2.1 _ _ gn;rw[show g.var=((g.var.toNat:Nat):Int)by omega,BD,gn,At];obtain⟨N,rfl⟩:∃N:Nat,n=(N:Int):=⟨n.toNat,by omega⟩;rw[Wm,At];refine IA ?_;refine QV (λj c=>c.length<=64*k+j/\∀z∈c,FactsOk vars z/\∃g∈e.cond,∃y,y≠g.val/\z=[⟨g.var,y⟩]) ⟨by have:=h.1;omega,h.2⟩ (λj c hj a=>?_) (λc hs=>⟨_,rfl,_,rfl,by have:=hs.1;omega,hs.2⟩);by_cases d:(j:Int)≠g.val
    . rw[if_pos d,Cb (by have:=a.1;simp;omega) (by have:=a.1;simp;omega),At];refine⟨_,rfl,by have:=a.1;simp;omega,λz hz=>?_⟩;rcases P8.1 hz with hz|hz
      . exact a.2 z hz
      . obtain rfl:=K9.1 hz;have p:((g.var.toNat:Nat):Int)=g.var:=(by omega);rw[p];exact⟨GW.2 ⟨o,by dsimp only;omega,_,gn,by dsimp only;omega⟩,g,H1 hk,_,d,rfl⟩
    . rw[if_neg d];exact⟨_,rfl,by have:=a.1;omega,a.2⟩
  . rw[BH,if_neg (by have:=hs.1;omega)];exact⟨_,rfl,s,rfl,hs.2⟩
theorem Md{a b:List Fct}{s:List Int}(c:∀f∈a,f∈b)(hb:holdsB b s=true):holdsB a s=true:=by
  unfold holdsB at hb ⊢;rw[N6]at hb ⊢;exact λf hf=>hb f (c f hf)
theorem JT{s:List Int}{f:Fct}:hasB s f=true↔0<=f.var/\s[f.var.toNat]?=some f.val:=by
  unfold hasB;rw[N1,decide_eq_true_eq,decide_eq_true_eq]
theorem QW{z:List Fct}{s:List Int}{e:Eff}(hz:holdsB z s=true)(d:∃g∈e.cond,∃y,y≠g.val/\(⟨g.var,y⟩:Fct)∈z):holdsB e.cond s=false:=by
  obtain⟨g,hg,y,hy,hm⟩:=d;cases a:holdsB e.cond s with
  |false=>rfl
  |true =>
    unfold holdsB at hz a;rw[N6]at hz a;have b:=(JT.1 (hz _ hm)).2;have c:=(JT.1 (a _ hg)).2;dsimp only at b;rw[b]at c;exact absurd (Q1 c) hy
theorem Nv{s:List Int}{v:Nat}{c:Int}:∀(E:List Eff)(y:List Int),y[v]?=some c→(∀e∈E,e.var.toNat=v→e.val≠c→holdsB e.cond s=false)→(effsOn s E y)[v]?=some c
  |[],_,h,_=>h
  |e  :: E,y,h,hq=>by
    rw[effsOn];refine Nv E _ ?_ λf a=>hq f (H0 _ a);by_cases hf:holdsB e.cond s=true
    . rw[if_pos hf];by_cases b:e.var.toNat=v
      . have:e.val=c:=C6 λd=>by
          have:=hq e K6 b d;rw[hf]at this;cases this
        rw[b,E9 (AF h),this]
      . rw[H7 b,h]
    . rw[if_neg hf,h]
theorem Jp{s:List Int}{v:Int}(f:0<=v):∀(E:List Eff)(y b:List Int),(∀e∈E,0<=e.var)->y[v.toNat]?=b[v.toNat]?->(effsOn s E y)[v.toNat]?=(effsOn s (E.filter λe=>decide (e.var=v)) b)[v.toNat]?
  |[],_,_,_,h=>h
  |e  :: E,y,b,hn,h=>by
    have a:∀c∈E,0<=c.var:=λc d=>hn c (H0 _ d);have g:=hn e K6;rw[effsOn];by_cases he:e.var=v
    . rw[List.filter_cons_of_pos (by simpa using he),effsOn];refine Jp f E _ _ a ?_;by_cases hf:holdsB e.cond s=true
      . rw[if_pos hf,if_pos hf,he,List.getElem?_set_self',List.getElem?_set_self',h]
      . rw[if_neg hf,if_neg hf,h]
    . rw[List.filter_cons_of_neg (by simpa using he)];refine Jp f E _ _ a ?_;by_cases hf:holdsB e.cond s=true
      . rw[if_pos hf,H7 (by omega),h]
      . rw[if_neg hf,h]
def Aa3(vars:List Int)(o:Opr)(f:Fct)(z:List Fct):Prop:=∀s,StateOk vars s->holdsB z s=true->hasB (succ o s) f=true
def efV(o:Opr)(f:Fct):List Eff:=o.effs.filter λe=>decide (e.var=f.var)
def Abe(f:Fct)(E:List Eff)(z:List Fct):Prop:=∀e∈E,e.val≠f.val->∃g∈e.cond,∃y,y≠g.val/\(⟨g.var,y⟩:Fct)∈z
theorem Vo{o:Opr}{f:Fct}{z:List Fct}(g:∀e∈o.effs,Zg vars e)(hf:Y8 vars f)(hz:f∈z)(h:Abe f (efV o f) z):Aa3 vars o f z:=λs hs a=>by
  have b:hasB s f=true:=(by unfold holdsB at a;rw[N6]at a;exact a f hz);obtain⟨d,h1⟩:=JT.1 b;refine JT.2 ⟨d,?_⟩;unfold succ;rw[Jp d o.effs s s (λe he=>(g e he).2.1) rfl];refine Nv _ _ h1 λe he _ c=>QW a (h e he c)
theorem WA{o:Opr}{f:Fct}{z:List Fct}{i:Nat}{e:Eff}(k:∀e∈o.effs,Zg vars e)(hf:Y8 vars f)(he:(efV o f)[i]?=some e)(l:e.val=f.val)(hz:∀g∈e.cond,g∈z)(m:Abe f ((efV o f).drop (i+1)) z):Aa3 vars o f z:=λs hs h=>by
  obtain⟨j,h1,n,hn,_⟩:=hf;refine JT.2 ⟨j,?_⟩;unfold succ;rw[Jp j o.effs s s (λe he=>(k e he).2.1) rfl];show(effsOn s (efV o f) s)[f.var.toNat]?=some f.val;have hlt:=AF he;have a:e.var=f.var:=by
    have:=H1 he;unfold efV at this;have:=(Q9.1 this).2;simpa using this
  have b:efV o f=(efV o f).take i++e::(efV o f).drop (i+1):=by
    conv=>lhs;rw[<- F4 i (efV o f),C5 hlt]
    rw[D1 hlt]at he;rw[Q1 he]
  rw[b,HE,effsOn,if_pos (Md hz h)];refine Nv _ _ ?_ λp c _ d=>QW h (m p c d);rw[a,l,E9];rw[GT,hs.1];exact AF hn
theorem WB(l:List (List Fct))(z:List Fct):∃b,AX l z=some b∧(b=true↔z∈l):=by
  unfold AX BJ;rcases Jv (ρ:=Int) (xs:=l) (s₀:=()) (f:=λ(c:Nat)(d:List Fct)(i:Unit)=>bnd (Fx d z) λg=>if g=true then some (.ret (c:Int))else some (.next ())) (λk _=>∀j a,j<k->l[j]?=some a->a≠z) (λr=>0<=r/\z∈l) (λj a hj=>absurd hj (by omega)) (λk x s hk m=>by
    unfold Fx;rw[AbY,At];by_cases n:cfN x z=0
    . rw[if_pos n,At,At,Cd];have:=JQ n;subst this;exact .inr ⟨_,rfl,by omega,H1 hk⟩
    . rw[if_neg n,At,At,BY];refine .inl ⟨_,rfl,λj a hj h=>?_⟩;by_cases e:j=k
      . subst e;rw[hk]at h;obtain rfl:=Q1 h;rintro rfl;exact n (Iw _)
      . exact m j a (by omega) h)with⟨s,h1,h2⟩|⟨r,h1,h2,h3⟩
  . rw[h1,At,BH,At,if_neg (by decide),At];refine⟨_,rfl,by simp,λhz=>?_⟩;obtain⟨k,hk⟩:=H4 hz;exact absurd rfl (h2 k z (AF hk) hk)
  . rw[h1,At,II,At,if_pos h2,At];exact⟨_,rfl,λ_=>h3,λ_=>rfl⟩
abbrev CsT:Type:=Fin (List (List Fct)) (Ctl ((List Eff)×(List (List Fct))×Int) ((List (List Fct))×Err))
noncomputable def Abg(q:List Int)(r:Fct)(m:List (List Fct))(u:List Eff)(l0:List (List Fct)):Option CsT :=
  bnd (rng (ρ:=Fin (List (List Fct)) (Ctl ((List Eff)×(List (List Fct))×Int) ((List (List Fct))×Err))) (λ(o:Nat)(f:Eff)(g:(List (List Fct)))=>if f.val=r.val then(some (.next g))else(bnd (Ew q f) λa=>if a.2.n≠0 then(some (.ret (.ret (.ret (([]:List (List Fct)),(⟨a.2.n⟩:Err))))))else(bnd (EC g a.1) λb=>if b.2.n≠0 then(some (.ret (.ret (.ret (([]:List (List Fct)),(⟨b.2.n⟩:Err))))))else(some (.next b.1))))) u 0 l0) λd=>fin d λ(i:(List (List Fct)))=>bnd (rng (ρ:=Fin (List (List Fct)) (Ctl ((List Eff)×(List (List Fct))×Int) ((List (List Fct))×Err))) (λ(p:Nat)(h:List Fct)(c:(List (List Fct)))=>bnd (AX c h) λj=>if j=true then some (.next c)else bnd (X6 24 c [h]) λk=>some (.next k)) i 0 m) λe=>fin e λ(l:(List (List Fct)))=>some (.done l)
def CsI(vars:List Int)(o:Opr)(f:Fct)(a:List (List Fct)):Prop:=a.Nodup/\∀z∈a,FactsOk vars z/\Aa3 vars o f z
theorem Sw(C:ZD vars){o:Opr}{f:Fct}{n:List (List Fct)}(G:CsI vars o f n){u:List Eff}(hu:∀e∈u,Zg vars e){l0:List Fct}(H:FactsOk vars l0)(hs:∀z,FactsOk vars z→(∀g∈l0,g∈z)→Abe f u z→Aa3 vars o f z) :
    ∃j,Abg vars f n u [l0]=some (.done j)/\CsI vars o f j:=by
  unfold Abg;refine MC ?_;refine ED (λk L=>∀z∈L,FactsOk vars z/\(∀g∈l0,g∈z)/\Abe f (u.take k) z) (λ_=>False) (λz hz=>by
    obtain rfl:=K9.1 hz;exact⟨H,λg l=>l,λe he=>by simp at he⟩) (λk e L hk m=>.inl ?_) (λL m=>?_) (λq hq=>hq.elim)
  . have D:=hu e (H1 hk);have t:u.take (k+1)=u.take k++[e]:=(by rw[M2,hk];rfl);by_cases E:e.val=f.val
    . rw[if_pos E];refine⟨_,rfl,λz hz=>?_⟩;obtain⟨a,b,c⟩:=m z hz;refine⟨a,b,λF d i=>?_⟩;rw[t]at d;rcases P8.1 d with h|h
      . exact c F h i
      . obtain rfl:=K9.1 h;exact absurd E i
    . rw[if_neg E];obtain⟨q,q1,q2⟩:=Uc C D.1;rw[q1,At,if_neg (λh=>h rfl)];obtain⟨r,r1,_,r3⟩:=Sv C (a:=L) (b:=q) (λp v=>(m p v).1) λp v=>(q2 p v).1;dsimp only;rw[r1,At,if_neg (λh=>h rfl)];refine⟨_,rfl,λz hz=>?_⟩;obtain⟨B,x,hx,y,hy,hxy⟩:=r3 z hz;obtain⟨a,b,c⟩:=m x hx;refine⟨B,λg l=>(hxy g).2 (.inl (b g l)),λF d i=>?_⟩;rw[t]at d;rcases P8.1 d with h|h
      . obtain⟨g,l,w,hw,hm⟩:=c F h i;exact⟨g,l,w,hw,(hxy _).2 (.inl hm)⟩
      . obtain rfl:=K9.1 h;obtain⟨_,g,l,w,hw,rfl⟩:=q2 y hy;exact⟨g,l,w,hw,(hxy _).2 (.inr (by simp))⟩
  . rw[P4]at m;rw[BH];refine ED (λ_ s=>CsI vars o f s) (λ_=>False) G (λk z s hk A=>.inl ?_) (λs hs=>⟨_,rfl,s,rfl,hs⟩) (λq hq=>hq.elim);obtain⟨B,z2,z3⟩:=m z (H1 hk);obtain⟨b,b1,b2⟩:=WB s z;rw[b1,At];cases b with
    |true=>exact⟨_,if_pos rfl,A⟩
    |false =>
      have I:=C.2.2 s A.1 λp v=>(A.2 p v).1;rw[BY,Cb (by simp;omega) (by simp;omega),At];refine⟨_,rfl,?_,λq hq=>?_⟩
      . refine M5.2 ⟨A.1,by simp,λa J b hb e=>?_⟩;obtain rfl:=K9.1 hb;subst e;have:=b2.2 J;cases this
      . rcases P8.1 hq with hq|hq
        . exact A.2 q hq
        . obtain rfl:=K9.1 hq;exact⟨B,hs q B z2 z3⟩
theorem Vp(w:ZD vars){o:Opr}(x:∀e∈o.effs,Zg vars e)(y:o.effs.length≤1000){f:Fct}(hf:Y8 vars f):∃c,Gs vars o f=some (c,⟨0⟩)∧∀z∈c,FactsOk vars z∧Aa3 vars o f z:=by
  unfold Gs;have G:rng (ρ:=(List (List Fct))×Err) (λ(H:Nat)(h:Eff)(m:(List Eff))=>if h.var=f.var then(bnd (X6 40 m [h]) λA=>some (.next A))else(some (.next m))) o.effs 0 ([]:List Eff)=some (.done (efV o f)):=by
    rw[He (λk=>(o.effs.take k).filter λe=>decide (e.var=f.var)) (by simp) λk e hk=>?_]
    . rw[P4];rfl
    . have hl:((o.effs.take k).filter λe=>decide (e.var=f.var)).length<=1000:=U8 (G0 _ _) (by rw[N8];omega);rw[M2,hk,L6];by_cases he:e.var=f.var
      . rw[if_pos he,Cb (by simp;omega) (by simp;omega),At];simp[he]
      . rw[if_neg he];simp[he]
  have I:(efV o f).length<=1000:=U8 (G0 _ _) y;have d:∀e∈efV o f,Zg vars e:=λe he=>x e (Q9.1 he).1;rw[G,At,BH,Br (by unfold W1;omega),At];refine MC ?_;refine JR (λs=>s.1=efV o f/\CsI vars o f s.2.1/\-2<=s.2.2/\s.2.2<(efV o f).length) (λs=>CsI vars o f s.2.1) (λ_=>False) (λs=>(s.2.2+2).toNat) ⟨rfl,⟨List.nodup_nil,λz hz=>by simp at hz⟩,by dsimp only;omega,by dsimp only;omega⟩ ?_ (λs hs=>?_) (λq n=>n.elim)
  . rintro⟨E,c,i⟩ ⟨hE,hI,hi1,hi2⟩;dsimp only at hE hI hi1 hi2 ⊢;subst hE;by_cases F:-1<=i
    . rw[if_pos F];refine .inl ?_;have b:∀a,CsI vars o f a->∃g,(fin (.done a:CsT) λ(r:(List (List Fct)))=>bnd (W5 (i-1)) λt=>some (Ctl.next (ρ:=(List (List Fct))×Err) (efV o f,r,t)))=some (.next g)/\(g.1=efV o f/\CsI vars o f g.2.1/\-2<=g.2.2/\g.2.2<(efV o f).length)/\(g.2.2+2).toNat<(i+2).toNat:=λa J=>by
        rw[BH,Br (by unfold W1;omega),At];exact⟨_,rfl,⟨rfl,J,by dsimp only;omega,by dsimp only;omega⟩,by dsimp only;omega⟩
      by_cases v:0<=i
      . obtain⟨j,rfl⟩:∃j:Nat,i=(j:Int):=⟨i.toNat,by omega⟩;obtain⟨e,he⟩:=AK (l:=efV o f) (k:=j) (by omega);rw[if_pos v,BD,he,At];by_cases B:e.val≠f.val
        . rw[if_pos B,At];exact b c hI
        . rw[if_neg B,At,Br (by unfold W1;omega),At,show(j:Int)+1=((j+1:Nat):Int)by omega,Se (by omega) (V2 _),At,P4];have C:=d e (H1 he);obtain⟨a,r1,r2⟩:=Sw w hI (u:=(efV o f).drop (j+1)) (l0:=e.cond) (λK D=>d K (H8 D)) C.1 λz _ hz n=>WA x hf he (Classical.not_not.1 B) hz n;unfold Abg at r1;rw[r1,At];exact b a r2
      . obtain rfl:i=-1:=(by omega);rw[if_neg v,show(-1:Int)+1=((0:Nat):Int)from rfl,Br (by decide),At,Se (by omega) (V2 _),At,P4,List.drop_zero];obtain⟨a,r1,r2⟩:=Sw w hI (u:=efV o f) (l0:=[f]) d (GW.2 hf) λz _ hz n=>Vo x hf (hz f (by simp)) n;unfold Abg at r1;rw[r1,At];exact b a r2
    . rw[if_neg F];exact .inr (.inl ⟨_,rfl,hI⟩)
  . have hl:=w.2.2 s.2.1 hs.1 λp v=>(hs.2 p v).1;rw[BH,if_neg (by omega)];exact⟨_,rfl,_,rfl,hs.2⟩
theorem Tk(r:ZD vars){l:List (List Fct)}(hl:l.length≤1024)(D:∀p∈l,FactsOk vars p):∃a,FI l=some a∧a.length≤l.length∧∀z∈a,z∈l:=by
  unfold FI;refine ED (λk s=>s.length<=k/\∀z∈s,z∈l) (λ_=>False) ⟨V2 _,λz hz=>by simp at hz⟩ (λk x s hk g=>.inl ?_) (λs hs=>⟨_,rfl,hs⟩) (λq v=>v.elim);have t:=H1 hk;have w:=AF hk;have h:=D x t;have B:=h.short r;rw[Iz (by omega) h.ps,At,Cd];obtain⟨b,hb⟩:=Su (ρ:=Ctl (List (List Fct)) (List (List Fct))) (f:=λ(i:Nat)(c:List Fct)(n:Bool)=>bnd (if(k:Int)≠(i:Int)then(bnd (Cr c) λd=>if d=true then bnd (CF x c) λe=>if e=true then if(c.length:Int)<(x.length:Int)then(some true)else(if(i:Int)<(k:Int)then(some true)else(some false))else some false else some false)else(some false):Option Bool) λo=>if o=true then(some (.brk false))else(some (.next n))) l 0 true λj y s A=>by
    have m:=D y A;have C:=m.short r;have:∃b,(if(k:Int)≠(j:Int)then(bnd (Cr y) λd=>if d=true then bnd (CF x y) λe=>if e=true then if(y.length:Int)<(x.length:Int)then(some true)else(if(j:Int)<(k:Int)then(some true)else(some false))else some false else some false)else(some false):Option Bool)=some b:=by
      by_cases u:(k:Int)≠(j:Int)
      . rw[if_pos u,Iz (by omega) m.ps,At,Cd,JS,At]
        repeat' split
        all_goals exact⟨_,rfl⟩
      . rw[if_neg u];exact⟨_,rfl⟩
    obtain⟨b,hb⟩:=this;rw[hb,At];cases b
    . exact⟨_,.inl rfl⟩
    . exact⟨_,.inr rfl⟩
  rw[hb,At,BH];cases b with
  |true =>
    rw[Cd,Fz (by omega),At,Cb (by have:=g.1;simp;omega) (by have:=g.1;simp;omega),At];refine⟨_,rfl,by have:=g.1;simp;omega,λz hz=>?_⟩;rcases P8.1 hz with hz|hz
    . exact g.2 z hz
    . obtain rfl:=K9.1 hz;exact t
  |false=>exact⟨_,BY,by have:=g.1;omega,g.2⟩
def AbX(vars:List Int)(o:Opr)(p q:List Fct):Prop:=FactsOk vars q/\∀s,StateOk vars s->holdsB q s=true->holdsB o.pre s=true/\holdsB p (succ o s)=true
theorem RK{t:Tsk}(A:TaskOk t)(C:ZD t.vars){i:Nat}{o:Opr}(E:t.ops[i]?=some o){p:List Fct}(F:FactsOk t.vars p):∃v,Fy t (i:Int) p=some (v,⟨0⟩)∧v.length≤1024∧∀q∈v,AbX t.vars o p q:=by
  unfold Fy CE EJ;have m:=A.2.2.2.2.2 i o E;have N:=AF E;have G:∀e∈o.effs,Zg t.vars e:=λe he=>by
    obtain⟨j,hj⟩:=H4 he;exact m.2.2.2.2.2 j e hj
  have O:=F.short C;have H:=FactsOk.short C m.2.2.2.2.1;rw[Ei.2 A,At,if_neg (λR=>R rfl),if_neg (by omega),if_neg (by omega),At,BY,Dq F,At,Cd,BD,E,At,LN (by omega) (by omega),At];refine MC ?_;refine ED (λk(s:List (List (List Fct)))=>s.length=p.length/\∀j g,j<k->p[j]?=some g->∃L,s[j]?=some L/\∀z∈L,FactsOk t.vars z/\Aa3 t.vars o g z) (λ_=>False) ⟨by simp,λj g hj=>absurd hj (by omega)⟩ (λk g s hk M=>.inl ?_) (λs hs=>?_) (λq d=>d.elim)
  . obtain⟨L,l1,l2⟩:=Vp C G (by have:=m.2.2.1;omega) (F.1 k g hk);have n:=AF hk;obtain⟨y,hy⟩:=AK (l:=s) (k:=k) (by omega);rw[l1,At,if_neg (λR=>R rfl),hy,At];refine⟨_,rfl,by rw[Q7];exact M.1,λj I hj c=>?_⟩;by_cases e:j=k
    . subst e;rw[hk]at c;obtain rfl:=Q1 c;exact⟨L,E9 (by omega),l2⟩
    . obtain⟨P,J,h2⟩:=M.2 j I (by omega) c;exact⟨P,by rw[H7 (by omega)];exact J,h2⟩
  . rw[BH,Fz (by omega),At];refine ED (λk L=>L.length<=1024/\∀z∈L,FactsOk t.vars z/\∀h,StateOk t.vars h->holdsB z h=true->holdsB o.pre h=true/\∀j g,j<k->p[j]?=some g->hasB (succ o h) g=true) (λ_=>False) ⟨by show 1<=1024;decide,λz hz=>?_⟩ (λk g L hk w=>.inl ?_) (λL w=>?_) (λq d=>d.elim)
    . obtain rfl:=K9.1 hz;exact⟨m.2.2.2.2.1,λh _ R=>⟨R,λj g hj=>absurd hj (by omega)⟩⟩
    . have n:=AF hk;rw[F7]at n;obtain⟨g,hg⟩:=AK (l:=p) (k:=k) n;obtain⟨S,m1,m2⟩:=hs.2 k g (by rw[show p.length=_ from rfl];exact n) hg;rw[m1,At];obtain⟨r,r1,r2,r3⟩:=Sv C (a:=L) (b:=S) (λq d=>(w.2 q d).1) λq d=>(m2 q d).1;rw[r1,At,if_neg (λR=>R rfl)];refine⟨_,rfl,r2,λz hz=>?_⟩;obtain⟨Q,x,hx,y,hy,hxy⟩:=r3 z hz;refine⟨Q,λh u D=>?_⟩;have B:=(w.2 x hx).2 h u (Md (λf hf=>(hxy f).2 (.inl hf)) D);have K:=(m2 y hy).2 h u (Md (λf hf=>(hxy f).2 (.inr hf)) D);refine⟨B.1,λj I hj c=>?_⟩;by_cases e:j=k
      . subst e;rw[hg]at c;obtain rfl:=Q1 c;exact K
      . exact B.2 j I (by omega) c
    . rw[BH];refine⟨_,rfl,_,rfl,w.1,λq d=>⟨(w.2 q d).1,λh u D=>?_⟩⟩;obtain⟨J,h2⟩:=(w.2 q d).2 h u D;refine⟨J,?_⟩;unfold holdsB;rw[N6];intro f hf;obtain⟨j,hj⟩:=H4 hf;exact h2 j f (by rw[F7];exact AF hj) hj
theorem Oi{t:Tsk}(c:TaskOk t)(d:ZD t.vars){i:Nat}{o:Opr}(g:t.ops[i]?=some o){p:List Fct}(h:FactsOk t.vars p):∃a,CU t (i:Int) p=some (a,⟨0⟩)/\a.length<=1024/\∀q∈a,AbX t.vars o p q:=by
  unfold CU;obtain⟨l,l1,l2,l3⟩:=RK c d g h;rw[l1,At,if_neg (λn=>n rfl)];obtain⟨m,m1,m2,m3⟩:=Tk d l2 λq e=>(l3 q e).1;dsimp only;rw[m1,At,if_pos (by omega),At];have b:=LZ m;have j:=Hr m;refine MC ?_;refine QV (λ_ s=>s=Dh m) rfl (λk s hk hs=>?_) (λs hs=>?_)
  . subst hs;obtain⟨x,hx⟩:=AK (l:=Dh m) (k:=k) (by omega);have f:=(l3 x (m3 x (b.mem_iff.1 (H1 hx)))).1;have:=f.short d;rw[hx,At,Fz (by omega),At,At,Nt hx];exact⟨_,rfl,rfl⟩
  . subst hs;rw[BH];exact⟨_,rfl,_,rfl,by omega,λq e=>l3 q (m3 q (b.mem_iff.1 e))⟩
end
end
section
open Go Go.RowKit
attribute [local irreducible] ewp owp hwp hwq hws Ev Evg Fn W6 X7 X4 X1
attribute [local irreducible] hwx YW hwz ZY
instance : TMth prog 74 "Len" 25 false := ⟨by kernel_rfl⟩
instance : TMth prog 74 "Less" 214 false := ⟨by kernel_rfl⟩
instance : TMth prog 74 "Pop" 215 true := ⟨by kernel_rfl⟩
instance : TMth prog 74 "Push" 216 true := ⟨by kernel_rfl⟩
instance : TMth prog 74 "Swap" 217 false := ⟨by kernel_rfl⟩
noncomputable def CI(a:List CEn):Option Int :=
  some (a.length:Int)
section
attribute [local irreducible] Vb Lc Rw Ob
theorem GG{w:World}{A:Nat->Prop}(hA:∀k,A k->k<w.heap.size){a:Value}{b:List CEn}(c:Vb w A a b){r:Int}(hm:CI b=some r) :
    Fn prog 25 [a] w λv w'=>Ext w w'/\Vb w' (upA A w w') v r:=by
 obtain⟨_,_,_⟩:=Db hA;apply CZ c;intros;refine AG func25 rfl ntmps25 ?_;unfold CI at hm;refine Aj (Ae (Au rfl (o_z (Aj (Ae (Ar rfl (AO rfl (Au rfl (o_z (AD ?_))))))))));obtain rfl:=sm hm;exact Ca
end
noncomputable def Ce(a:List CEn)(b:Int)(c:Int):Option Bool :=
  bnd (bnd (atI a b) λd=>bnd (atI a c) λe=>if d.dist<e.dist then(some true)else(bnd (atI a b) λf=>bnd (atI a c) λg=>if f.dist=g.dist then(bnd (atI a b) λh=>bnd (atI a c) λi=>if h.order<i.order then(some true)else(some false))else(some false)):Option Bool) λj=>some j
section
attribute [local irreducible] Vb Lc Rw Ob
theorem Gu{w:World}{A:Nat->Prop}(hA:∀k,A k->k<w.heap.size){b:Value}{i:List CEn}(j:Vb w A b i){c:Int}(l:W1 c){d:Int}(m:W1 d){r:Bool}(hm:Ce i c d=some r) :
    Fn prog 214 [b,(.int .i64 c),(.int .i64 d)] w λv w'=>Ext w w'/\Vb w' (upA A w w') v r:=by
 obtain⟨_,_,_⟩:=Db hA;apply CZ j;intros;refine AG func214 rfl ntmps214 ?_;unfold Ce at hm;refine Aj (Ae (Au rfl (o_z (Aj (Dp (X:=Unit) hm [] [] [] [] (λ_ _ e _ t=>(6,.bool e)::t) (λ_ _ _ _ t=>t) ?_ ?_)))))
 ·intro e a;refine Qy (Ci (FH 0 38)) ?_;refine AM rfl rfl (AM rfl rfl ?_);obtain⟨n,g0,a⟩:=bs a;refine Oa rfl ?_;intros;refine Be rfl rfl (NZ rfl (AM rfl rfl (AM rfl rfl ?_)));obtain⟨o,i0,a⟩:=bs a;refine Oa rfl ?_;intros;refine Be rfl rfl (NZ rfl (GN rfl rfl rfl (λf=>?_) λf=>?_))
  ·replace a:=ip a f;refine AM rfl rfl (AN rfl rfl rfl (AN rfl rfl rfl (AN rfl rfl rfl (AN rfl rfl rfl (AN rfl rfl rfl (AN rfl rfl rfl (AN rfl rfl rfl (AN rfl rfl rfl (AN rfl rfl rfl (AN rfl rfl rfl (AN rfl rfl rfl (AN rfl rfl rfl (AN rfl rfl rfl (AN rfl rfl rfl ?_))))))))))))));refine AN rfl rfl rfl (AN rfl rfl rfl (AN rfl rfl rfl (AN rfl rfl rfl (AN rfl rfl rfl (AN rfl rfl rfl (AN rfl rfl rfl (AN rfl rfl rfl (AN rfl rfl rfl (AN rfl rfl rfl (Dn rfl rfl rfl (CY rfl rfl (h_z ?_))))))))))));obtain rfl:=sm a;exact Bb ()
  replace a:=im a f;refine AM rfl rfl (AB rfl (AA rfl rfl (BK rfl (AB rfl (AA rfl rfl (BK rfl (AB rfl (AA rfl rfl ?_))))))));obtain⟨p,k0,a⟩:=bs a;refine IH ?_;intros;refine AB rfl (AA rfl rfl (Cu rfl (AB rfl (AA rfl rfl (IG (AB rfl (AA rfl rfl (BK rfl (AB rfl (AA rfl rfl (BK rfl (AB rfl (AA rfl rfl ?_)))))))))))));obtain⟨l0,m0,a⟩:=bs a;refine IH ?_;intros;refine AB rfl (AA rfl rfl (Cu rfl (AB rfl (AA rfl rfl (IG (AB rfl (AA rfl rfl (AY (λ_ _=>IL rfl rfl) (λg=>?_) (λg=>?_)))))))))
  ·replace a:=ip a g;refine AB rfl (AA rfl rfl (BK rfl (AB rfl (AA rfl rfl (BK rfl (AB rfl (AA rfl rfl (BK rfl (AB rfl (AA rfl rfl ?_))))))))));obtain⟨q,o0,a⟩:=bs a;refine IH ?_;intros;refine AB rfl (AA rfl rfl (Cu rfl (AB rfl (AA rfl rfl (IG (AB rfl (AA rfl rfl (BK rfl (AB rfl (AA rfl rfl (BK rfl (AB rfl (AA rfl rfl ?_)))))))))))));obtain⟨s,q0,a⟩:=bs a;refine IH ?_;intros;refine AB rfl (AA rfl rfl (Cu rfl (AB rfl (AA rfl rfl (IG (AB rfl (AA rfl rfl (AY (λ_ _=>Do rfl rfl) (λh=>?_) (λh=>?_)))))))))
   ·replace a:=ip a h;refine AB rfl (AA rfl rfl (JF rfl rfl (CG rfl rfl rfl (CY rfl rfl (h_z ?_)))));obtain rfl:=sm a;exact Bb ()
   replace a:=im a h;refine AB rfl (AA rfl rfl (JF rfl rfl (CG rfl rfl rfl (CY rfl rfl (h_z ?_)))));obtain rfl:=sm a;exact Bb ()
  replace a:=im a g;refine AB rfl (AA rfl rfl (BK rfl (AN rfl rfl rfl (AN rfl rfl rfl (AN rfl rfl rfl (AN rfl rfl rfl (AN rfl rfl rfl (AN rfl rfl rfl (AN rfl rfl rfl (AN rfl rfl rfl (AN rfl rfl rfl (AN rfl rfl rfl (AN rfl rfl rfl (AB rfl ?_))))))))))))));refine AA rfl rfl (Nk rfl rfl (CG rfl rfl rfl (CY rfl rfl (h_z ?_))));obtain rfl:=sm a;exact Bb ()
 intro e _ _ _ _ hm;intros;refine BP ?_;refine AD ?_;obtain rfl:=sm hm;exact Ca
end
noncomputable def BR(a:List CEn)(b:Int)(c:Int):Option (List CEn) :=
  bnd (atI a c) λe=>bnd (atI a b) λd=>bnd (atI a b) λf=>bnd (atI (a.set (b:Int).toNat e) c) λg=>some ((a.set (b:Int).toNat e).set (c:Int).toNat d)
theorem Gv{w:World}{O:Lab}{k:Option Addr}{e l f:Nat}{m:List CEn}(g:Rw f w O 77 (.slice k e l) m){n:Int}(u:W1 n){o:Int}(y:W1 o){r:(List CEn)}(hm:BR m n o=some r) :
    Fn prog 217 [(.slice k e l),(.int .i64 n),(.int .i64 o)] w λv w'=>∃h,St (eT f) w O w' h/\Rw f w' h 77 (.slice k e l) r:=by
 obtain⟨p,hE,w0,y0⟩:=Y3 (w:=w) (O:=O) g.2.2;obtain rfl:e=m.length:=g.len.1;have b:=Rw.leave g w0 y0 (j:=2) (by decide);have s:Bm w p w p:=Bm.refl;refine AG func217 rfl ntmps217 ?_;unfold BR at hm;refine Ck [(13,[2])] p ?_;refine Bl (fuel:=5) [] (Ci [0,1,4,5,6,7,8,9,10,11,12]) rfl (AM rfl rfl (AM rfl rfl (AM rfl rfl (AM rfl rfl ?_))));obtain⟨c,e5,hm⟩:=bs hm;obtain⟨z,x6⟩:=Cn e5;obtain⟨H,o9,z0,g0,h0,j0,k0,a2,rfl,t0,a1,b1⟩:=b.elemF x6;obtain⟨A,d1,rfl⟩:=t0.form;refine CX (hA:=g0) (hj:=z) (hlt:=j0) rfl rfl rfl (ID (hl:=rfl) (hb:=SU h0 k0) rfl rfl (AM rfl rfl (AM rfl rfl ?_)));obtain⟨d,e1,hm⟩:=bs hm;obtain⟨B,g1⟩:=Cn e1;obtain⟨I,c2,h1,l0,n0,o0,p0,d2,rfl,f0,i1,j1⟩:=b.elemF g1;obtain⟨C,l1,rfl⟩:=f0.form;refine CX (hA:=l0) (hj:=B) (hlt:=o0) rfl rfl rfl (ID (hl:=rfl) (hb:=SU n0 p0) rfl rfl ?_);obtain⟨J,m1,hm⟩:=bs hm;obtain⟨D,u0⟩:=Cn m1;obtain⟨K,g2,o1,d0,p1,q0,q1,h2,rfl,r1,i2,j2⟩:=b.elemF u0;obtain⟨L,l2,rfl⟩:=r1.form;refine CX (hA:=d0) (hj:=D) (hlt:=q0) rfl rfl rfl (AP ?_);refine Bl (fuel:=3) [2] (Ci [2,3]) rfl (AM rfl rfl (AM rfl rfl (AP (Bo (i:=13) rfl ?_))));refine Fe rfl b (a:=c) (Vb.ofAgg (cs:=[(.slice A c.facts.length d1),(.int .i64 c.dist),(.int .i64 c.order)]) (x:=c) rfl ⟨_,rfl,t0,a1,b1⟩) d0 rfl rfl (AF u0) λM t b=>?_;have E:=t.lst [2] (λ_ R=>by cases R;decide);refine CT [] E ?_;refine Bl (fuel:=1) [] [(14,true)] rfl ?_;obtain⟨n2,s1,hm⟩:=bs hm;obtain⟨F,v0⟩:=Cn s1;obtain⟨N,p2,u1,e0,v1,s0,w1,q2,rfl,y1,r2,s2⟩:=b.elemF v0;obtain⟨P,u2,rfl⟩:=y1.form;refine CX (hA:=e0) (hj:=F) (hlt:=s0) rfl rfl rfl (AP (Bo (i:=15) rfl ?_));replace f0:=f0.st t;refine Fe rfl b (a:=d) (Vb.ofAgg (cs:=[(.slice C d.facts.length l1),(.int .i64 d.dist),(.int .i64 d.order)]) (x:=d) rfl ⟨_,rfl,f0,i1,j1⟩) e0 rfl rfl (AF v0) λQ G b=>?_;refine Gn (Dv ?_);obtain rfl:=sm hm;replace s:=(s.st t).st G;obtain⟨h,hS',hz,hl⟩:=hE.leave (λq=>if q=2 then f else 0) rfl s;exact Zj rfl  ⟨h,hS',(Rw.leave b hz (hl 2 (by decide) (by decide)) g.2.2)⟩
noncomputable def Fu(b:BxR 79 77 CEn)(c:An 77 CEn):Option (BxR 79 77 CEn) :=
  bnd (X6 40 b.l [c.x]) λa=>some (⟨a⟩:BxR 79 77 CEn)
theorem KE{w:World}{O:Lab}{l f:Nat}{A:BxR 79 77 CEn}(m:Ob f w O (.pointer (some ⟨l,0,none⟩)) A){d:Value}{a:An 77 CEn}(n:Vb w (Fr 0 w O) d a){r:(BxR 79 77 CEn)}(hm:Fu A a=some r) :
    Fn prog 216 [(.pointer (some ⟨l,0,none⟩)),d] w λv w'=>∃g,St (eT f) w O w' g/\Ob f w' g (.pointer (some ⟨l,0,none⟩)) r:=by
 obtain⟨o,hE,o0,s0⟩:=Y3 (w:=w) (O:=O) m.2;have b:=Ob.leave m o0 s0 (j:=2) (by decide);have p:Bm w o w o:=Bm.refl;replace n:=n.mono o0;obtain⟨G,rfl,h4⟩:=n.any;obtain⟨H,rfl,v6,rfl,h7,t0,u0⟩:=h4;obtain⟨D,c9,rfl⟩:=h7.form;refine AG func216 rfl ntmps216 ?_;unfold Fu at hm;refine Aj (Ae (Ar rfl (Qg rfl rfl (Ar rfl (AZ rfl rfl (AZ rfl rfl ?_))))));refine BL 3 o λI J K s e=>?_;refine AR e rfl rfl rfl (Bg) (allOne) λL t e=>?_;refine Au rfl (o_z (Aj (Ae (Ar rfl (o_z (Am rfl ?_))))));replace b:=(b.st s).st t;obtain⟨B,k1,k0,v0,c,d0⟩:=BxR.opn b 2 4 (by decide);obtain⟨M,m1,rfl⟩:=d0.form;refine Ck [(6,[4])] B ?_;refine Bl (fuel:=5) [] (Ci [1,2,3,4]) rfl (AM rfl rfl (En rfl rfl (Bz (hc:=CH c 0 rfl) rfl rfl ?_)));replace e:=e.st k0;refine ID (hl:=rfl) (hb:=Qs e) rfl rfl (AP ?_);refine Bl (fuel:=4) [4] [(0,true)] rfl (AM rfl rfl (AP (Bo (i:=5) rfl ?_)));replace h7:=((h7.st s).st t).st k0;refine CW 5 B (xs:=([a.x]:List CEn)) rfl rfl rfl ⟨(Vb.ofAgg (cs:=[(.slice D a.x.facts.length c9),(.int .i64 a.x.dist),(.int .i64 a.x.order)]) (x:=a.x) rfl ⟨_,rfl,h7,t0,u0⟩),trivial⟩ λN P Q h E=>?_;have u:=lZ h;refine CT [(6,[4])] u (Bo (i:=6) rfl ?_);obtain⟨F,y,hm⟩:=bs hm;obtain⟨y,z0,a1⟩:=Bw y;replace d0:=d0.st h;refine DH rfl d0 (E.rd) rfl rfl z0 a1 λR S T U z k=>?_;rw[<- y]at k ⊢;have u:=z.lst [4] (λ_ X=>by cases X;decide);refine CT [] u ?_;refine Bl (fuel:=1) [] [(7,true)] rfl (En rfl rfl (AP (Bo (i:=8) rfl ?_)));replace c:=(c.st h).st z;refine AR c rfl rfl rfl (Bg) (allOne) λV C c=>?_;refine Gn (Dv ?_);replace k:=k.st C;obtain⟨W,b1,c1,d1,e1⟩:=BxR.shut (x:=(⟨F⟩:BxR 79 77 CEn)) (l0:=2) (by decide) c k;obtain rfl:=sm hm;replace p:=((((((p.st s).st t).st k0).st h).st z).st C).st b1;obtain⟨g,hS',hz,hl⟩:=hE.leave (λq=>if q=2 then f else 0) rfl p;exact Zj rfl  ⟨g,hS',(Ob.leave e1 hz (hl 2 (by decide) (by decide)) m.2)⟩
noncomputable def FD(b:BxR 79 77 CEn):Option ((An 77 CEn)×(BxR 79 77 CEn)) :=
  bnd (W5 ((b.l.length:Int)-1)) λa=>bnd (atI b.l a) λc=>bnd (Zi b.l 0 a) λd=>some ((⟨c⟩:An 77 CEn),(⟨d⟩:BxR 79 77 CEn))
theorem KW{w:World}{O:Lab}{k d:Nat}{p:BxR 79 77 CEn}(l:Ob d w O (.pointer (some ⟨k,0,none⟩)) p){r:(An 77 CEn)×(BxR 79 77 CEn)}(hm:FD p=some r) :
    Fn prog 215 [(.pointer (some ⟨k,0,none⟩))] w λv w'=>∃b,St (eT d) w O w' b/\Ob d w' b (.pointer (some ⟨k,0,none⟩)) r.2/\Vb w' (Fr 0 w' b) v r.1:=by
 obtain⟨s,hE,q0,r0⟩:=Y3 (w:=w) (O:=O) l.2;have m:=Ob.leave l q0 r0 (j:=2) (by decide);have n:Bm w s w s:=Bm.refl;refine AG func215 rfl ntmps215 ?_;unfold FD at hm;refine Aj (Ae (Au rfl (o_z (Aj (Ae (Ar rfl (Cm rfl ?_)))))));obtain⟨t,v6,S3,i1,a,h7⟩:=BxR.opn m 2 3 (by decide);obtain⟨B,c9,rfl⟩:=h7.form;refine AL (hc:=Blk.cell (i:=0) (a.1) rfl) rfl (AO rfl ?_);have u:=Bj h7.len;have C:=rngNat u;obtain⟨D,n0,hm⟩:=bs hm;have E:=(Bh n0);refine Hi (he:=n0) rfl rfl (Au rfl (o_z (Aj (Ae (Ar rfl (Cm rfl (AL (hc:=Blk.cell (i:=0) (a.1) rfl) rfl (Ar rfl ?_))))))));obtain⟨e,t0,hm⟩:=bs hm;obtain⟨y,v0⟩:=Cn t0;obtain⟨F,n1,w0,h0,j0,k0,o1,rfl,d0,y0,z0⟩:=h7.elem v0;obtain⟨z,b1,rfl⟩:=d0.form;refine BA (hA:=h0) (hj:=y) (hlt:=j0) rfl rfl (BE (hl:=rfl) (hc:=k0) rfl ?_);refine BL 4 t λG H I f c=>?_;refine AR c rfl rfl rfl (Bg) (allOne) λJ g c=>?_;refine o_z (Aj (Ae (Ar rfl (Ar rfl (Cm rfl ?_)))));replace a:=(a.st f).st g;refine AL (hc:=Blk.cell (i:=0) (a.1) rfl) rfl (Ar rfl ?_);obtain⟨A,d1,hm⟩:=bs hm;replace h7:=(h7.st f).st g;obtain⟨o,e1⟩:=Acc h7 d1;refine TK (hc:=e1) rfl rfl rfl (Cm rfl ?_);refine AR a rfl rfl rfl (Bg) (allOne) λK h a=>?_;refine o_z (Aj (Ae ?_));replace c:=c.st h;refine BE (hl:=rfl) (hc:=(c.1).cellsAt) rfl (Ki rfl (Au rfl (o_z (AD ?_))));replace o:=o.st h;obtain⟨L,o0,f1,g1,h1⟩:=BxR.shut (x:=(⟨A⟩:BxR 79 77 CEn)) (l0:=2) (by decide) a o;obtain rfl:=sm hm;replace n:=((((n.st S3).st f).st g).st h).st o0;obtain⟨b,hS',hz,hl⟩:=hE.leave (λq=>if q=2 then d else 0) rfl n;replace d0:=(((d0.st f).st g).st h).st o0;exact X2 rfl (AC rfl) ⟨b,hS',(Ob.leave h1 hz (hl 2 (by decide) (by decide)) l.2),(Vb.mono (Aaw (Vb.ofAgg (cs:=[(.slice z e.facts.length b1),(.int .i64 e.dist),(.int .i64 e.order)]) (x:=e) rfl ⟨_,rfl,d0,y0,z0⟩)) hz)⟩
noncomputable def Er(h:BxR 79 77 CEn)(i:Int):Option (BxR 79 77 CEn) :=
  bnd (lop (ρ:=(BxR 79 77 CEn)) (λ(b:Int×(BxR 79 77 CEn))=>bnd (W5 (b.1-1)) λc=>bnd (Zn c 2) λa=>bnd (if a=b.1 then(some true)else(bnd (Ce b.2.l b.1 a) λd=>if d=true then some false else some true):Option Bool) λe=>if e=true then(some (.brk (b.1,b.2)))else(bnd (BR b.2.l a b.1) λf=>some (.next (a,(⟨f⟩:BxR 79 77 CEn))))) (i,h)) λres3=>fin res3 λ(g:Int×(BxR 79 77 CEn))=>some g.2
theorem KF{w:World}{O:Lab}{p0 i0:Nat}{x0:BxR 79 77 CEn}(h0:Ob i0 w O (.pointer (some ⟨p0,0,none⟩)) x0){x1:Int}(rx1:W1 x1){r:(BxR 79 77 CEn)}(hm:Er x0 x1=some r) :
    Fn prog 62 [(.iface 74 (.pointer (some ⟨p0,0,none⟩))),(.int .i64 x1)] w λv w'=>∃O',St (eT i0) w O w' O'/\Ob i0 w' O' (.pointer (some ⟨p0,0,none⟩)) r:=by
 obtain⟨O0,hE,c1,d1⟩:=Y3 (w:=w) (O:=O) h0.2;have h0':=Ob.leave h0 c1 d1 (j:=2) (by decide);have hB:Bm w O0 w O0:=Bm.refl;refine AG func62 rfl ntmps62 ?_;unfold Er at hm;obtain⟨m0,e1,hm⟩:=bs hm;refine Bc (aft m0 (λ(s5:Int×(BxR 79 77 CEn))(x6:Unit)=>[]) (λs5 x6 w'=>∃O':Lab,Bm w O0 w' O'/\Ob 2 w' O' (.pointer (some ⟨p0,0,none⟩)) s5.2/\W1 s5.1)) ?_ ?_
 ·refine BC (GB (σ:=Int×(BxR 79 77 CEn)) (X:=Unit) e1 (λ(s5:Int×(BxR 79 77 CEn))(x6:Unit)=>[(0,(.iface 74 (.pointer (some ⟨p0,0,none⟩)))),(1,(.int .i64 s5.1))]) _ (λs5 x6 w'=>∃O':Lab,Bm w O0 w' O'/\Ob 2 w' O' (.pointer (some ⟨p0,0,none⟩)) s5.2/\W1 s5.1) _ () ⟨O0,hB,h0',rx1⟩ D4 ?_);rintro s5 x6 w9 f1 ⟨g2,hB,d0,j0⟩ a0 n0 e0;refine BC (Aj (Ae (Ar rfl ?_)));obtain⟨h2,t0,a0⟩:=bs a0;have u0:=(Bh t0);refine Hi (he:=t0) rfl rfl ?_;obtain⟨g1,v0,a0⟩:=bs a0;have o0:=OR v0 u0;refine We (he:=v0) (hr:=u0) rfl rfl rfl (Au rfl (o_z (Aj (Aj ?_))));obtain⟨h1,b0,a0⟩:=bs a0;refine Bc (λl' w'=>∃(i1:Unit) (O':Lab),W4 l' [(0,(.iface 74 (.pointer (some ⟨p0,0,none⟩)))),(1,(.int .i64 s5.1)),(4,(.int .i64 g1)),(17,(.bool h1))]/\Bm w O0 w' O'/\Ob 2 w' O' (.pointer (some ⟨p0,0,none⟩)) s5.2) ?_ ?_
  ·refine Ae (Ar rfl (Ar rfl (EH rfl rfl (λq0=>?_) λq0=>?_)))
   ·replace b0:=ip b0 q0;refine Ar rfl (Ay rfl rfl (Ay rfl rfl (Ay rfl rfl (Ay rfl rfl (Ay rfl rfl (AV rfl rfl (o_z ?_)))))));obtain rfl:=sm b0;exact⟨(),_,A1,hB,d0⟩
   replace b0:=im b0 q0;refine Ar rfl (Az rfl rfl (Ar rfl (Az rfl rfl (Ar rfl (Az rfl rfl (Ar rfl (Az rfl rfl ?_)))))));obtain⟨j1,i2,w0,k1,f0,c0⟩:=BxR.opn d0 2 3 (by decide);obtain⟨j2,k2,rfl⟩:=c0.form;obtain⟨y0,l1,b0⟩:=bs b0;refine Hz (O:=j1) (A:=All w9) (R:=λw' F v=>Vb w' F v y0) (Gu (λ_ h=>h) (c0).all j0 o0 l1) (EQ (Blk.cell (i:=0) f0.1 rfl)) rfl rfl λl2 m2 n2 g0 m1=>?_;obtain rfl:=m1.bool;cases y0
   case false =>
    replace b0:=iF b0;refine Az rfl rfl (Cx rfl (AS rfl rfl (o_z ?_)));replace f0:=f0.st g0;replace c0:=c0.st g0;obtain⟨o2,n1,o1,p1,q1⟩:=BxR.shut (x:=s5.2) (l0:=2) (by decide) f0 c0;obtain rfl:=sm b0;exact⟨(),_,A1,((hB.st w0).st g0).st n1,q1⟩
   replace b0:=iT b0;refine Az rfl rfl (Cw rfl (AS rfl rfl (o_z ?_)));replace f0:=f0.st g0;replace c0:=c0.st g0;obtain⟨p2,r1,s1,t1,u1⟩:=BxR.shut (x:=s5.2) (l0:=2) (by decide) f0 c0;obtain rfl:=sm b0;exact⟨(),_,A1,((hB.st w0).st g0).st r1,u1⟩
  rintro q2 r2 ⟨i1,s2,r0,hB,d0⟩;refine AQ _ r0 ?_;refine Bx rfl (λs0=>?_) (λs0=>?_)
  ·replace a0:=ip a0 s0;refine Cl ?_;obtain rfl:=sm a0;exact show Exists _ from⟨_,(),e0 _ rfl,trivial,_,hB,d0,j0⟩
  replace a0:=im' a0 s0;refine AE (Aj (Ae (Ar rfl (Ar rfl (Ar rfl ?_)))));obtain⟨v1,t2,w1,y1,k0,z0⟩:=BxR.opn d0 2 3 (by decide);obtain⟨u2,v2,rfl⟩:=z0.form;obtain⟨z1,a2,a0⟩:=bs a0;refine Hy (O:=v1) (Gv z0 o0 j0 a2) (EQ (Blk.cell (i:=0) k0.1 rfl)) rfl rfl λw2 x2 y2 a1 b1=>?_;refine o_z (Ae (Ar rfl (Au rfl (o_z ?_))));replace k0:=k0.st a1;obtain⟨z2,b2,c2,d2,e2⟩:=BxR.shut (x:=(⟨z1⟩:BxR 79 77 CEn)) (l0:=2) (by decide) (by have q:=k0;rw[<- b1.len.1.symm]at q;exact q) b1.relen;obtain rfl:=sm a0;exact show Exists _ from⟨_,(),rfl,D4,_,((hB.st w1).st a1).st b2,e2,o0⟩
 rintro a3 b3 ⟨c3,d3,rfl,f2,e3,hB,d0,j0⟩;replace hm:=AW hm;obtain rfl:=sm hm;obtain⟨O',hS',hz,hl⟩:=hE.leave (λq=>if q=2 then i0 else 0) rfl hB;exact Zj rfl  ⟨O',hS',(Ob.leave d0 hz (hl 2 (by decide) (by decide)) h0.2)⟩
noncomputable def DX(q:BxR 79 77 CEn)(o:Int)(p:Int):Option (Bool×(BxR 79 77 CEn)) :=
  bnd (lop (ρ:=Bool×(BxR 79 77 CEn)) (λ(b:Int×(BxR 79 77 CEn))=>bnd (W5 (2*b.1)) λi=>bnd (W5 (i+1)) λa=>bnd (if p<=a then(some true)else(if a<0 then(some true)else(some false)):Option Bool) λj=>if j=true then(some (.brk (b.1,b.2)))else(bnd (bnd (W5 (a+1)) λd=>bnd (if d<p then(bnd (Ce b.2.l d a) λk=>if k=true then some true else some false)else(some false):Option Bool) λm=>if m=true then(some d)else(some a):Option Int) λe=>bnd (Ce b.2.l e b.1) λn=>if n=true then bnd (BR b.2.l b.1 e) λf=>some (.next (e,(⟨f⟩:BxR 79 77 CEn)))else some (.brk (b.1,b.2)))) (o,q)) λg=>fin g λ(c:Int×(BxR 79 77 CEn))=>bnd (if o<c.1 then(some true)else(some false):Option Bool) λh=>some (h,c.2)
theorem JU{w:World}{O:Lab}{p0 i0:Nat}{x0:BxR 79 77 CEn}(r0:Ob i0 w O (.pointer (some ⟨p0,0,none⟩)) x0){x1:Int}(rx1:W1 x1){x2:Int}(rx2:W1 x2){r:Bool×(BxR 79 77 CEn)}(hm:DX x0 x1 x2=some r) :
    Fn prog 54 [(.iface 74 (.pointer (some ⟨p0,0,none⟩))),(.int .i64 x1),(.int .i64 x2)] w λv w'=>∃O',St (eT i0) w O w' O'/\Ob i0 w' O' (.pointer (some ⟨p0,0,none⟩)) r.2/\Vb w' (Fr 0 w' O') v r.1:=by
 obtain⟨O0,hE,l2,m2⟩:=Y3 (w:=w) (O:=O) r0.2;have r0':=Ob.leave r0 l2 m2 (j:=2) (by decide);have hB:Bm w O0 w O0:=Bm.refl;refine AG func54 rfl ntmps54 ?_;unfold DX at hm;refine Aj (Ae (Au rfl (o_z (Aj (Ae (Ar rfl (Au rfl (o_z (Aj ?_)))))))));obtain⟨z0,n2,hm⟩:=bs hm;refine Bc (aft z0 (λ(s6:Int×(BxR 79 77 CEn))(x7:Unit)=>[(1,(.int .i64 x1)),(7,(.int .i64 s6.1))]) (λs6 x7 w'=>∃O':Lab,Bm w O0 w' O'/\Ob 2 w' O' (.pointer (some ⟨p0,0,none⟩)) s6.2/\W1 s6.1)) ?_ ?_
 ·refine BC (GB (σ:=Int×(BxR 79 77 CEn)) (X:=Unit) n2 (λ(s6:Int×(BxR 79 77 CEn))(x7:Unit)=>[(0,(.iface 74 (.pointer (some ⟨p0,0,none⟩)))),(1,(.int .i64 x1)),(2,(.int .i64 x2)),(7,(.int .i64 s6.1))]) _ (λs6 x7 w'=>∃O':Lab,Bm w O0 w' O'/\Ob 2 w' O' (.pointer (some ⟨p0,0,none⟩)) s6.2/\W1 s6.1) _ () ⟨O0,hB,r0',rx1⟩ A1 ?_);rintro s6 x7 a4 o2 ⟨b4,hB,g0,s0⟩ a0 a1 h0;refine BC (Aj (Ae (Ar rfl ?_)));obtain⟨c4,v1,a0⟩:=bs a0;have d4:=(Bh v1);refine Mv (he:=v1) rfl rfl rfl ?_;obtain⟨w1,y1,a0⟩:=bs a0;have z1:=(Bh y1);refine DM (he:=y1) rfl rfl (Au rfl (o_z (Aj (Aj ?_))));obtain⟨p2,c0,a0⟩:=bs a0;refine Bc (λl' w'=>∃(q2:Unit) (O':Lab),W4 l' [(0,(.iface 74 (.pointer (some ⟨p0,0,none⟩)))),(1,(.int .i64 x1)),(2,(.int .i64 x2)),(7,(.int .i64 s6.1)),(8,(.int .i64 w1)),(21,(.bool p2))]/\Bm w O0 w' O'/\Ob 2 w' O' (.pointer (some ⟨p0,0,none⟩)) s6.2) ?_ ?_
  ·refine Ae (Ar rfl (Ar rfl (Es rfl rfl (λb1=>?_) λb1=>?_)))
   ·replace c0:=ip c0 b1;refine Ar rfl (Ay rfl rfl (Ay rfl rfl (AV rfl rfl (o_z ?_))));obtain rfl:=sm c0;exact⟨(),_,Af,hB,g0⟩
   replace c0:=im c0 b1;refine Ar rfl (Az rfl rfl (Ar rfl (Az rfl rfl (Cp rfl rfl (λc1=>?_) λc1=>?_))))
   ·replace c0:=ip c0 c1;refine AS rfl rfl (o_z ?_);obtain rfl:=sm c0;exact⟨(),_,Af,hB,g0⟩
   replace c0:=im c0 c1;refine AS rfl rfl (o_z ?_);obtain rfl:=sm c0;exact⟨(),_,Af,hB,g0⟩
  rintro e4 r2 ⟨q2,f4,d1,hB,g0⟩;refine AQ _ d1 ?_;refine Bx rfl (λe1=>?_) (λe1=>?_)
  ·replace a0:=ip a0 e1;refine Cl ?_;obtain rfl:=sm a0;exact show Exists _ from⟨_,(),h0 _ rfl,D4,_,hB,g0,s0⟩
  replace a0:=im' a0 e1;refine AE (Aj (Ae (Ar rfl (Au rfl (o_z (Aj ?_))))));obtain⟨a2,d0,a0⟩:=bs a0;refine Bc (λl' w'=>∃(s2:Unit) (O':Lab),W4 l' [(0,(.iface 74 (.pointer (some ⟨p0,0,none⟩)))),(1,(.int .i64 x1)),(2,(.int .i64 x2)),(7,(.int .i64 s6.1)),(9,(.int .i64 a2))]/\Bm w O0 w' O'/\Ob 2 w' O' (.pointer (some ⟨p0,0,none⟩)) s6.2/\W1 a2) ?_ ?_
  ·refine Aj (Ae (Ar rfl ?_));obtain⟨t2,b2,d0⟩:=bs d0;have c2:=(Bh b2);refine DM (he:=b2) rfl rfl (Au rfl (o_z (Aj ?_)));obtain⟨u2,b0,d0⟩:=bs d0;refine Bc (λl' w'=>∃(v2:Unit) (O':Lab),W4 l' [(0,(.iface 74 (.pointer (some ⟨p0,0,none⟩)))),(1,(.int .i64 x1)),(2,(.int .i64 x2)),(7,(.int .i64 s6.1)),(9,(.int .i64 w1)),(10,(.int .i64 t2)),(33,(.bool u2))]/\Bm w O0 w' O'/\Ob 2 w' O' (.pointer (some ⟨p0,0,none⟩)) s6.2) ?_ ?_
   ·refine Ae (Ar rfl (Ar rfl (Cp rfl rfl (λf1=>?_) λf1=>?_)))
    ·replace b0:=ip b0 f1;refine Ar rfl (Az rfl rfl (Ar rfl (Az rfl rfl (Ar rfl (Az rfl rfl (Ar rfl (Az rfl rfl ?_)))))));obtain⟨w2,g4,d2,y2,n0,k0⟩:=BxR.opn g0 2 3 (by decide);obtain⟨h4,i4,rfl⟩:=k0.form;obtain⟨e2,z2,b0⟩:=bs b0;refine Hz (O:=w2) (A:=All r2) (R:=λw' F v=>Vb w' F v e2) (Gu (λ_ h=>h) (k0).all c2 z1 z2) (EQ (Blk.cell (i:=0) n0.1 rfl)) rfl rfl λj4 k4 l4 q0 y0=>?_;obtain rfl:=y0.bool;cases e2
     case false =>
      replace b0:=iF b0;refine AV rfl rfl (o_z ?_);replace n0:=n0.st q0;replace k0:=k0.st q0;obtain⟨m4,a3,b3,c3,d3⟩:=BxR.shut (x:=s6.2) (l0:=2) (by decide) n0 k0;obtain rfl:=sm b0;exact⟨(),_,D2,((hB.st d2).st q0).st a3,d3⟩
     replace b0:=iT b0;refine AV rfl rfl (o_z ?_);replace n0:=n0.st q0;replace k0:=k0.st q0;obtain⟨n4,e3,f3,g3,h3⟩:=BxR.shut (x:=s6.2) (l0:=2) (by decide) n0 k0;obtain rfl:=sm b0;exact⟨(),_,D2,((hB.st d2).st q0).st e3,h3⟩
    replace b0:=im b0 f1;refine Ar rfl (Ay rfl rfl (Ay rfl rfl (Ay rfl rfl (Ay rfl rfl (AS rfl rfl (o_z ?_))))));obtain rfl:=sm b0;exact⟨(),_,D2,hB,g0⟩
   rintro o4 p4 ⟨v2,q4,g1,hB,y0⟩;refine AQ _ g1 ?_;refine Bx rfl (λh1=>?_) (λh1=>?_)
   ·replace d0:=ip d0 h1;refine Ae (Ar rfl (Au rfl (o_z ?_)));obtain rfl:=sm d0;exact⟨(),_,Ad,hB,y0,c2⟩
   replace d0:=im' d0 h1;refine AE ?_;obtain rfl:=sm d0;exact⟨(),_,Ad,hB,y0,z1⟩
  rintro r4 i3 ⟨s2,s4,i1,hB,j3,j1⟩;refine AQ _ i1 ?_;refine Aj (Aj (Ae (Ar rfl (Ar rfl (Ar rfl ?_)))));obtain⟨k3,t4,f2,l3,j0,m0⟩:=BxR.opn j3 2 3 (by decide);obtain⟨u4,v4,rfl⟩:=m0.form;obtain⟨g2,m3,a0⟩:=bs a0;refine Hz (O:=k3) (A:=All i3) (R:=λw' F v=>Vb w' F v g2) (Gu (λ_ h=>h) (m0).all j1 s0 m3) (EQ (Blk.cell (i:=0) j0.1 rfl)) rfl rfl λn3 w4 k1 f0 l1=>?_;obtain rfl:=l1.bool;cases g2
  case false =>
   replace a0:=iF a0;refine Cx rfl (o_z (Am rfl (Cl ?_)));replace j0:=j0.st f0;replace m0:=m0.st f0;obtain⟨o3,m1,h2,i2,n1⟩:=BxR.shut (x:=s6.2) (l0:=2) (by decide) j0 m0;obtain rfl:=sm a0;exact show Exists _ from⟨_,(),h0 _ rfl,D4,_,((hB.st f2).st f0).st m1,n1,s0⟩
  replace a0:=iT a0;refine Cw rfl (o_z (Ah rfl (AE (Aj (Ae (Ar rfl (Ar rfl (Ar rfl ?_))))))));obtain⟨o1,p1,a0⟩:=bs a0;replace j0:=j0.st f0;replace m0:=m0.st f0;refine Hy (O:=k1) (Gv m0 s0 j1 p1) (EQ (Blk.cell (i:=0) j0.1 rfl)) rfl rfl λp3 q3 r3 t0 u0=>?_;refine o_z (Ae (Ar rfl (Au rfl (o_z ?_))));replace j0:=j0.st t0;obtain⟨s3,q1,j2,k2,r1⟩:=BxR.shut (x:=(⟨o1⟩:BxR 79 77 CEn)) (l0:=2) (by decide) (by have q:=j0;rw[<- u0.len.1.symm]at q;exact q) u0.relen;obtain rfl:=sm a0;exact show Exists _ from⟨_,(),rfl,A1,_,(((hB.st f2).st f0).st t0).st q1,r1,j1⟩
 rintro t3 u3 ⟨s1,v3,rfl,v0,w3,hB,g0,s0⟩;replace hm:=AW hm;refine AQ _ v0 ?_;refine Aj ?_;obtain⟨t1,e0,hm⟩:=bs hm;refine Bc (λl' w'=>∃(u1:Unit) (O':Lab),W4 l' [(6,(.bool t1))]/\Bm w O0 w' O'/\Ob 2 w' O' (.pointer (some ⟨p0,0,none⟩)) s1.2) ?_ ?_
 ·refine Ae (Ar rfl (Ar rfl (Cq rfl rfl (λo0=>?_) λo0=>?_)))
  ·replace e0:=ip e0 o0;refine Au rfl (o_z ?_);obtain rfl:=sm e0;exact⟨(),_,B3,hB,g0⟩
  replace e0:=im e0 o0;refine Au rfl (o_z ?_);obtain rfl:=sm e0;exact⟨(),_,B3,hB,g0⟩
 rintro x3 y3 ⟨u1,z3,w0,hB,g0⟩;refine AQ _ w0 ?_;refine AD ?_;obtain rfl:=sm hm;obtain⟨O',hS',hz,hl⟩:=hE.leave (λq=>if q=2 then i0 else 0) rfl hB;exact X2 rfl (AC rfl) ⟨O',hS',(Ob.leave g0 hz (hl 2 (by decide) (by decide)) r0.2),vBool⟩
noncomputable def Df(e:BxR 79 77 CEn)(f:An 77 CEn):Option (BxR 79 77 CEn) :=
  bnd (Fu e (⟨f.x⟩:An 77 CEn)) λa=>bnd (CI a.l) λb=>bnd (W5 (b-1)) λc=>bnd (Er a c) λd=>some d
theorem JV{w:World}{O:Lab}{e c:Nat}{n:BxR 79 77 CEn}(f:Ob c w O (.pointer (some ⟨e,0,none⟩)) n){b:Value}{a:An 77 CEn}(g:Vb w (Fr 0 w O) b a){r:(BxR 79 77 CEn)}(hm:Df n a=some r) :
    Fn prog 30 [(.iface 74 (.pointer (some ⟨e,0,none⟩))),b] w λv w'=>∃d,St (eT c) w O w' d/\Ob c w' d (.pointer (some ⟨e,0,none⟩)) r:=by
 obtain⟨h,hE,f0,h0⟩:=Y3 (w:=w) (O:=O) f.2;have k:=Ob.leave f f0 h0 (j:=2) (by decide);have l:Bm w h w h:=Bm.refl;replace g:=g.mono f0;obtain⟨G,rfl,h4⟩:=g.any;obtain⟨H,rfl,v6,rfl,h7,j0,k0⟩:=h4;obtain⟨o,c9,rfl⟩:=h7.form;refine AG func30 rfl ntmps30 ?_;unfold Df at hm;refine Aj (Ae (Ar rfl (Ar rfl ?_)));obtain⟨p,n0,hm⟩:=bs hm;refine Hy (O:=h) (KE k (Aaw (Vb.ofAgg (cs:=[(.slice o a.x.facts.length c9),(.int .i64 a.x.dist),(.int .i64 a.x.order)]) (x:=a.x) rfl ⟨_,rfl,h7,j0,k0⟩)) n0) Mw rfl rfl λI s J t u=>?_;refine o_z (Ae (Ar rfl (Ar rfl ?_)));obtain⟨y,l1,t0,u0,c0,b0⟩:=BxR.opn u 2 3 (by decide);obtain⟨K,n1,rfl⟩:=b0.form;obtain⟨z,w0,hm⟩:=bs hm;refine Hz (O:=y) (A:=All s) (R:=λw' F v=>Vb w' F v z) (GG (λ_ V=>V) (b0).all w0) (EQ (Blk.cell (i:=0) c0.1 rfl)) rfl rfl λL M N m B=>?_;obtain⟨rfl,r1⟩:=B.int;obtain⟨P,g0,hm⟩:=bs hm;have z0:=(Bh g0);refine Hi (he:=g0) rfl rfl ?_;replace c0:=c0.st m;replace b0:=b0.st m;obtain⟨C,b1,c1,d1,e1⟩:=BxR.shut (x:=p) (l0:=2) (by decide) c0 b0;obtain⟨Q,f1,hm⟩:=bs hm;refine BM (O:=C) (KF e1 z0 f1) rfl λS T U D E=>?_;refine o_z ?_;obtain rfl:=sm hm;replace l:=((((l.st t).st t0).st m).st b1).st D;obtain⟨d,hS',hz,hl⟩:=hE.leave (λq=>if q=2 then c else 0) rfl l;exact Zj rfl  ⟨d,hS',(Ob.leave E hz (hl 2 (by decide) (by decide)) f.2)⟩
noncomputable def Eh(f:BxR 79 77 CEn):Option ((An 77 CEn)×(BxR 79 77 CEn)) :=
  bnd (CI f.l) λc=>bnd (W5 (c-1)) λa=>bnd (BR f.l 0 a) λd=>bnd (DX (⟨d⟩:BxR 79 77 CEn) 0 a) λe=>bnd (FD e.2) λb=>some ((⟨b.1.x⟩:An 77 CEn),b.2)
theorem Kd{w:World}{O:Lab}{p0 i0:Nat}{x0:BxR 79 77 CEn}(a0:Ob i0 w O (.pointer (some ⟨p0,0,none⟩)) x0){r:(An 77 CEn)×(BxR 79 77 CEn)}(hm:Eh x0=some r) :
    Fn prog 26 [(.iface 74 (.pointer (some ⟨p0,0,none⟩)))] w λv w'=>∃O',St (eT i0) w O w' O'/\Ob i0 w' O' (.pointer (some ⟨p0,0,none⟩)) r.2/\Vb w' (Fr 0 w' O') v r.1:=by
 obtain⟨O0,hE,j0,k0⟩:=Y3 (w:=w) (O:=O) a0.2;have a0':=Ob.leave a0 j0 k0 (j:=2) (by decide);have hB:Bm w O0 w O0:=Bm.refl;refine AG func26 rfl ntmps26 ?_;unfold Eh at hm;refine Aj (Ae (Au rfl (o_z (Aj (Ae (Ar rfl ?_))))));obtain⟨O2,v6,S3,q1,h4,h7⟩:=BxR.opn a0' 2 3 (by decide);obtain⟨A8,c9,rfl⟩:=h7.form;obtain⟨m0,n0,hm⟩:=bs hm;refine Hz (O:=O2) (A:=All w) (R:=λw' F v=>Vb w' F v m0) (GG (λ_ h=>h) (h7).all n0) (EQ (Blk.cell (i:=0) h4.1 rfl)) rfl rfl λr1 s1 o0 c0 q0=>?_;obtain⟨rfl,t1⟩:=q0.int;obtain⟨u1,d0,hm⟩:=bs hm;have e0:=(Bh d0);refine Hi (he:=d0) rfl rfl (Au rfl (o_z (Aj (Ae (Ar rfl (Ar rfl ?_))))));obtain⟨r0,s0,hm⟩:=bs hm;replace h4:=h4.st c0;replace h7:=h7.st c0;refine Hy (O:=o0) (Gv h7 (W3 0) e0 s0) (EQ (Blk.cell (i:=0) h4.1 rfl)) rfl rfl λv1 w1 x1 f0 g0=>?_;refine o_z (Aj (Ae (Ar rfl (Ar rfl ?_))));replace h4:=h4.st f0;obtain⟨t0,u0,v0,w0,y0⟩:=BxR.shut (x:=(⟨r0⟩:BxR 79 77 CEn)) (l0:=2) (by decide) (by have q:=h4;rw[<- g0.len.1.symm]at q;exact q) g0.relen;obtain⟨y1,z0,hm⟩:=bs hm;refine BM (O:=t0) (JU y0 (W3 0) e0 z0) rfl λz1 a2 a1 b1 c1=>?_;obtain⟨d1,e1⟩:=c1;obtain rfl:=e1.bool;refine o_z (Aj (Ae (Ar rfl ?_)));obtain⟨b0,f1,hm⟩:=bs hm;refine Hy (O:=a1) (KW d1 f1) Mw rfl rfl λb2 c2 d2 g1 h1=>?_;obtain⟨i1,j1⟩:=h1;obtain⟨e2,rfl,k1⟩:=j1.any;obtain⟨l1,rfl,f2,rfl,h0,m1,n1⟩:=k1;obtain⟨o1,p1,rfl⟩:=h0.form;refine Au rfl (o_z (AD ?_));obtain rfl:=sm hm;replace hB:=(((((hB.st S3).st c0).st f0).st u0).st b1).st g1;obtain⟨O',hS',hz,hl⟩:=hE.leave (λq=>if q=2 then i0 else 0) rfl hB;exact X2 rfl (AC rfl) ⟨O',hS',(Ob.leave i1 hz (hl 2 (by decide) (by decide)) a0.2),(Vb.mono (Aaw (Vb.ofAgg (cs:=[(.slice o1 b0.1.x.facts.length p1),(.int .i64 b0.1.x.dist),(.int .i64 b0.1.x.order)]) (x:=b0.1.x) rfl ⟨_,rfl,h0,m1,n1⟩)) hz)⟩
end
section
open Go Go.RowKit
attribute [local irreducible] ewp owp hwp hwq hws Ev Evg Fn W6 X7 X4 X1
def AaZ(n:Nat)(s:List Int):List (List Int):=(List.range n).map λx:Nat=>s++[(x:Int)]
def Aab(a:List (List Int))(k:Int):List (List Int):=a.flatMap (AaZ k.toNat)
def statesL(vars:List Int):List (List Int):=vars.foldl Aab [[]]
theorem Me{vars:List Int}{k:Nat}{n:Int}(a:vars[k]?=some n):statesL (vars.take (k+1))=Aab (statesL (vars.take k)) n:=by
  unfold statesL;rw[M2,a,List.foldl_append];rfl
theorem Vq(n:Nat)(s:List Int):(AaZ n s).length=n:=by simp[AaZ]
theorem Ko(n:Nat):∀l:List (List Int),(l.flatMap (AaZ n)).length=l.length*n
  |[]=>by simp
  |s::l=>by rw[M1,K0,Vq,Ko n l,M8,V3];omega
end
section
open Go Go.RowKit
def Y7:List Int->Nat->Nat
  |[],n=>n
  |k::r,n=>Y7 r (n*k.toNat)
theorem Kp:∀(vars:List Int)(a:List (List Int)),(vars.foldl Aab a).length=Y7 vars a.length
  |[],_=>rfl
  |k::r,a=>by
    simp only[P9,Y7];rw[Kp r,Aab,Ko]
theorem KG(vars:List Int):(statesL vars).length=Y7 vars 1:=Kp vars [[]]
theorem PF{most:Nat}:∀(vars:List Int)(n:Nat),(∀x∈vars,1≤x)→1≤n→Z1 most vars (n:Int)≤most→∀k,Y7 (vars.take k) n≤most
  |[],n,_,_,h,k=>by simp only[List.take_nil,Y7];simp only[Z1]at h;omega
  |x  :: r,n,hx,hn,h,k=>by
    have d:1<=x:=hx x K6;simp only[Z1]at h;have a:max x 0=x:=(by omega);rw[a]at h;obtain⟨m,rfl⟩:∃m:Nat,x=(m:Int):=⟨x.toNat,by omega⟩;by_cases hm:(m:Int)<=most
    . rw[show min (m:Int) (most+1)=(m:Int)from by omega,<- Q0]at h;have b:n<=n*m:=Nat.le_mul_of_pos_right n (by omega);by_cases hc:(most:Int)<((n*m:Nat):Int)
      . rw[if_pos hc]at h;omega
      . rw[if_neg hc]at h;cases k with
        |zero=>simp only[List.take_zero,Y7];omega
        |succ k =>
          simp only[I6,Y7,M6];exact PF r (n*m) (λy c=>hx y (H0 _ c)) (by omega) h k
    . exfalso;rw[show min (m:Int) (most+1)=((most+1:Nat):Int)from by omega,<- Q0]at h;have:most+1<=n*(most+1):=Nat.le_mul_of_pos_left _ hn;rw[if_pos (by omega)]at h;omega
theorem Mf{y x:Int}{vs s:List Int}:StateOk (y::vs) (x::s)↔(0<=x/\x<y)/\StateOk vs s:=by
  constructor
  . intro e;exact⟨e.2 0 x y rfl rfl,by have:=e.1;simpa using this,λi a b c hb=>e.2 (i+1) a b (by simpa using c) (by simpa using hb)⟩
  . rintro⟨d,h2,h3⟩;refine⟨by simpa using h2,λi a b c hb=>?_⟩;cases i with
    |zero=>simp at c hb;subst c;subst hb;exact d
    |succ i=>exact h3 i a b (by simpa using c) (by simpa using hb)
theorem RL:StateOk [] []:=⟨rfl,λi a b c=>by simp at c⟩
theorem QX{n:Nat}{s t:List Int}:t∈AaZ n s↔∃x:Nat,x<n/\t=s++[(x:Int)]:=by
  unfold AaZ;rw[U9];constructor
  . rintro⟨x,hx,rfl⟩;exact⟨x,R5.1 hx,rfl⟩
  . rintro⟨x,hx,rfl⟩;exact⟨x,R5.2 hx,rfl⟩
theorem Kq:∀(vars:List Int)(a:List (List Int))(s:List Int),s∈vars.foldl Aab a↔∃b∈a,∃r,s=b++r∧StateOk vars r
  |[],a,s=>by
    constructor
    . intro e;exact⟨s,e,[],by simp,RL⟩
    . rintro⟨b,e,r,rfl,hr⟩;have:r=[]:=B2 hr.1;subst this;simpa using e
  |k  :: vs,a,s=>by
    simp only[P9];rw[Kq vs (Aab a k) s];constructor
    . rintro⟨d,c,r,rfl,hr⟩;obtain⟨b,h0,h2⟩:=P2.1 c;obtain⟨x,hx,rfl⟩:=QX.1 h2;exact⟨b,h0,(x:Int)::r,by simp,Mf.2 ⟨⟨by omega,by omega⟩,hr⟩⟩
    . rintro⟨b,h0,r,rfl,hr⟩;cases r with
      |nil=>have:=hr.1;simp at this
      |cons x r =>
        obtain⟨⟨c,h2⟩,h3⟩:=Mf.1 hr;exact⟨b++[x],P2.2 ⟨b,h0,QX.2 ⟨x.toNat,by omega,by rw[show((x.toNat:Nat):Int)=x from by omega]⟩⟩,r,by simp,h3⟩
theorem HA{vars s:List Int}:s∈statesL vars↔StateOk vars s:=by
  unfold statesL;rw[Kq];constructor
  . rintro⟨a,h0,r,rfl,hr⟩;have:a=[]:=(by simpa using h0);subst this;exact hr
  . intro b;exact⟨[],by simp,s,rfl,b⟩
theorem SmallOk.ok{t:Tsk}(a:SmallOk t):TaskOk t:=a.2.2.2.1
theorem SmallOk.states{t:Tsk}(b:SmallOk t):∀k,(statesL (t.vars.take k)).length<=512:=λk=>by
  rw[KG];refine PF (most:=512) t.vars 1 (λx a=>?_) (V2 _) b.2.2.2.2 k;obtain⟨i,hi,rfl⟩:=I4 a;exact(b.ok.vars i _ (D1 hi)).1
structure Mid(t:Tsk):Prop where
  ok:TaskOk t
  states:∀k,(statesL (t.vars.take k)).length<=600
  ops:t.ops.length<=80
theorem Mid.many{t:Tsk}(a:Mid t):(statesL t.vars).length<=600:=by
  have:=a.states t.vars.length;rwa[P4]at this
theorem SmallOk.mid{t:Tsk}(a:SmallOk t):Mid t:=⟨a.ok,λk=>by have:=a.states k;omega,by have:=a.2.1;omega⟩
end
section
open Go Go.RowKit
attribute [local irreducible] ewp owp hwp hwq hws Ev Evg Fn W6 X7 X4 X1
noncomputable def EN(g:Tsk)(h:List Int)(f:Int):Option ((List Int)×Bool) :=
  bnd (if f<0 then(some true)else(if(g.ops.length:Int)<=f then(some true)else(bnd (atI g.ops f) λi=>bnd (GD i.pre h) λj=>if j=true then some false else some true)):Option Bool) λk=>if k=true then(some (([]:List Int),false))else(bnd (X6 8 ([]:List Int) h) λl=>bnd (atI g.ops f) λm=>bnd (rng (ρ:=(List Int)×Bool) (λ(o:Nat)(a:Eff)(b:(List Int))=>bnd (GD a.cond h) λd=>if d=true then bnd (atI b a.var) λn=>some (.next (b.set (a.var:Int).toNat a.val))else some (.next b)) m.effs 0 l) λc=>fin c λ(e:(List Int))=>some (e,true))
section
attribute [local irreducible] Vb Lc Rw Ob
theorem QY{w:World}{A:Nat->Prop}(hA:∀k,A k->k<w.heap.size){c:Value}{j:Tsk}(n:Vb w A c j){d:Value}{l:List Int}(l0:Vb w A d l){e:Int}(p:W1 e){r:(List Int)×Bool}(hm:EN j l e=some r) :
    Fn prog 20 [c,d,(.int .i64 e)] w λv w'=>Ext w w'/\T2 w' (upA A w w') v r:=by
 obtain⟨_,_,_⟩:=Db hA;apply CZ n;intros;apply CZ l0;intros;refine AG func20 rfl ntmps20 ?_;unfold EN at hm;refine Aj (Ae (Gx 2 ?_));intros;refine Au rfl (Au rfl (o_z (Aj (Aj (Dp (X:=Unit) hm [1,2,3] [] [] [] (λ_ _ f _ t=>(30,.bool f)::t) (λ_ _ _ _ t=>t) ?_ ?_)))))
 ·intro f a;refine Ae (Ar rfl (Cp rfl rfl (λg=>?_) λg=>?_))
  ·replace a:=ip a g;refine Ar rfl (Ay rfl rfl (Ay rfl rfl (Ay rfl rfl (Ay rfl rfl (Ay rfl rfl (AV rfl rfl (Ar rfl (Ay rfl rfl (Ay rfl rfl (Ay rfl rfl (Ay rfl rfl (Ay rfl rfl (Ay rfl rfl (Ay rfl rfl ?_))))))))))))));refine Ay rfl rfl (Ay rfl rfl (AV rfl rfl (o_z ?_)));obtain rfl:=sm a;exact Bb ()
  replace a:=im a g;refine Ar rfl (Az rfl rfl (Ar rfl (Az rfl rfl (AJ rfl (Az rfl rfl (BN (Az rfl rfl (AO rfl (Az rfl rfl (Es rfl rfl (λh=>?_) λh=>?_))))))))))
  ·replace a:=ip a h;refine AS rfl rfl (Ar rfl (Ay rfl rfl (Ay rfl rfl (Ay rfl rfl (Ay rfl rfl (Ay rfl rfl (Ay rfl rfl (Ay rfl rfl (Ay rfl rfl (Ay rfl rfl (AV rfl rfl (o_z ?_))))))))))));obtain rfl:=sm a;exact Bb ()
  replace a:=im a h;refine AS rfl rfl (Ar rfl (Az rfl rfl (AJ rfl (Az rfl rfl (BN (Az rfl rfl (Ar rfl (Az rfl rfl ?_))))))));obtain⟨u,u0,a⟩:=bs a;refine KA ?_;intros;refine Az rfl rfl (AJ rfl (Az rfl rfl (OT (Az rfl rfl (Ar rfl (Az rfl rfl ?_))))));obtain⟨q,n0,a⟩:=bs a;refine DE rfl (JK (λ_ F=>F) zA zA n0) ?_;intros;cases q
  case false =>
   replace a:=iF a;refine Az rfl rfl (Cx rfl (AS rfl rfl (o_z ?_)));obtain rfl:=sm a;exact Bb ()
  replace a:=iT a;refine Az rfl rfl (Cw rfl (AS rfl rfl (o_z ?_)));obtain rfl:=sm a;exact Bb ()
 intro f _ _ _ _ hm;intros;refine BP ?_;refine Bx rfl (λi=>?_) (λi=>?_)
 ·replace hm:=ip hm i;refine Aj (Ae (Au rfl (Au rfl (o_z (AD ?_)))));obtain rfl:=sm hm;exact Ge
 replace hm:=im' hm i;refine AE (Aj (Ae (GC 3 (([]:List Int):List Int) ?_)));intros;refine ac ?_;obtain⟨x,o0,hm⟩:=bs hm;refine LP o0 ?_;intros;refine Au rfl (o_z (Aj (Aj (Ae (AJ rfl (BN (Ar rfl ?_)))))));obtain⟨y,y0,hm⟩:=bs hm;refine KA ?_;intros;refine AJ rfl (OT (AO rfl (Ar rfl (o_z ?_))));refine Fq (X:=Unit) hm [1,8,39] [] [3,4] [3] (λ_ _ _ _ t=>t) (λ_ o m _ t=>uR (o 3) 3 m::t) () ?_ ?_
 ·intro z0 z m _ _ _ _ b B _ C;intros;refine Aj (Ae (FW ?_));intros;refine Gp ?_;refine Cv 4 ?_;intros;refine BW ?_;intros;refine o_z (Aj (Ae (AJ rfl (BN (Ar rfl ?_)))));obtain⟨s,i0,b⟩:=bs b;refine DE rfl (JK (λ_ F=>F) zA zA i0) ?_;intros;cases s
  case false =>
   replace b:=iF b;refine o_z (Ah rfl (AE ?_));exact EI () b
  replace b:=iT b;refine o_z (Am rfl (Ae (Ar rfl (AJ rfl (BN (AJ rfl ?_))))));refine BN ?_;obtain⟨D,r0,b⟩:=bs b;refine KA ?_;intros;refine Qw ?_;intros;refine o_z ?_;exact EI () b
 intro E _ _ _ _ hm;intros;refine BP ?_;refine Aj (Ae (Ar rfl (Au rfl (Au rfl (o_z (AD (GP 3 ?_)))))));intros;obtain rfl:=sm hm;exact Ge
end
noncomputable def Gw(f:Tsk)(k:List Int)(l:List Int):Option (Int×Bool) :=
  bnd (rng (ρ:=Int×Bool) (λ(m:Nat)(b:Int)(c:(List Int)×Int)=>bnd (EN f c.1 b) λd=>if(!d.2)=true then(some (.ret (0,false)))else(bnd (atI f.ops b) λg=>bnd (W5 (c.2+g.cost)) λh=>some (.next (d.1,h)))) l 0 (k,0)) λa=>fin a λ(e:(List Int)×Int)=>bnd (bnd (GD f.goal e.1) λi=>if i=true then some true else some false:Option Bool) λj=>some (e.2,j)
section
attribute [local irreducible] Vb Lc Rw Ob
theorem MV{w:World}{A:Nat->Prop}(hA:∀k,A k->k<w.heap.size){d:Value}{j:Tsk}(n:Vb w A d j){e:Value}{l:List Int}(o:Vb w A e l){f:Value}{m:List Int}(p:Vb w A f m){r:Int×Bool}(hm:Gw j l m=some r) :
    Fn prog 10 [d,e,f] w λv w'=>Ext w w'/\T2 w' (upA A w w') v r:=by
 obtain⟨_,_,_⟩:=Db hA;apply CZ n;intros;apply CZ o;intros;apply CZ p;intros;refine AG func10 rfl ntmps10 ?_;unfold Gw at hm;refine Aj (Ae (Gx 2 ?_));intros;refine Au rfl (Au rfl (o_z (Aj (Ae (Au rfl (o_z (Aj (Aj (Ae (Ar rfl (AO rfl (Ar rfl (o_z (Fq (X:=(Option Addr×Nat)) hm [3,13] [] [] [] (λ_ _ c g t=>(1,sv g c.1)::(8,.int .i64 c.2)::t) (λ_ _ c g t=>fV g c.1::fI c.2::t) (_,_) ?_ ?_))))))))))))))
 ·intro z B c _ _ _ _ a C _ q;intros;refine Aj (Ae (FW ?_));intros;refine Le (Au rfl (o_z (Aj (Ae ?_))));refine Ep (Ar rfl (Ar rfl ?_));obtain⟨D,l0,a⟩:=bs a;refine KB rfl (QY Fr.lt zV zV zI l0) λ_ _ _ _ _ s u=>?_;apply Dw s;intros;apply Dw u;intros;refine Ar rfl (AZ rfl rfl (AZ rfl rfl (Au rfl (Au rfl (o_z (Aj (Aj (Ae (Ar rfl (Em rfl (o_z (Bx rfl (λh=>?_) (λh=>?_)))))))))))))
  ·replace a:=ip a h;refine Aj (Ae (Au rfl (Au rfl (o_z (AD ?_)))));obtain rfl:=sm a;obtain rfl:=q _ rfl;exact Ge
  replace a:=im' a h;refine AE (Aj (Ae (Ar rfl (Au rfl (o_z (Ae (Ar rfl (AJ rfl (BN (Ar rfl ?_))))))))));obtain⟨E,w0,a⟩:=bs a;refine KA ?_;intros;refine AJ rfl (OT ?_);obtain⟨F,o0,a⟩:=bs a;refine DM (he:=o0) rfl rfl (Au rfl (o_z ?_));exact EI (_,_) a
 intro x _ _ _ _ hm;intros;refine BP ?_;refine Aj (Dp (X:=Unit) hm [] [] [] [] (λ_ _ i _ t=>(6,.int .i64 x.2)::(7,.bool i)::t) (λ_ _ _ _ t=>t) ?_ ?_)
 ·intro i b;refine Ae (Ar rfl (AJ rfl (BN (Ar rfl ?_))));obtain⟨y,r0,b⟩:=bs b;refine DE rfl (JK (λ_ G=>G) zA zA r0) ?_;intros;cases y
  case false =>
   replace b:=iF b;refine Au rfl (Au rfl (o_z ?_));obtain rfl:=sm b;exact Bb ()
  replace b:=iT b;refine Au rfl (Au rfl (o_z ?_));obtain rfl:=sm b;exact Bb ()
 intro i _ _ _ _ hm;intros;refine BP ?_;refine AD ?_;obtain rfl:=sm hm;exact Ge
end
end
section
open Go Go.RowKit
theorem Lr(f:List Fct)(s:List Int):GD f s=some (holdsB f s):=rfl
theorem Nw{ρ:Type}{s:List Int}{a:List Eff}(he:Abj s a)(m:List Fct->List Int->Option Bool)(hm:∀f s,m f s=some (holdsB f s))(u:List Int)(hu:u.length=s.length) :
    rng (ρ:=ρ) (λ(_:Nat)(e:Eff)(b:List Int)=>bnd (m e.cond s) λq=>if q=true then bnd (atI b e.var) λ_=>some (.next (b.set (e.var).toNat e.val))else some (.next b)) a 0 u=some (.done (effsOn s a u)):=by
  rw[He (λk=>effsOn s (a.take k) u) ?_ ?_,P4]
  . rfl
  intro k e hk;rw[hm,At,RJ s hk];have c:=he k e hk;have hl:=GT s (a.take k) u;by_cases hb:holdsB e.cond s=true
  . rw[if_pos hb,if_pos hb];obtain⟨j,hj⟩:=E3 c.1;rw[hj,BD,D1 (by omega),At]
  . rw[if_neg hb,if_neg hb]
theorem Vr{t:Tsk}{s:List Int}{j:Nat}{o:Opr}(a:t.ops[j]?=some o)(b:holdsB o.pre s=true)(hl:s.length<=1000000)(he:Abj s o.effs):EN t s (j:Int)=some (succ o s,true):=by
  have hj:=AF a;unfold EN;rw[if_neg (by omega),if_neg (by omega),BD,a,At,Lr,At,b,Cd,At,BY,Cb (by simp;omega) (by simp;omega),At,At,Q4,Nw he GD Lr s rfl,At,BH];rfl
theorem PG{vars s:List Int}:∀(l:List Eff),(∀e∈l,Zg vars e)→∀(u:List Int),StateOk vars u→StateOk vars (effsOn s l u)
  |[],_,_,hu=>hu
  |e  :: l,he,u,hu=>by
    refine PG l (λb c=>he b (H0 _ c)) _ ?_;split
    . obtain⟨_,h1,h2,y,hy,h3⟩:=he e K6;refine⟨by rw[Q7];exact hu.1,λi x n a hn=>?_⟩;rw[M4]at a;by_cases hi:e.var.toNat=i
      . subst hi;rw[if_pos rfl]at a;split at a
        . obtain rfl:=Q1 a;simp only at hy h2 h3;rw[hy]at hn;obtain rfl:=Q1 hn;exact⟨h2,h3⟩
        . cases a
      . rw[if_neg hi]at a;exact hu.2 i x n a hn
    . exact hu
theorem IB{t:Tsk}(b:TaskOk t){s:List Int}(hs:StateOk t.vars s){k:Nat}{o:Opr}(a:t.ops[k]?=some o):StateOk t.vars (succ o s) :=
  PG o.effs (λe he=>by obtain⟨j,hj⟩:=H4 he;exact(b.2.2.2.2.2 k o a).2.2.2.2.2 j e hj) s hs
theorem Ud{t:Tsk}(c:TaskOk t){s:List Int}(hs:StateOk t.vars s){k:Nat}{o:Opr}(a:t.ops[k]?=some o):EN t s (k:Int)=some (if holdsB o.pre s=true then(succ o s,true)else([],false)):=by
  have hk:=AF a;by_cases b:holdsB o.pre s=true
  . rw[Vr a b (by have:=hs.1;have:=c.1;omega) (c.effs hs k o a),if_pos b]
  . unfold EN;rw[if_neg (by omega),if_neg (by omega),BD,a,At,Lr,At,if_neg b,if_neg b,At,Cd]
end
section
open Go Go.RowKit
inductive Walk(t:Tsk):List Int->Int->Prop
  |goal {s:List Int}:holdsB t.goal s=true->Walk t s 0
  |step {s:List Int} {k:Nat} {o:Opr} {c:Int}:t.ops[k]?=some o->holdsB o.pre s=true->Walk t (succ o s) c->Walk t s (c+o.cost)
theorem Vs{α:Type}{l:List α}{k:Nat}{x y:α}(a:l[k]?=some x):y∈l.take (k+1)↔y∈l.take k\/y=x:=by
  rw[M2,a,P8];simp
end
section
open Go Go.RowKit
structure QEn where
  key:Int
  tie:Int
  item:Int
  number:Int
theorem Kr{α:Type}{l:List α}{m i:Nat}{x:α}(a:(l.take m)[i]?=some x):l[i]?=some x:=by
  by_cases hi:i<m
  . rwa[D9 hi]at a
  . rw[List.getElem?_take_eq_none (by omega)]at a;cases a
def bfr(x y:QEn):Prop:=x.key<y.key\/(x.key=y.key/\(x.tie<y.tie\/(x.tie=y.tie/\x.number<y.number)))
instance(x y:QEn):Decidable (bfr x y):=by unfold bfr;infer_instance
def nb(x y:QEn):Prop:=¬bfr x y
theorem JW{x y z:QEn}(a:nb x y)(b:nb y z):nb x z:=by unfold nb bfr at *;omega
theorem Oj{x y:QEn}(a:bfr x y):nb y x:=by unfold nb bfr at *;omega
theorem JX(x:QEn):nb x x:=by unfold nb bfr;omega
theorem Ol{x y:QEn}(a:nb x y):y.key<=x.key:=by unfold nb bfr at a;omega
def X8(l:List QEn):Prop:=∀(j:Nat) x y,0<j->l[j]?=some x->l[(j-1)/2]?=some y->nb x y
def Acq(l:List QEn)(i:Nat):Prop:=∀(j:Nat) x y,0<i->0<j->(j-1)/2=i->l[j]?=some x->l[(i-1)/2]?=some y->nb x y
def UpI(l:List QEn)(i:Nat):Prop:=(∀(j:Nat) x y,0<j->j≠i->l[j]?=some x->l[(j-1)/2]?=some y->nb x y)/\Acq l i
def DownI(l:List QEn)(i:Nat):Prop:=(∀(j:Nat) x y,0<j->(j-1)/2≠i->l[j]?=some x->l[(j-1)/2]?=some y->nb x y)/\Acq l i
theorem KX{l:List QEn}{i j:Nat}{a b:QEn}(hi:l[i]?=some a)(hj:l[j]?=some b)(e:i≠j)(k:Nat):((l.set i b).set j a)[k]?=if k=j then some a else if k=i then some b else l[k]?:=by
  by_cases c:k=j
  . subst c;rw[if_pos rfl,E9 (by simpa using AF hj)]
  . rw[if_neg c,H7 (by omega)];by_cases d:k=i
    . subst d;rw[if_pos rfl,E9 (AF hi)]
    . rw[if_neg d,H7 (by omega)]
theorem QZ{l:List QEn}{i j:Nat}{a b:QEn}(hi:l[i]?=some a)(hj:l[j]?=some b):((l.set i b).set j a).Perm l:=by
  have c:=AF hi;have d:=AF hj;have e:l[i]=a:=(by rw[D1 c]at hi;exact Q1 hi);have f:l[j]=b:=(by rw[D1 d]at hj;exact Q1 hj);rw[<- e,<- f];exact List.set_set_perm c d
theorem UpI.step{l:List QEn}{i:Nat}{a b:QEn}(r:UpI l i)(p:0<i)(hi:l[i]?=some a)(hj:l[(i-1)/2]?=some b)(hb:bfr a b):UpI ((l.set i b).set ((i-1)/2) a) ((i-1)/2):=by
  have g:i≠(i-1)/2:=(by omega);constructor
  . intro j x y e h c d;rw[KX hi hj g,if_neg h]at c;rw[KX hi hj g]at d;by_cases f:j=i
    . subst f;rw[if_pos rfl]at c d;obtain rfl:=Q1 c;obtain rfl:=Q1 d;exact Oj hb
    . rw[if_neg f]at c;by_cases m:(j-1)/2=(i-1)/2
      . rw[if_pos m]at d;obtain rfl:=Q1 d;have:=r.1 j x b e f c (by rw[m];exact hj);exact JW this (Oj hb)
      . rw[if_neg m]at d;by_cases n:(j-1)/2=i
        . rw[if_pos n]at d;obtain rfl:=Q1 d;exact r.2 j x b p e n c hj
        . rw[if_neg n]at d;exact r.1 j x y e f c d
  . intro j x y o e h c d;rw[KX hi hj g]at c d;have q:((i-1)/2-1)/2≠(i-1)/2:=(by omega);have n2:((i-1)/2-1)/2≠i:=(by omega);rw[if_neg q,if_neg n2]at d;have k:=r.1 ((i-1)/2) b y o (by omega) hj d;rw[if_neg (by omega)]at c;by_cases f:j=i
    . subst f;rw[if_pos rfl]at c;obtain rfl:=Q1 c;exact k
    . rw[if_neg f]at c;exact JW (r.1 j x b e f c (by rw[h];exact hj)) k
theorem UpI.heap{l:List QEn}{i:Nat}(d:UpI l i)(hi:i=0\/∀x y,l[i]?=some x->l[(i-1)/2]?=some y->nb x y):X8 l:=λj x y hj a b=>by
  by_cases e:j=i
  . subst e;rcases hi with c|h1
    . omega
    . exact h1 x y a b
  . exact d.1 j x y hj e a b
theorem DownI.step{l:List QEn}{i c:Nat}{a b:QEn}(r:DownI l i)(hc:c=2*i+1∨c=2*i+2)(hi:l[i]?=some a)(hj:l[c]?=some b)(hb:bfr b a)(hs:∀(j:Nat) x,0<j→(j-1)/2=i→l[j]?=some x→nb x b):DownI ((l.set i b).set c a) c:=by
  have h:i≠c:=(by omega);have g:(c-1)/2=i:=(by omega);constructor
  . intro j x y f m e d;rw[KX hi hj h]at e d;rw[if_neg m]at d;by_cases o:j=c
    . subst o;rw[if_pos rfl]at e;rw[if_pos g]at d;obtain rfl:=Q1 e;obtain rfl:=Q1 d;exact Oj hb
    . rw[if_neg o]at e;by_cases p:j=i
      . subst p;rw[if_pos rfl]at e;rw[if_neg (by omega)]at d;obtain rfl:=Q1 e;exact r.2 c _ y f (by omega) g hj d
      . rw[if_neg p]at e;by_cases k:(j-1)/2=i
        . rw[if_pos k]at d;obtain rfl:=Q1 d;exact hs j x f k e
        . rw[if_neg k]at d;exact r.1 j x y f k e d
  . intro j x y q f n e d;rw[KX hi hj h]at e d;rw[if_neg (by omega),if_neg (by omega)]at e;rw[if_neg (by omega),if_pos g]at d;obtain rfl:=Q1 d;exact r.1 j x _ f (by omega) e (by rw[n];exact hj)
theorem DownI.heap{l:List QEn}{i:Nat}(c:DownI l i)(hi:∀(j:Nat) x y,0<j->(j-1)/2=i->l[j]?=some x->l[i]?=some y->nb x y):X8 l:=λj x y hj a b=>by
  by_cases e:(j-1)/2=i
  . exact hi j x y hj e a (by rw[<- e];exact b)
  . exact c.1 j x y hj e a b
theorem PH{l:List QEn}(g:X8 l){e:QEn}(he:l[0]?=some e):∀x∈l,nb x e:=by
  have b:∀(n j:Nat) x,j<=n->l[j]?=some x->nb x e:=by
    intro n
    induction n with
    |zero =>
      intro j x hj a;have c:j=0:=(by omega);rw[c,he]at a;rw[<- Q1 a];exact JX _
    |succ n d =>
      intro j x hj a;by_cases f:j=0
      . exact d j x (by omega) a
      . obtain⟨y,hy⟩:=AK (l:=l) (k:=(j-1)/2) (by have:=AF a;omega);exact JW (g j x y (by omega) a hy) (d ((j-1)/2) y (by omega) hy)
  intro x a;obtain⟨j,hj⟩:=H4 a;exact b j j x (by omega) hj
end
section
open Go Go.RowKit
theorem PI{α:Type}{l:List α}{i j:Nat}{a b:α}(hi:l[i]?=some a)(hj:l[j]?=some b):((l.set i b).set j a).Perm l:=by
  have c:=AF hi;have d:=AF hj;have e:l[i]=a:=(by rw[D1 c]at hi;exact Q1 hi);have f:l[j]=b:=(by rw[D1 d]at hj;exact Q1 hj);rw[<- e,<- f];exact List.set_set_perm c d
abbrev CQ:=BxR 79 77 CEn
abbrev CA:=An 77 CEn
def toC(x:CEn):QEn:=⟨x.dist,0,0,x.order⟩
def qsC(l:List CEn):List QEn:=l.map toC
theorem MD(l:List CEn):(qsC l).length=l.length:=by simp[qsC]
theorem Jy{l:List CEn}{i:Nat}{x:CEn}(a:l[i]?=some x):(qsC l)[i]?=some (toC x):=by unfold qsC;rw[M3,a];rfl
theorem KY(l:List CEn)(i:Nat)(x:CEn):qsC (l.set i x)=(qsC l).set i (toC x):=by unfold qsC;rw[V0]
theorem Vt(l:List CEn)(n:Nat):qsC (l.take n)=(qsC l).take n:=by unfold qsC;rw[List.map_take]
theorem Nx{l:List CEn}{i j:Nat}{a b:CEn}(f:l[i]?=some a)(hb:l[j]?=some b):Ce l (i:Int) (j:Int)=some (decide (bfr (toC a) (toC b))):=by
  unfold Ce;rw[BD,f,At,BD,hb,At,At,At,At,At];unfold bfr toC;by_cases d:a.dist<b.dist
  . rw[if_pos d,At];simp[d]
  . rw[if_neg d];by_cases c:a.dist=b.dist
    . rw[if_pos c];by_cases e:a.order<b.order
      . rw[if_pos e,At];simp[c,e]
      . rw[if_neg e,At];simp[c,e]
    . rw[if_neg c,At];simp[d,c]
theorem Ny{l:List CEn}{i j:Nat}{a b:CEn}(e:l[i]?=some a)(hb:l[j]?=some b):BR l (i:Int) (j:Int)=some ((l.set i b).set j a):=by
  have f:=AF e;have d:=AF hb;obtain⟨c,hc⟩:=AK (l:=l.set i b) (k:=j) (by simp;exact d);unfold BR;rw[BD,hb,At,BD,e,At,At,M6,BD,hc,At,M6]
theorem WC{q:CQ}{i:Nat}(hi:i<q.l.length)(hl:q.l.length≤1000000000)(o:UpI (qsC q.l) i):∃r,Er q (i:Int)=some r∧X8 (qsC r.l)∧r.l.Perm q.l:=by
  unfold Er;refine JR (λs=>∃i:Nat,s.1=(i:Int)/\i<s.2.l.length/\UpI (qsC s.2.l) i/\s.2.l.Perm q.l) (λs=>X8 (qsC s.2.l)/\s.2.l.Perm q.l) (λ_=>False) (λs=>s.1.toNat) ⟨i,rfl,hi,o,R8 _⟩ ?_ (λs hs=>⟨_,rfl,hs⟩) (λs hs=>hs.elim);rintro⟨c,s⟩ ⟨i,hc,hi,hu,hp⟩;dsimp only at hc hi hu hp ⊢;subst hc;have g:=hp.length_eq;rw[Br (by unfold W1;omega),At];by_cases n:0<(i:Int)
  . have e:Zn ((i:Int)-1) 2=some (((i-1)/2:Nat):Int):=by
      unfold Zn;rw[if_pos (by omega),if_pos (by omega)];congr 1;omega
    obtain⟨a,ha⟩:=AK (l:=s.l) (k:=i) hi;obtain⟨b,hb⟩:=AK (l:=s.l) (k:=(i-1)/2) (by omega);rw[e,At,if_neg (by omega),Nx ha hb,At];by_cases d:bfr (toC a) (toC b)
    . rw[decide_eq_true d,Cd,At,BY,Ny hb ha,At];have m:qsC ((s.l.set ((i-1)/2) a).set i b)=((qsC s.l).set i (toC b)).set ((i-1)/2) (toC a):=by
        rw[KY,KY,List.set_comm _ _ (by omega)]
      refine .inl ⟨_,rfl,⟨(i-1)/2,rfl,by simp;omega,?_,?_⟩,?_⟩
      . dsimp only;rw[m];exact hu.step (by omega) (Jy ha) (Jy hb) d
      . dsimp only;rw[List.set_comm _ _ (by omega)];exact(PI ha hb).trans hp
      . dsimp only;omega
    . rw[decide_eq_false d,BY,At,Cd];refine .inr (.inl ⟨_,rfl,hu.heap (.inr λx y h j=>?_),hp⟩);rw[Jy ha]at h;rw[Jy hb]at j;obtain rfl:=Q1 h;obtain rfl:=Q1 j;exact d
  . have f:i=0:=(by omega);subst f;have e:Zn (((0:Nat):Int)-1) 2=some 0:=rfl;rw[e,At,if_pos (show(0:Int)=((0:Nat):Int)from rfl),At,Cd];exact .inr (.inl ⟨_,rfl,hu.heap (.inl rfl),hp⟩)
theorem Ue{q:CQ}(m:X8 (qsC q.l))(hl:q.l.length<=900000000)(x:CEn):∃r,Df q ⟨x⟩=some r/\X8 (qsC r.l)/\r.l.Perm (x::q.l):=by
  unfold Df Fu CI;rw[Cb (by simp;omega) (by simp;omega),At,At,At,Br (by unfold W1;simp;omega),At];have b:(((q.l++[x]).length:Int)-1)=((q.l.length:Nat):Int):=(by simp);rw[b];have d:qsC (q.l++[x])=qsC q.l++[toC x]:=(by simp[qsC]);obtain⟨r,r1,r2,r3⟩:=WC (q:=⟨q.l++[x]⟩) (i:=q.l.length) (by simp) (by simp;omega) ⟨λj y z hj f a c=>by
    dsimp only at a c;rw[d]at a c;have e:j<(qsC q.l).length:=(by have:=AF a;simp at this;rw[MD]at this ⊢;omega);rw[C4 e]at a;rw[C4 (by omega)]at c;exact m j y z hj a c,λj y z g h k a c=>by
    dsimp only at a;have:=AF a;rw[MD]at this;simp at this;omega⟩
  rw[r1,At];refine⟨_,rfl,r2,r3.trans ?_⟩;exact G1 (l₁:=q.l) (l₂:=[_])
theorem Uf{q:CQ}{n:Nat}(hn:n≤q.l.length)(hl:q.l.length≤1000000000)(E:DownI (qsC (q.l.take n)) 0):∃r,DX q 0 (n:Int)=some r∧X8 (qsC (r.2.l.take n))∧(r.2.l.take n).Perm (q.l.take n)∧r.2.l.drop n=q.l.drop n∧r.2.l.length=q.l.length:=by
  unfold DX;refine JR (λs=>∃i:Nat,s.1=(i:Int)/\DownI (qsC (s.2.l.take n)) i/\i<=n/\(s.2.l.take n).Perm (q.l.take n)/\s.2.l.drop n=q.l.drop n/\s.2.l.length=q.l.length) (λs=>X8 (qsC (s.2.l.take n))/\(s.2.l.take n).Perm (q.l.take n)/\s.2.l.drop n=q.l.drop n/\s.2.l.length=q.l.length) (λ_=>False) (λs=>n-s.1.toNat) ⟨0,rfl,E,by omega,R8 _,rfl,rfl⟩ ?_ ?_ (λs hs=>hs.elim)
  . rintro⟨c,s⟩ ⟨i,hc,hd,hi,hp,hdr,hsl⟩;dsimp only at hc hd hi hp hdr hsl ⊢;subst hc;rw[Br (by unfold W1;omega),At,Br (by unfold W1;omega),At];by_cases A:(n:Int)<=2*(i:Int)+1
    . rw[if_pos A,At,Cd];refine .inr (.inl ⟨_,rfl,hd.heap λj x y hj h d _=>?_,hp,hdr,hsl⟩);have:=AF d;rw[MD,N8]at this;omega
    rw[if_neg A,if_neg (by omega),At,BY];obtain⟨a,ha⟩:=AK (l:=s.l) (k:=i) (by omega);obtain⟨b,hb⟩:=AK (l:=s.l) (k:=2*i+1) (by omega);have v:∀{k:Nat}{x:CEn},k<n->s.l[k]?=some x->(qsC (s.l.take n))[k]?=some (toC x):=λ{k x} hk d=>Jy (by rw[D9 hk];exact d);have m:2*(i:Int)+1=((2*i+1:Nat):Int):=(by omega);have w:2*(i:Int)+1+1=((2*i+2:Nat):Int):=(by omega);have o:∀(c:Nat)(F:CEn),(c=2*i+1\/c=2*i+2)->c<n->s.l[c]?=some F->(∀(j:Nat) x,0<j->(j-1)/2=i->(qsC (s.l.take n))[j]?=some x->nb x (toC F))->(∃g,(bnd (Ce s.l (c:Int) (i:Int)) λp=>if p=true then bnd (BR s.l (i:Int) (c:Int)) λf=>some (Ctl.next (ρ:=Bool×CQ) ((c:Int),(⟨f⟩:CQ)))else some (.brk ((i:Int),s)))=some (.next g)/\(∃i:Nat,g.1=(i:Int)/\DownI (qsC (g.2.l.take n)) i/\i<=n/\(g.2.l.take n).Perm (q.l.take n)/\g.2.l.drop n=q.l.drop n/\g.2.l.length=q.l.length)/\n-g.1.toNat<n-((i:Int)).toNat)\/(∃g,(bnd (Ce s.l (c:Int) (i:Int)) λp=>if p=true then bnd (BR s.l (i:Int) (c:Int)) λf=>some (Ctl.next (ρ:=Bool×CQ) ((c:Int),(⟨f⟩:CQ)))else some (.brk ((i:Int),s)))=some (.brk g)/\X8 (qsC (g.2.l.take n))/\(g.2.l.take n).Perm (q.l.take n)/\g.2.l.drop n=q.l.drop n/\g.2.l.length=q.l.length)\/∃r,(bnd (Ce s.l (c:Int) (i:Int)) λp=>if p=true then bnd (BR s.l (i:Int) (c:Int)) λf=>some (Ctl.next (ρ:=Bool×CQ) ((c:Int),(⟨f⟩:CQ)))else some (.brk ((i:Int),s)))=some (.ret r)/\False:=by
      intro c F hc z e hs;rw[Nx e ha,At];have D:qsC (((s.l.set i F).set c a).take n)=((qsC (s.l.take n)).set i (toC F)).set c (toC a):=by
        rw[T5,T5,KY,KY]
      by_cases t:bfr (toC F) (toC a)
      . rw[decide_eq_true t,Cd,Ny ha e,At];refine .inl ⟨_,rfl,⟨c,rfl,?_,by omega,?_,?_,by simp;exact hsl⟩,?_⟩
        . dsimp only;rw[D];exact hd.step hc (v (by omega) ha) (v z e) t hs
        . dsimp only;rw[T5,T5];exact(PI (i:=i) (j:=c) (by rw[D9 (by omega)];exact ha) (by rw[D9 z];exact e)).trans hp
        . dsimp only;rw[<- hdr];apply M0;intro k;rw[K2,K2,H7 (by omega),H7 (by omega)]
        . dsimp only;omega
      . rw[decide_eq_false t,BY];refine .inr (.inl ⟨_,rfl,hd.heap λj x y hj h d B=>?_,hp,hdr,hsl⟩);rw[v (by omega) ha]at B;obtain rfl:=Q1 B;exact JW (hs j x hj h d) t
    rw[Br (by unfold W1;omega),At];by_cases C:2*(i:Int)+1+1<(n:Int)
    . obtain⟨F,e⟩:=AK (l:=s.l) (k:=2*i+2) (by omega);rw[if_pos C,w,m,Nx e hb,At];by_cases u:bfr (toC F) (toC b)
      . rw[decide_eq_true u,Cd,At,Cd,At];refine o (2*i+2) F (.inr rfl) (by omega) e λj x hj h d=>?_;have:j=2*i+1\/j=2*i+2:=(by omega);rcases this with rfl|rfl
        . rw[v (by omega) hb]at d;obtain rfl:=Q1 d;exact Oj u
        . rw[v (by omega) e]at d;obtain rfl:=Q1 d;exact JX _
      . rw[decide_eq_false u,BY,At,BY,At];refine o (2*i+1) b (.inl rfl) (by omega) hb λj x hj h d=>?_;have:j=2*i+1\/j=2*i+2:=(by omega);rcases this with rfl|rfl
        . rw[v (by omega) hb]at d;obtain rfl:=Q1 d;exact JX _
        . rw[v (by omega) e]at d;obtain rfl:=Q1 d;exact u
    . rw[if_neg C,At,BY,At,m];refine o (2*i+1) b (.inl rfl) (by omega) hb λj x hj h d=>?_;have:j=2*i+1:=(by have:=AF d;rw[MD,N8]at this;omega);subst this;rw[v (by omega) hb]at d;obtain rfl:=Q1 d;exact JX _
  . intro s hs;by_cases hz:0<s.1
    . rw[BH,if_pos hz,At];exact⟨_,rfl,hs⟩
    . rw[BH,if_neg hz,At];exact⟨_,rfl,hs⟩
theorem Ra{q:CQ}(F:X8 (qsC q.l))(o:0<q.l.length)(hl:q.l.length≤900000000):∃r,Eh q=some r∧∃(e:CEn) (p:CQ),r=((⟨e⟩:CA),p)∧X8 (qsC p.l)∧q.l.Perm (e::p.l)∧∀x∈qsC q.l,nb x (toC e):=by
  obtain⟨e,he⟩:=AK (l:=q.l) (k:=0) o;obtain⟨z,hz⟩:=AK (l:=q.l) (k:=q.l.length-1) (by omega);have t:((q.l.length:Int)-1)=((q.l.length-1:Nat):Int):=(by omega);have C:BR q.l 0 ((q.l.length-1:Nat):Int)=some ((q.l.set 0 z).set (q.l.length-1) e):=Ny (i:=0) he hz;unfold Eh CI;rw[At,Br (by unfold W1;omega),At,t,C,At];have u:((q.l.set 0 z).set (q.l.length-1) e).take (q.l.length-1)=(q.l.set 0 z).take (q.l.length-1):=by
    rw[T5];exact List.set_eq_of_length_le (by simp)
  have b:q.l.Perm (e::(q.l.set 0 z).take (q.l.length-1)):=by
    have:q.l.Perm (e::(q.l.set 0 z).take (q.l.length-1)):=by
      cases v:q.l with
      |nil=>rw[v]at o;simp at o
      |cons a s =>
        rw[v]at he hz;simp at he;subst he;cases d:s.reverse with
        |nil =>
          have:s=[]:=(by simpa using d);subst this;simp
        |cons w r =>
          have f:s=r.reverse++[w]:=(by have:=congrArg List.reverse d;simpa using this);subst f;simp at hz;subst hz;simp
    exact this
  obtain⟨r,r1,r2,r3,r4,r5⟩:=Uf (q:=⟨(q.l.set 0 z).set (q.l.length-1) e⟩) (n:=q.l.length-1) (by simp) (by simp;omega) (by
    dsimp only;rw[u];refine⟨λj x y hj D A B=>?_,λj x y E=>by omega⟩;rw[Vt,KY]at A B;have g:=Kr A;have h:=Kr B;rw[H7 (by omega)]at g h;exact F j x y hj g h)
  dsimp only at r3 r4 r5;rw[u]at r3;simp only[Q7]at r5;rw[r1,At];unfold FD;have c:r.2.l[q.l.length-1]?=some e:=by
    have:(r.2.l.drop (q.l.length-1))[0]?=some e:=by
      rw[r4,K2,U0,E9 (by simp;omega)]
    rwa[K2,U0]at this
  have m:Zi r.2.l 0 ((q.l.length-1:Nat):Int)=some (r.2.l.take (q.l.length-1)):=by
    unfold Zi;rw[if_pos (by simp;omega)];simp
  rw[r5,t,Br (by unfold W1;omega),At,BD,c,At,m,At,At];exact⟨_,rfl,e,⟨r.2.l.take (q.l.length-1)⟩,rfl,r2,b.trans (List.Perm.cons _ r3.symm),PH F (Jy he)⟩
end
section
open Go Go.RowKit
attribute [local irreducible] ewp owp hwp hwq hws Ev Evg Fn W6 X7 X4 X1
attribute [local irreducible] hwx YW hwz ZY
noncomputable def CB(e:Chk)(m:Ngd)(o:Int):Option (Err×Chk) :=
  bnd (if 0<=e.c.bound then(bnd (atI e.t.ops o) λj=>bnd (W5 (m.dist+j.cost)) λf=>if e.c.bound<=f then(some (.ret ((⟨0⟩:Err),e)))else(some (.done f)))else(some (.done 0)):Option (Fin Int (Err×Chk))) λk=>fin k λ(l:Int)=>bnd (CU e.t o m.facts) λb=>if b.2.n≠0 then(some ((⟨b.2.n⟩:Err),e))else(bnd (rng (ρ:=Err×Chk) (λ(p:Nat)(g:List Fct)(h:Chk)=>bnd (Cs h g l) λa=>if a.2.1.n≠0 then(some (.ret ((⟨a.2.1.n⟩:Err),a.2.2)))else(if(!a.1)=true then(some (.ret ((⟨19⟩:Err),a.2.2)))else(some (.next a.2.2)))) b.1 0 e) λd=>fin d λ(i:Chk)=>some ((⟨0⟩:Err),i))
theorem KH{w:World}{O:Lab}{g f:Nat}{d:Chk}(h:Ob f w O (.pointer (some ⟨g,0,none⟩)) d){l:Value}{s:Ngd}(A:Vb w (Fr 0 w O) l s){u:Int}(B:W1 u){r:Err×Chk}(hm:CB d s u=some r) :
    Fn prog 65 [(.pointer (some ⟨g,0,none⟩)),l,(.int .i64 u)] w λv w'=>∃b,St (eT f) w O w' b/\Ob f w' b (.pointer (some ⟨g,0,none⟩)) r.2/\Vb w' (Fr 0 w' b) v r.1:=by
 obtain⟨m,hE,e3,r3⟩:=Y3 (w:=w) (O:=O) h.2;have k:=Ob.leave h e3 r3 (j:=2) (by decide);have a:Bm w m w m:=Bm.refl;replace A:=A.mono e3;obtain⟨w5,rfl,v5,rfl,h6,r9⟩:=id A;obtain⟨S,c8,rfl⟩:=h6.form;refine AG func65 rfl ntmps65 ?_;unfold CB at hm;refine Aj (Ae (Ea 3 m rfl λL T x5 n e=>?_));refine Au rfl (o_z (Aj (Ae (Au rfl (o_z (Aj ?_))))));obtain⟨U,b0,hm⟩:=bs hm;refine Bc (λV w'=>∃(o:Int) (W:Unit) (b:Lab),U=.done o/\W4 V [(0,(.pointer (some ⟨g,0,none⟩))),(2,(.int .i64 u)),(4,(.pointer (some ⟨L,0,none⟩))),(7,(.int .i64 o))]/\Bm w m w' b/\Ob 2 w' b (.pointer (some ⟨g,0,none⟩)) d/\Lc 3 w' b L 85 [(.slice S s.facts.length c8),(.int .i64 s.dist)]/\W1 o) ?_ ?_
 ·refine Aj (Ae (Ar rfl (Cm rfl ?_)));replace k:=k.st n;obtain⟨y5,z5,a6,b6,c6,d6,f1,v3,c1,s1,t1,u1,g1,z1,v1,a2⟩:=Chk.opn k 2 (by decide);obtain⟨e6,f6,rfl⟩:=s1.form;obtain⟨g6,i6,rfl⟩:=t1.form;obtain⟨j6,k6,rfl⟩:=u1.form;obtain⟨l6,m6,rfl⟩:=g1.form;obtain⟨n6,o6,rfl⟩:=v1.form;refine AJ rfl (AJ rfl (AL (hc:=Blk.cell (i:=4) (c1.1) rfl) rfl (Es rfl rfl (λC=>?_) λC=>?_)))
  ·replace b0:=ip b0 C;refine o_z (Am rfl (Aj ?_));refine Ct (·=T) [(0,true),(1,true),(2,true),(3,true),(4,true),(5,true),(6,true),(7,true),(8,true),(9,true),(10,true),(11,true),(12,true)] rfl rfl ?_;refine Be rfl rfl ?_;replace e:=e.st f1;refine Du (hc:=Blk.cell (i:=1) (e.1) rfl) rfl rfl (AM rfl rfl (En rfl rfl (Be rfl rfl (Be rfl rfl (Du (hc:=Blk.cell (i:=3) (c1.1) rfl) rfl rfl (AM rfl rfl ?_))))));obtain⟨p6,w3,b0⟩:=bs b0;obtain⟨Y,y3⟩:=Cn w3;obtain⟨q6,r6,z3,c2,d2,e2,s6,t6,rfl,a4,b4,u6,v6⟩:=g1.elem' y3;obtain⟨w6,x6,rfl⟩:=a4.form;obtain⟨y6,z6,rfl⟩:=b4.form;refine CX (hA:=c2) (hj:=Y) (hlt:=d2) rfl rfl rfl (Be rfl rfl (Du (hc:=cat1 e2) rfl rfl ?_));obtain⟨a7,g3,b0⟩:=bs b0;have Z:=(Bh g3);refine Jh (he:=g3) rfl rfl rfl (CY rfl rfl (h_z (Aj (Ae (Ar rfl (Ar rfl (Cm rfl (AJ rfl (AJ rfl (AL (hc:=Blk.cell (i:=4) (c1.1) rfl) rfl (Es rfl rfl (λD=>?_) λD=>?_)))))))))))
   ·replace b0:=ip b0 D;refine o_z (Am rfl (Aj (Ae (Au rfl (o_z (AD ?_))))));obtain⟨b7,d4,e4,f4,g2⟩:=Chk.shut (x:=d) (l0:=2) (by decide) c1 s1 t1 u1 g1 z1 v1 a2;obtain rfl:=sm b0;obtain rfl:=sm (Bp hm);replace a:=((a.st n).st f1).st d4;obtain⟨b,hS',hz,hl⟩:=hE.leave (λq=>if q=2 then f else 0) rfl a;exact X2 rfl (AC rfl) ⟨b,hS',(Ob.leave g2 hz (hl 2 (by decide) (by decide)) h.2),(vErr (W3 0))⟩
   replace b0:=im b0 D;refine o_z (Ah rfl (AE ?_));obtain⟨c7,h3,g4,h4,i4⟩:=Chk.shut (x:=d) (l0:=2) (by decide) c1 s1 t1 u1 g1 z1 v1 a2;obtain rfl:=sm b0;exact⟨_,(),_,rfl,A1,((a.st n).st f1).st h3,i4,e.st h3,Z⟩
  replace b0:=im b0 C;refine o_z (Ah rfl (AE ?_));obtain⟨d7,i3,j4,k4,l4⟩:=Chk.shut (x:=d) (l0:=2) (by decide) c1 s1 t1 u1 g1 z1 v1 a2;obtain rfl:=sm b0;exact⟨_,(),_,rfl,A1,((a.st n).st f1).st i3,l4,(e.st f1).st i3,(W3 0)⟩
 replace a:=a.st n;rintro e7 f7 ⟨o,W,g7,rfl,h2,a,g2,e,m4⟩;replace hm:=AW hm;refine AQ _ h2 ?_;refine Aj ?_;obtain⟨M,h7,i7,n4,o4,p4,k3,q4,t0,r0,e0,f0,g0,h1,h0,i1⟩:=Chk.opn g2 2 (by decide);obtain⟨r4,s4,rfl⟩:=r0.form;obtain⟨i2,j2,rfl⟩:=e0.form;obtain⟨k2,l2,rfl⟩:=f0.form;obtain⟨m2,n2,rfl⟩:=g0.form;obtain⟨t4,u4,rfl⟩:=h0.form;refine Ck [] M ?_;refine Bl (fuel:=6) [] (Ci (FH 0 7)) rfl (AM rfl rfl (En rfl rfl (Be rfl rfl (ID (hl:=rfl) (hb:=λw' ⟨b,hq⟩=>(LK 0 4 ((t0.st hq (by decide)).1).cellsAt)) rfl rfl ?_))));refine AM rfl rfl (Be rfl rfl ?_);replace e:=e.st k3;refine Bz (hc:=CH e 0 rfl) rfl rfl (AP (Bo (i:=7) rfl ?_));obtain⟨p,o2,hm⟩:=bs hm;replace a:=a.st k3;refine Ey (O:=M) (R:=λw' F v=>T2 w' F v p) (Jb Fr.lt (Vb.ofAgg (cs:=[(.slice r4 d.t.vars.length s4),(.slice i2 d.t.init.length j2),(.slice k2 d.t.goal.length l2),(.slice m2 d.t.ops.length n2)]) (x:=d.t) rfl ⟨_,_,_,_,rfl,r0,e0,f0,g0⟩) B (h6.z a) o2) rfl λv4 w4 x4 c p2=>?_;obtain⟨y4,z4,rfl,d0,q2⟩:=p2;obtain⟨N,k1,rfl⟩:=d0.form;obtain⟨rfl,r2⟩:=q2.err;have hZ:=lZ c;refine CT [] hZ ?_;refine Bl (fuel:=0) [] (Ci (FH 8 5)) rfl (AM rfl rfl (IW rfl rfl rfl (IW rfl rfl rfl (CY rfl rfl (CY rfl rfl (AP (Dv (Aj (Aj (Ae (Ar rfl (Cy rfl (λE=>?_) λE=>?_))))))))))))
 ·replace hm:=ip hm E;refine o_z (Am rfl (Aj (Ae (Ar rfl (Au rfl (o_z (AD ?_)))))));replace t0:=t0.st c;replace r0:=r0.st c;replace e0:=e0.st c;replace f0:=f0.st c;replace g0:=g0.st c;replace h0:=h0.st c;obtain⟨a5,s2,l3,m3,t2⟩:=Chk.shut (x:=d) (l0:=2) (by decide) t0 r0 e0 f0 g0 h1 h0 i1;obtain rfl:=sm hm;replace a:=(a.st c).st s2;obtain⟨b,hS',hz,hl⟩:=hE.leave (λq=>if q=2 then f else 0) rfl a;exact X2 rfl (AC rfl) ⟨b,hS',(Ob.leave t2 hz (hl 2 (by decide) (by decide)) h.2),(vErr r2)⟩
 replace hm:=im hm E;refine o_z (Ah rfl (AE (Aj (Aj (Ae (Ar rfl (AO rfl ?_)))))));have G:=Bj d0.len;have b5:=rngNat G;refine Ar rfl (o_z ?_);replace t0:=t0.st c;replace r0:=r0.st c;replace e0:=e0.st c;replace f0:=f0.st c;replace g0:=g0.st c;replace h0:=h0.st c;obtain⟨u2,l1,n3,o3,v2⟩:=Chk.shut (x:=d) (l0:=2) (by decide) t0 r0 e0 f0 g0 h1 h0 i1;obtain⟨w2,m1,hm⟩:=bs hm;replace a:=(a.st c).st l1;replace d0:=d0.st l1;refine Dg (X:=Unit) (p.1.length) m1 rfl G (λH P=>[(0,(.pointer (some ⟨g,0,none⟩))),(7,(.int .i64 o)),(53,(.slice N p.1.length k1))]) (λH P w'=>∃b:Lab,Bm w m w' b/\Ob 2 w' b (.pointer (some ⟨g,0,none⟩)) H/\Vb w' (Fr 0 w' b) (.slice N p.1.length k1) p.1) () ⟨u2,a,v2,d0⟩ Ad (λ_ _=>rfl) ?_ ?_
 ·rintro c5 d5 H P e5 p3 Q ⟨y2,a,y0,d0⟩ a0 j0 w1;have I:=YV Q G;refine Aj (Ae ?_);obtain⟨f5,g5,q3,o1,p1,q1,h5,rfl,o0⟩:=d0.elem' Q;replace o0:=Vb.of_slice o0;obtain⟨i5,j5,rfl⟩:=o0.form;refine BA (hA:=o1) (hj:=rfl) (hlt:=p1) rfl rfl (AL (hc:=cat0 q1) rfl (Au rfl (o_z (Aj (Ae (Ar rfl (Ar rfl (Ar rfl ?_))))))));obtain⟨k5,z2,a0⟩:=bs a0;refine BM (O:=y2) (Hb y0 o0 m4 z2) rfl λl5 m5 n5 y a3=>?_;obtain⟨o5,p5,z0,rfl,b3,c3⟩:=a3;obtain rfl:=b3.bool;obtain⟨rfl,d3⟩:=c3.err;refine Ar rfl (AZ rfl rfl (AZ rfl rfl (Au rfl (Au rfl (o_z (Aj (Aj (Ae (Ar rfl (Cy rfl (λJ=>?_) λJ=>?_))))))))))
  ·replace a0:=ip a0 J;refine o_z (Am rfl (Aj (Ae (Ar rfl (Au rfl (o_z (AD ?_)))))));obtain rfl:=sm a0;obtain rfl:=j0 _ rfl;obtain rfl:=sm (Bp hm);replace a:=a.st y;obtain⟨b,hS',hz,hl⟩:=hE.leave (λq=>if q=2 then f else 0) rfl a;exact X2 rfl (AC rfl) ⟨b,hS',(Ob.leave z0 hz (hl 2 (by decide) (by decide)) h.2),(vErr d3)⟩
  replace a0:=im a0 J;refine o_z (Ah rfl (AE (Aj (Ae (Ar rfl (Em rfl (o_z (Bx rfl (λK=>?_) (λK=>?_)))))))))
  ·replace a0:=ip a0 K;refine Aj (Ae (Da rfl (Au rfl (o_z (AD ?_)))));obtain rfl:=sm a0;obtain rfl:=j0 _ rfl;obtain rfl:=sm (Bp hm);replace a:=a.st y;obtain⟨b,hS',hz,hl⟩:=hE.leave (λq=>if q=2 then f else 0) rfl a;exact X2 rfl (AC rfl) ⟨b,hS',(Ob.leave z0 hz (hl 2 (by decide) (by decide)) h.2),(vErr (by decide))⟩
  replace a0:=im' a0 K;refine AE ?_;obtain rfl:=sm a0;exact show Exists _ from⟨_,(),rfl,Ad,_,a.st y,z0,d0.st y⟩
 rintro q5 r5 ⟨s5,t5,rfl,r1,u5,a,y0,d0⟩;replace hm:=AW hm;refine AQ _ r1 ?_;refine Aj (Ae (Au rfl (o_z (AD ?_))));obtain rfl:=sm hm;obtain⟨b,hS',hz,hl⟩:=hE.leave (λq=>if q=2 then f else 0) rfl a;exact X2 rfl (AC rfl) ⟨b,hS',(Ob.leave y0 hz (hl 2 (by decide) (by decide)) h.2),(vErr (W3 0))⟩
noncomputable def EO(b:Tsk)(f:Crt)(u:Int):Option (Int×Int×Err) :=
  bnd (CE b) λi=>if i.n≠0 then(some ((-1),(-1),(⟨i.n⟩:Err)))else(bnd (Ee b.vars f) λj=>if j.n≠0 then(some ((-1),(-1),(⟨j.n⟩:Err)))else(bnd (rng (ρ:=Int×Int×Err) (λ(y:Nat)(s:Ngd)(z:Unit)=>bnd (DJ s.facts b.init) λt=>if t=true then some (.ret ((-1),(-1),(⟨20⟩:Err)))else some (.next ())) f.nogoods 0 ()) λh=>fin h λ(v:Unit)=>bnd (if f.bound≠0 then(bnd (Cs (⟨(⟨b.vars,b.init,b.goal,b.ops⟩:Tsk),(⟨f.bound,f.nogoods⟩:Crt),(max 0 (min u 1048576))⟩:Chk) b.goal 0) λa=>if a.2.1.n≠0 then(some (.ret ((-1),(-1),(⟨a.2.1.n⟩:Err))))else(if(!a.1)=true then(some (.ret ((-1),(-1),(⟨13⟩:Err))))else(some (.done a.2.2))))else(some (.done (⟨(⟨b.vars,b.init,b.goal,b.ops⟩:Tsk),(⟨f.bound,f.nogoods⟩:Crt),(max 0 (min u 1048576))⟩:Chk))):Option (Fin Chk (Int×Int×Err))) λk=>fin k λ(l:Chk)=>bnd (rng (ρ:=Int×Int×Err) (λ(m:Nat)(o:Ngd)(p:Chk)=>bnd (rng (ρ:=Ctl Chk (Int×Int×Err)) (λ(g:Nat)(w:Opr)(q:Chk)=>bnd (CB q o (g:Int)) λc=>if c.1.n≠0 then(some (.ret (.ret ((m:Int),(g:Int),(⟨c.1.n⟩:Err)))))else(some (.next c.2))) b.ops 0 p) λd=>fin d λ(r:Chk)=>some (.next r)) f.nogoods 0 l) λe=>fin e λ(x:Chk)=>some ((-1),(-1),(⟨0⟩:Err))))
theorem Om{w:World}{A:Nat->Prop}(hA:∀k,A k->k<w.heap.size){vx0:Value}{x0:Tsk}(j4:Vb w A vx0 x0){vx1:Value}{x1:Crt}(k4:Vb w A vx1 x1){x2:Int}(rx2:W1 x2){r:Int×Int×Err}(hm:EO x0 x1 x2=some r) :
    Fn prog 31 [vx0,vx1,(.int .i64 x2)] w λv w'=>Ext w w'/\T3 w' (upA A w w') v r:=by
 obtain⟨O,hB,g7⟩:=enter hA;obtain⟨h7,rfl,v5,v6,v7,v8,rfl,h9,f2,g2,h2⟩:=id j4;obtain⟨i2,j2,rfl⟩:=h9.form;obtain⟨k2,l2,rfl⟩:=f2.form;obtain⟨m2,n2,rfl⟩:=g2.form;obtain⟨o2,p2,rfl⟩:=h2.form;obtain⟨a5,rfl,i7,rfl,w0,l4⟩:=id k4;obtain⟨n1,o1,rfl⟩:=w0.form;refine AG func31 rfl ntmps31 ?_;unfold EO at hm;refine Aj (Ae (Ea 2 O rfl λu0 j7 b5 c5 b0=>?_));refine Ea 3 b5 rfl λq2 d5 m4 n4 d0=>?_;refine Au rfl (Au rfl (Au rfl (o_z (Aj (Aj (Ae ?_))))));replace b0:=b0.st n4;refine BE (hl:=rfl) (hc:=(b0.1).cellsAt) rfl ?_;obtain⟨k7,e5,hm⟩:=bs hm;replace hB:=(hB.st c5).st n4;refine BO (O:=m4) (FY (λ_ h=>h) (Vb.mono (F:=Fr 0 d5 m4) (j4.zs hA hB) Fr.lt) e5) rfl λl7 o4 a3 r2 f5=>?_;obtain⟨rfl,g5⟩:=f5.err;refine Au rfl (o_z (Aj (Ae (Ar rfl (Cy rfl (λb3=>?_) λb3=>?_)))))
 ·replace hm:=ip hm b3;refine o_z (Am rfl (Aj (Ae (Ar rfl (Au rfl (Au rfl (Au rfl (o_z (AD ?_)))))))));obtain rfl:=sm hm;replace hB:=hB.st r2;exact ZG rfl (AC rfl) (AC rfl) (AC rfl) ⟨hB.ext,_,_,_,rfl,(vInt (W3 (-1))),(vInt (W3 (-1))),(vErr g5)⟩
 replace hm:=im hm b3;refine o_z (Ah rfl (AE (Aj (Aj (Ae (AJ rfl ?_))))));replace b0:=b0.st r2;refine AL (hc:=Blk.cell (i:=0) (b0.1) rfl) rfl ?_;replace d0:=d0.st r2;refine BE (hl:=rfl) (hc:=(d0.1).cellsAt) rfl ?_;obtain⟨m7,h5,hm⟩:=bs hm;replace hB:=hB.st r2;refine BO (O:=a3) (Lo (λ_ h=>h) (Vb.mono (F:=Fr 0 o4 a3) (h9.zs hA hB) Fr.lt) (Vb.mono (F:=Fr 0 o4 a3) (k4.zs hA hB) Fr.lt) h5) rfl λn7 o7 i5 s2 j5=>?_;obtain⟨rfl,k5⟩:=j5.err;refine Au rfl (o_z (Aj (Ae (Ar rfl (Cy rfl (λc3=>?_) λc3=>?_)))))
 ·replace hm:=ip hm c3;refine o_z (Am rfl (Aj (Ae (Ar rfl (Au rfl (Au rfl (Au rfl (o_z (AD ?_)))))))));obtain rfl:=sm hm;replace hB:=hB.st s2;exact ZG rfl (AC rfl) (AC rfl) (AC rfl) ⟨hB.ext,_,_,_,rfl,(vInt (W3 (-1))),(vInt (W3 (-1))),(vErr k5)⟩
 replace hm:=im hm c3;refine o_z (Ah rfl (AE (Aj (Aj (Ae (AJ rfl ?_))))));replace d0:=d0.st s2;refine AL (hc:=Blk.cell (i:=1) (d0.1) rfl) rfl (AO rfl ?_);have d3:=Bj w0.len;have p7:=rngNat d3;refine Ar rfl (o_z ?_);obtain⟨p4,e3,hm⟩:=bs hm;replace hB:=hB.st s2;replace b0:=b0.st s2;refine Dg (X:=Unit) (x1.nogoods.length) e3 rfl d3 (λq4 r4=>[(2,(.int .i64 x2)),(3,(.pointer (some ⟨u0,0,none⟩))),(4,(.pointer (some ⟨q2,0,none⟩))),(33,(.slice n1 x1.nogoods.length o1))]) (λq4 r4 w'=>∃O':Lab,Bs w A w' O'/\Lc 2 w' O' u0 26 [(.slice i2 x0.vars.length j2),(.slice k2 x0.init.length l2),(.slice m2 x0.goal.length n2),(.slice o2 x0.ops.length p2)]/\Lc 3 w' O' q2 44 [(.int .i64 x1.bound),(.slice n1 x1.nogoods.length o1)]) () ⟨i5,hB,b0,d0⟩ Af (λ_ _=>rfl) ?_ ?_
 ·rintro q7 r7 q4 r4 s7 l5 p1 ⟨m5,hB,b0,d0⟩ f0 y0 f3;have rk61:=YV p1 d3;refine Aj (Ae ?_);obtain⟨t7,u7,n5,g3,h3,i3,w7,rfl,t2,x7⟩:=(w0.zs hA hB).elem' p1;obtain⟨y7,z7,rfl⟩:=t2.form;refine BA (hA:=g3) (hj:=rfl) (hlt:=h3) rfl rfl (BE (hl:=rfl) (hc:=i3) rfl ?_);refine BL 4 m5 λa8 b8 s4 u2 j3=>?_;refine AR j3 rfl rfl rfl (Bg) (allOne) λo5 v2 j3=>?_;refine o_z (Aj (Ae (AJ rfl (AL (hc:=Blk.cell (i:=0) (j3.1) rfl) rfl (AJ rfl ?_)))));replace b0:=(b0.st u2).st v2;refine AL (hc:=Blk.cell (i:=1) (b0.1) rfl) rfl ?_;obtain⟨p5,q5,f0⟩:=bs f0;replace hB:=(hB.st u2).st v2;replace t2:=(t2.st u2).st v2;refine BO (O:=s4) (FX (λ_ h=>h) (vMo t2) (Vb.mono (F:=Fr 0 o5 s4) (f2.zs hA hB) Fr.lt) q5) rfl λc8 d8 e8 w2 r5=>?_;obtain rfl:=r5.bool;cases p5
  case false =>
   replace f0:=iF f0;refine o_z (Ah rfl (AE ?_));obtain rfl:=sm f0;exact show Exists _ from⟨_,(),rfl,Af,_,hB.st w2,b0.st w2,((d0.st u2).st v2).st w2⟩
  replace f0:=iT f0;refine o_z (Am rfl (Aj (Ae (Da rfl (Au rfl (Au rfl (Au rfl (o_z (AD ?_)))))))));obtain rfl:=sm f0;obtain rfl:=y0 _ rfl;obtain rfl:=sm (Bp hm);replace hB:=hB.st w2;exact ZG rfl (AC rfl) (AC rfl) (AC rfl) ⟨hB.ext,_,_,_,rfl,(vInt (W3 (-1))),(vInt (W3 (-1))),(vErr (by decide))⟩
 rintro f8 g8 ⟨s5,t5,rfl,q1,k3,hB,b0,d0⟩;replace hm:=AW hm;refine AQ _ q1 ?_;refine Aj (Ae (BE (hl:=rfl) (hc:=(b0.1).cellsAt) rfl (BE (hl:=rfl) (hc:=(d0.1).cellsAt) rfl (Ar rfl (PZ rfl rfl rfl (Qa rfl rfl rfl (CK rfl rfl ?_)))))));refine Ea 5 k3 rfl λm0 u5 w5 g0 r1=>?_;refine Au rfl (o_z (Aj ?_));obtain⟨l3,a0,hm⟩:=bs hm;refine Bc (λl' w'=>∃(z0:Chk) (m3:Unit) (O':Lab),l3=.done z0/\W4 l' [(3,(.pointer (some ⟨u0,0,none⟩))),(4,(.pointer (some ⟨q2,0,none⟩))),(13,(.pointer (some ⟨m0,0,none⟩)))]/\Bs w A w' O'/\Lc 2 w' O' u0 26 [(.slice i2 x0.vars.length j2),(.slice k2 x0.init.length l2),(.slice m2 x0.goal.length n2),(.slice o2 x0.ops.length p2)]/\Lc 3 w' O' q2 44 [(.int .i64 x1.bound),(.slice n1 x1.nogoods.length o1)]/\Ob 5 w' O' (.pointer (some ⟨m0,0,none⟩)) z0) ?_ ?_
 ·refine Aj (Ae (AJ rfl ?_));replace d0:=d0.st g0;refine AL (hc:=Blk.cell (i:=0) (d0.1) rfl) rfl (Gm rfl rfl (λa1=>?_) λa1=>?_)
  ·replace a0:=ip a0 a1;refine o_z (Am rfl (Aj (Ae (Ar rfl (AJ rfl ?_)))));replace b0:=b0.st g0;refine AL (hc:=Blk.cell (i:=2) (b0.1) rfl) rfl ?_;replace hB:=hB.st g0;obtain⟨n3,b1,t4,u4,o3⟩:=Chk.shut (x:=(⟨(⟨x0.vars,x0.init,x0.goal,x0.ops⟩:Tsk),(⟨x1.bound,x1.nogoods⟩:Crt),(max 0 (min x2 1048576))⟩:Chk)) (l0:=5) (by decide) r1 (h9.zs hA hB) (f2.zs hA hB) (g2.zs hA hB) (h2.zs hA hB) l4 (w0.zs hA hB) (rngMax (W3 0) (rngMin rx2 (W3 1048576)));obtain⟨x5,p3,a0⟩:=bs a0;replace hB:=hB.st b1;refine BM (O:=n3) (Hb o3 (g2.zs hA hB) (W3 0) p3) rfl λy5 z5 a6 n0 q3=>?_;obtain⟨b6,c6,r3,rfl,s3,t3⟩:=q3;obtain rfl:=s3.bool;obtain⟨rfl,u3⟩:=t3.err;refine Ar rfl (AZ rfl rfl (AZ rfl rfl (Au rfl (Au rfl (o_z (Aj (Aj (Ae (Ar rfl (Cy rfl (λc1=>?_) λc1=>?_))))))))))
   ·replace a0:=ip a0 c1;refine o_z (Am rfl (Aj (Ae (Ar rfl (Au rfl (Au rfl (Au rfl (o_z (AD ?_)))))))));obtain rfl:=sm a0;obtain rfl:=sm (Bp hm);replace hB:=hB.st n0;exact ZG rfl (AC rfl) (AC rfl) (AC rfl) ⟨hB.ext,_,_,_,rfl,(vInt (W3 (-1))),(vInt (W3 (-1))),(vErr u3)⟩
   replace a0:=im a0 c1;refine o_z (Ah rfl (AE (Aj (Ae (Ar rfl (Em rfl (o_z (Bx rfl (λd1=>?_) (λd1=>?_)))))))))
   ·replace a0:=ip a0 d1;refine Aj (Ae (Da rfl (Au rfl (Au rfl (Au rfl (o_z (AD ?_)))))));obtain rfl:=sm a0;obtain rfl:=sm (Bp hm);replace hB:=hB.st n0;exact ZG rfl (AC rfl) (AC rfl) (AC rfl) ⟨hB.ext,_,_,_,rfl,(vInt (W3 (-1))),(vInt (W3 (-1))),(vErr (by decide))⟩
   replace a0:=im' a0 d1;refine AE ?_;obtain rfl:=sm a0;exact⟨_,(),_,rfl,B5,hB.st n0,(b0.st b1).st n0,(d0.st b1).st n0,r3⟩
  replace a0:=im a0 a1;refine o_z (Ah rfl (AE ?_));replace hB:=hB.st g0;obtain⟨d6,e1,v4,w4,v3⟩:=Chk.shut (x:=(⟨(⟨x0.vars,x0.init,x0.goal,x0.ops⟩:Tsk),(⟨x1.bound,x1.nogoods⟩:Crt),(max 0 (min x2 1048576))⟩:Chk)) (l0:=5) (by decide) r1 (h9.zs hA hB) (f2.zs hA hB) (g2.zs hA hB) (h2.zs hA hB) l4 (w0.zs hA hB) (rngMax (W3 0) (rngMin rx2 (W3 1048576)));obtain rfl:=sm a0;exact⟨_,(),_,rfl,B5,hB.st e1,(b0.st g0).st e1,d0.st e1,v3⟩
 replace hB:=hB.st g0;replace b0:=b0.st g0;replace d0:=d0.st g0;rintro e6 f6 ⟨z0,m3,w3,rfl,s1,hB,b0,d0,x3⟩;replace hm:=AW hm;refine AQ _ s1 ?_;refine Aj (Aj (Ae (AJ rfl (AL (hc:=Blk.cell (i:=1) (d0.1) rfl) rfl (AO rfl ?_)))));have f1:=Bj w0.len;have g6:=rngNat f1;refine Ar rfl (o_z ?_);obtain⟨y3,t1,hm⟩:=bs hm;refine Dg (X:=Unit) (x1.nogoods.length) t1 rfl f1 (λg1 u1=>[(3,(.pointer (some ⟨u0,0,none⟩))),(13,(.pointer (some ⟨m0,0,none⟩))),(70,(.slice n1 x1.nogoods.length o1))]) (λg1 u1 w'=>∃O':Lab,Bs w A w' O'/\Lc 2 w' O' u0 26 [(.slice i2 x0.vars.length j2),(.slice k2 x0.init.length l2),(.slice m2 x0.goal.length n2),(.slice o2 x0.ops.length p2)]/\Ob 5 w' O' (.pointer (some ⟨m0,0,none⟩)) g1) () ⟨w3,hB,b0,x3⟩ Ad (λ_ _=>rfl) ?_ ?_
 ·rintro v1 j0 g1 u1 h6 x4 v0 ⟨z3,hB,b0,p0⟩ e0 q0 y2;have rk150:=YV v0 f1;refine Aj (Ae (Ar rfl ?_));obtain⟨i6,j6,y4,w1,y1,z1,k6,rfl,h0,a4⟩:=(w0.zs hA hB).elem' v0;obtain⟨h1,i1,rfl⟩:=h0.form;refine BA (hA:=w1) (hj:=rfl) (hlt:=y1) rfl rfl (BE (hl:=rfl) (hc:=z1) rfl ?_);refine BL 6 z3 λa2 l6 b4 r0 k0=>?_;refine Au rfl (AR k0 rfl rfl rfl (Bg) (allOne) λm6 s0 k0=>?_);refine o_z (Aj (Ae (AJ rfl ?_)));replace b0:=(b0.st r0).st s0;refine AL (hc:=Blk.cell (i:=3) (b0.1) rfl) rfl (AO rfl ?_);have j1:=Bj h2.len;have n6:=rngNat j1;refine Ar rfl (o_z ?_);obtain⟨c4,b2,e0⟩:=bs e0;replace hB:=(hB.st r0).st s0;replace p0:=(p0.st r0).st s0;replace h0:=(h0.st r0).st s0;refine Dg (X:=Unit) (x0.ops.length) b2 rfl j1 (λk1 c2=>[(3,(.pointer (some ⟨u0,0,none⟩))),(13,(.pointer (some ⟨m0,0,none⟩))),(16,(.int .i64 (v1:Int))),(17,(.pointer (some ⟨a2,0,none⟩))),(70,(.slice n1 x1.nogoods.length o1)),(71,(.int .i64 (x1.nogoods.length:Int))),(72,(.int .i64 (v1:Int)))]) (λk1 c2 w'=>∃O':Lab,Bs w A w' O'/\Lc 2 w' O' u0 26 [(.slice i2 x0.vars.length j2),(.slice k2 x0.init.length l2),(.slice m2 x0.goal.length n2),(.slice o2 x0.ops.length p2)]/\Ob 5 w' O' (.pointer (some ⟨m0,0,none⟩)) k1/\Lc 6 w' O' a2 85 [(.slice h1 j0.facts.length i1),(.int .i64 j0.dist)]/\Vb w' (Fr 0 w' O') (.slice h1 j0.facts.length i1) j0.facts) () ⟨b4,hB,b0,p0,k0,h0⟩ D5 (λ_ _=>rfl) ?_ ?_
  ·rintro o6 p6 k1 c2 q6 z4 d2 ⟨d4,hB,b0,l1,k0,h0⟩ c0 t0 z2;have rk188:=YV d2 j1;refine Aj (Ae (Ar rfl (Au rfl (o_z (Aj (Ae (Ar rfl (BE (hl:=rfl) (hc:=(k0.1).cellsAt) rfl (Ar rfl ?_)))))))));obtain⟨r6,e4,c0⟩:=bs c0;refine BM (O:=d4) (KH l1 (Vb.ofAgg (cs:=[(.slice h1 j0.facts.length i1),(.int .i64 j0.dist)]) (x:=j0) rfl ⟨_,rfl,h0,a4⟩) rk188 e4) rfl λs6 t6 u6 o0 f4=>?_;obtain⟨g4,h4⟩:=f4;obtain⟨rfl,i4⟩:=h4.err;refine Au rfl (o_z (Aj (Ae (Ar rfl (Cy rfl (λm1=>?_) λm1=>?_)))))
   ·replace c0:=ip c0 m1;refine o_z (Am rfl (Aj (Ae (Ar rfl (Ar rfl (Ar rfl (Au rfl (Au rfl (Au rfl (o_z (AD ?_)))))))))));obtain rfl:=sm c0;obtain rfl:=t0 _ rfl;obtain rfl:=sm (Bp e0);obtain rfl:=q0 _ rfl;obtain rfl:=sm (Bp hm);replace hB:=hB.st o0;exact ZG rfl (AC rfl) (AC rfl) (AC rfl) ⟨hB.ext,_,_,_,rfl,(vInt rk150),(vInt rk188),(vErr i4)⟩
   replace c0:=im c0 m1;refine o_z (Ah rfl (AE ?_));obtain rfl:=sm c0;exact show Exists _ from⟨_,(),rfl,D5,_,hB.st o0,b0.st o0,g4,k0.st o0,h0.st o0⟩
  rintro w6 x6 ⟨y6,z6,rfl,i0,a7,hB,b0,l1,k0,h0⟩;replace e0:=AW e0;obtain rfl:=sm e0;exact show Exists _ from⟨_,(),rfl,⟨(Bn i0 _ _ rfl),(Bn i0 _ _ rfl),(Bn i0 _ _ rfl),(Bn i0 _ _ rfl),(Bn i0 _ _ rfl),trivial⟩,_,hB,b0,l1⟩
 rintro b7 c7 ⟨d7,e7,rfl,e2,f7,hB,b0,p0⟩;replace hm:=AW hm;refine AQ _ e2 ?_;refine Aj (Ae (Au rfl (Au rfl (Au rfl (o_z (AD ?_))))));obtain rfl:=sm hm;exact ZG rfl (AC rfl) (AC rfl) (AC rfl) ⟨hB.ext,_,_,_,rfl,(vInt (W3 (-1))),(vInt (W3 (-1))),(vErr (W3 0))⟩
noncomputable def Dz(b:Tsk)(c:Crt)(d:Int):Option Err :=
  bnd (EO b c d) λa=>some (⟨a.2.2.n⟩:Err)
section
attribute [local irreducible] Vb Lc Rw Ob
theorem JY{w:World}{A:Nat->Prop}(hA:∀k,A k->k<w.heap.size){a:Value}{d:Tsk}(f:Vb w A a d){b:Value}{e:Crt}(g:Vb w A b e){c:Int}(h:W1 c){r:Err}(hm:Dz d e c=some r) :
    Fn prog 12 [a,b,(.int .i64 c)] w λv w'=>Ext w w'/\Vb w' (upA A w w') v r:=by
 obtain⟨_,_,_⟩:=Db hA;apply CZ f;intros;apply CZ g;intros;refine AG func12 rfl ntmps12 ?_;unfold Dz at hm;refine Aj (Ae (Gx 2 ?_));intros;refine Gx 3 ?_;intros;refine Au rfl (o_z (Aj (Ae (Ep ?_))));refine Ep (Ar rfl ?_);obtain⟨m,c0,hm⟩:=bs hm;refine YE rfl (Om (λ_ n=>n) zA zA zI c0) λ_ _ _ _ _ _ i j l=>?_;apply Dw i;intros;apply Dw j;intros;apply Dw l;intros;refine Ar rfl (AZ rfl rfl (AZ rfl rfl (AZ rfl rfl (Au rfl (Au rfl (Au rfl (o_z (Aj (Ae (Ar rfl (Au rfl (o_z (AD ?_)))))))))))));obtain rfl:=sm hm;exact Ca
end
noncomputable def Dc(o:Tsk)(m:Int)(G:Int):Option (Crt×Err) :=
  bnd (CE o) λp=>if p.n≠0 then(some ((⟨0,([]:List Ngd)⟩:Crt),(⟨p.n⟩:Err)))else(bnd (ES m) λD=>if D=true then if m=0 then(some ((⟨m,([]:List Ngd)⟩:Crt),(⟨0⟩:Err)))else(bnd (Bd o.goal) λE=>bnd (lop (ρ:=Crt×Err) (λ(b:Int×(List Ngd)×(BxR 79 77 CEn))=>bnd (CI b.2.2.l) λq=>if 0<q then(bnd (Eh b.2.2) λa=>bnd (Fw a.1.x.facts b.2.1) λr=>if r=true then some (.next (b.1,b.2.1,a.2))else bnd (DJ a.1.x.facts o.init) λs=>if s=true then some (.ret ((⟨0,([]:List Ngd)⟩:Crt),(⟨13⟩:Err)))else if(b.2.1.length:Int)=(max 0 (min G 4096))then(some (.ret ((⟨0,([]:List Ngd)⟩:Crt),(⟨10⟩:Err))))else(bnd (X6 32 b.2.1 [(⟨a.1.x.facts,a.1.x.dist⟩:Ngd)]) λt=>bnd (rng (ρ:=Ctl (Int×(List Ngd)×(BxR 79 77 CEn)) (Crt×Err)) (λ(u:Nat)(v:Opr)(c:Int×(BxR 79 77 CEn))=>bnd (W5 (a.1.x.dist+v.cost)) λh=>bnd (if m<0 then(some (.done 0))else(if m<=h then(some (.ret (.next (c.1,c.2))))else(some (.done h))):Option (Fin Int (Ctl (Int×(BxR 79 77 CEn)) (Ctl (Int×(List Ngd)×(BxR 79 77 CEn)) (Crt×Err))))) λw=>fin w λ(y:Int)=>bnd (CU o (u:Int) a.1.x.facts) λd=>if d.2.n≠0 then(some (.ret (.ret ((⟨0,([]:List Ngd)⟩:Crt),(⟨d.2.n⟩:Err)))))else(bnd (rng (ρ:=Ctl (Int×(BxR 79 77 CEn)) (Ctl (Int×(List Ngd)×(BxR 79 77 CEn)) (Crt×Err))) (λ(F:Nat)(z:List Fct)(e:Int×(BxR 79 77 CEn))=>bnd (Df e.2 (⟨(⟨z,y,e.1⟩:CEn)⟩:An 77 CEn)) λA=>bnd (W5 (e.1+1)) λB=>some (.next (B,A))) d.1 0 (c.1,c.2)) λf=>fin f λ(i:Int×(BxR 79 77 CEn))=>some (.next (i.1,i.2)))) o.ops 0 (b.1,a.2)) λg=>fin g λ(j:Int×(BxR 79 77 CEn))=>some (.next (j.1,t,j.2))))else(some (.brk (b.1,b.2.1,b.2.2)))) (1,([]:List Ngd),(⟨[(⟨E,0,0⟩:CEn)]⟩:BxR 79 77 CEn))) λk=>fin k λ(C:Int×(List Ngd)×(BxR 79 77 CEn))=>some ((⟨m,C.2.1⟩:Crt),(⟨0⟩:Err)))else some ((⟨0,([]:List Ngd)⟩:Crt),(⟨1⟩:Err)))
theorem Ks{w:World}{A:Nat→Prop}(hA:∀k,A k→k<w.heap.size){vx0:Value}{x0:Tsk}(x4:Vb w A vx0 x0){x1:Int}(rx1:W1 x1){x2:Int}(rx2:W1 x2){r:Crt×Err}(hm:Dc x0 x1 x2=some r) :
    Fn prog 11 [vx0,(.int .i64 x1),(.int .i64 x2)] w λv w'=>Ext w w'/\T2 w' (upA A w w') v r:=by
 obtain⟨O,hB,xB⟩:=enter hA;obtain⟨yB,rfl,v5,v6,v7,v8,rfl,h9,h7,i7,y4⟩:=id x4;obtain⟨j4,k4,rfl⟩:=h9.form;obtain⟨l4,m4,rfl⟩:=h7.form;obtain⟨n4,o4,rfl⟩:=i7.form;obtain⟨t2,u2,rfl⟩:=y4.form;refine AG func11 rfl ntmps11 ?_;unfold Dc at hm;refine Aj (Ae (Ea 2 O rfl λn2 zB z7 a8 i0=>?_));refine BL 3 z7 λd2 b8 j7 k7 b0=>?_;refine Au rfl (o_z (Aj (Aj (Ae ?_))));replace i0:=i0.st k7;refine BE (hl:=rfl) (hc:=(i0.1).cellsAt) rfl ?_;obtain⟨aC,c8,hm⟩:=bs hm;replace hB:=(hB.st a8).st k7;refine BO (O:=j7) (FY (λ_ h=>h) (Vb.mono (F:=Fr 0 b8 j7) (x4.zs hA hB) Fr.lt) c8) rfl λbC cC l7 e2 d8=>?_;obtain⟨rfl,e8⟩:=d8.err;refine Au rfl (o_z (Aj (Ae (Ar rfl (Cy rfl (λz4=>?_) λz4=>?_)))))
 ·replace hm:=ip hm z4;refine o_z (Am rfl (Aj (Ae (CK rfl rfl ?_))));refine ac ?_;replace b0:=b0.st e2;refine AR b0 rfl rfl rfl (Bg) (allOne) λf8 g8 b0=>?_;refine Au rfl (o_z (AD ?_));obtain rfl:=sm hm;replace hB:=(hB.st e2).st g8;exact X3 rfl (CC (cs:=[(.int .i64 0),(.slice none 0 0)]) rfl rfl b0.1.cellsAt) (AC rfl) ⟨hB.ext,_,_,rfl,(Vb.mono (F:=Fr 0 f8 l7) (Vb.ofAgg (cs:=[(.int .i64 0),(.slice none 0 0)]) (x:=(⟨0,([]:List Ngd)⟩:Crt)) rfl ⟨_,rfl,(Vb.nil _ _),(W3 0)⟩) hB.out),(vErr e8)⟩
 replace hm:=im hm z4;refine o_z (Ah rfl (AE (Aj (Aj (Ae (Ar rfl ?_))))));obtain⟨h8,i8,hm⟩:=bs hm;refine BO (O:=l7) (ML (λ_ h=>h) rx1 i8) rfl λdC eC m7 o2 j8=>?_;obtain rfl:=j8.bool;cases h8
 case false =>
  replace hm:=iF hm;refine Cx rfl (o_z (Am rfl (Aj (Ae (CK rfl rfl ?_)))));refine Da rfl ?_;replace b0:=(b0.st e2).st o2;refine AR b0 rfl rfl rfl (Bg) (allOne) λk8 l8 b0=>?_;refine Au rfl (o_z (AD ?_));obtain rfl:=sm hm;replace hB:=((hB.st e2).st o2).st l8;exact X3 rfl (CC (cs:=[(.int .i64 0),(.slice none 0 0)]) rfl rfl b0.1.cellsAt) (AC rfl) ⟨hB.ext,_,_,rfl,(Vb.mono (F:=Fr 0 k8 m7) (Vb.ofAgg (cs:=[(.int .i64 0),(.slice none 0 0)]) (x:=(⟨0,([]:List Ngd)⟩:Crt)) rfl ⟨_,rfl,(Vb.nil _ _),(W3 0)⟩) hB.out),(vErr (by decide))⟩
 replace hm:=iT hm;refine Cw rfl (o_z (Ah rfl (AE (Aj (Ae (Ar rfl (CK rfl rfl ?_)))))));refine BL 4 m7 λf2 fC n7 j3 g0=>?_;refine AR g0 rfl rfl rfl (Bg) (allOne) λgC k3 g0=>?_;refine o_z (Aj (Aj (Ae (Ar rfl (EH rfl rfl (λa5=>?_) λa5=>?_)))))
 ·replace hm:=ip hm a5;refine o_z (Am rfl (Aj (Ae (BE (hl:=rfl) (hc:=(g0.1).cellsAt) rfl ?_))));replace b0:=(((b0.st e2).st o2).st j3).st k3;refine AR b0 rfl rfl rfl (Bg) (allOne) λm8 n8 b0=>?_;refine Au rfl (o_z (AD ?_));obtain rfl:=sm hm;replace hB:=((((hB.st e2).st o2).st j3).st k3).st n8;exact X3 rfl (CC (cs:=[(.int .i64 x1),(.slice none 0 0)]) rfl rfl b0.1.cellsAt) (AC rfl) ⟨hB.ext,_,_,rfl,(Vb.mono (F:=Fr 0 m8 n7) (Vb.ofAgg (cs:=[(.int .i64 x1),(.slice none 0 0)]) (x:=(⟨x1,([]:List Ngd)⟩:Crt)) rfl ⟨_,rfl,(Vb.nil _ _),rx1⟩) hB.out),(vErr (W3 0))⟩
 replace hm:=im hm a5;refine o_z (Ah rfl (AE (Aj (Ae (Ar rfl (PZ rfl rfl rfl (Qa rfl rfl rfl (Au rfl (o_z (Aj (Ae (AJ rfl ?_))))))))))));replace i0:=(((i0.st e2).st o2).st j3).st k3;refine AL (hc:=Blk.cell (i:=2) (i0.1) rfl) rfl ?_;obtain⟨p4,o8,hm⟩:=bs hm;replace hB:=(((hB.st e2).st o2).st j3).st k3;refine DF 5 (O:=n7) (Bt Fr.lt (i7.zs hA hB) o8) rfl λp8 q8 hC iC q4 b5=>?_;refine am ?_;obtain⟨r8,r4,b5⟩:=b5.freeze;refine CW 6 r8 (xs:=([(⟨p4,0,0⟩:CEn)]:List CEn)) rfl rfl rfl ⟨(Vb.ofAgg (cs:=[(.slice p8 p4.length q8),(.int .i64 0),(.int .i64 0)]) (x:=(⟨p4,0,0⟩:CEn)) rfl ⟨_,rfl,b5,(W3 0),(W3 0)⟩),trivial⟩ λjC kC s8 s4 c5=>?_;refine Ea 7 s8 rfl λp2 lC mC l3 t8=>?_;refine Au rfl (o_z (Aj (Ae (Au rfl (o_z (Aj ?_))))));replace c5:=c5.st l3;obtain⟨u8,t4,w8,x8,y8⟩:=BxR.shut (x:=(⟨[(⟨p4,0,0⟩:CEn)]⟩:BxR 79 77 CEn)) (l0:=7) (by decide) t8 c5;obtain⟨m3,d5,hm⟩:=bs hm;refine Bc (aft m3 (λ(i1:Int×(List Ngd)×(BxR 79 77 CEn))(j1:(Option Addr×Nat))=>[(6,(.pointer (some ⟨d2,0,none⟩))),(9,(.pointer (some ⟨f2,0,none⟩)))]) (λi1 j1 w'=>∃O':Lab,Bs w A w' O'/\Lc 3 w' O' d2 44 [(.int .i64 0),(.slice none 0 0)]/\Lc 4 w' O' f2 44 [(.int .i64 x1),(.slice j1.1 i1.2.1.length j1.2)]/\Rw 10 w' O' 85 (.slice j1.1 i1.2.1.length j1.2) i1.2.1/\W1 i1.1)) ?_ ?_
 ·refine BC ?_;have y1:=(((q4.an r4).an s4).an l3).an t4;replace hB:=hB.st y1;replace i0:=i0.st y1;replace b0:=((((((((b0.st e2).st o2).st j3).st k3).st q4).st r4).st s4).st l3).st t4;replace g0:=g0.st y1;refine GB (σ:=Int×(List Ngd)×(BxR 79 77 CEn)) (X:=(Option Addr×Nat)) d5 (λ(i1:Int×(List Ngd)×(BxR 79 77 CEn))(j1:(Option Addr×Nat))=>[(1,(.int .i64 x1)),(2,(.int .i64 (max 0 (min x2 4096)))),(3,(.pointer (some ⟨n2,0,none⟩))),(6,(.pointer (some ⟨d2,0,none⟩))),(9,(.pointer (some ⟨f2,0,none⟩))),(10,(.pointer (some ⟨p2,0,none⟩))),(11,(.int .i64 i1.1))]) _ (λi1 j1 w'=>∃O':Lab,Bs w A w' O'/\Lc 2 w' O' n2 26 [(.slice j4 x0.vars.length k4),(.slice l4 x0.init.length m4),(.slice n4 x0.goal.length o4),(.slice t2 x0.ops.length u2)]/\Lc 3 w' O' d2 44 [(.int .i64 0),(.slice none 0 0)]/\Lc 4 w' O' f2 44 [(.int .i64 x1),(.slice j1.1 i1.2.1.length j1.2)]/\Rw 10 w' O' 85 (.slice j1.1 i1.2.1.length j1.2) i1.2.1/\Ob 7 w' O' (.pointer (some ⟨p2,0,none⟩)) i1.2.2/\W1 i1.1) _ (none,0) ⟨u8,hB,i0,b0,g0,(Rw.nil 10 (by decide)),y8,(W3 1)⟩ D2 ?_;rintro i1 j1 nC z8 ⟨oC,hB,i0,b0,g0,m0,e5,g2⟩ a0 a1 h2;refine Aj (Aj (Ae (Ar rfl (Cm rfl ?_))));obtain⟨f5,a9,b1,o7,k1,d1⟩:=BxR.opn e5 7 8 (by decide);obtain⟨b9,c9,rfl⟩:=d1.form;refine AL (hc:=Blk.cell (i:=0) (k1.1) rfl) rfl ?_;obtain⟨d9,g5,a0⟩:=bs a0;refine BO (O:=f5) (GG (λ_ h=>h) (d1).all g5) rfl λe9 f9 g9 o0 h5=>?_;obtain⟨rfl,i9⟩:=h5.int;refine Cq rfl rfl (λv2=>?_) λv2=>?_
  ·replace a0:=ip a0 v2;refine o_z (Am rfl (AE (BC (Aj (Ae (Ar rfl (Ki rfl ?_)))))));replace k1:=k1.st o0;replace d1:=d1.st o0;obtain⟨i5,e1,p7,q7,j5⟩:=BxR.shut (x:=i1.2.2) (l0:=7) (by decide) k1 d1;obtain⟨f0,k5,a0⟩:=bs a0;refine BM (O:=i5) (Kd j5 k5) rfl λj9 k9 l5 f1 m5=>?_;obtain⟨i2,n5⟩:=m5;obtain⟨l9,rfl,o5⟩:=n5.any;obtain⟨r7,rfl,m9,rfl,d0,p5,n9⟩:=o5;obtain⟨l1,m1,rfl⟩:=d0.form;refine Qg rfl rfl (Ar rfl (AZ rfl rfl (AZ rfl rfl ?_)));refine BL 9 l5 λw1 o9 q5 q0 c0=>?_;refine AR c0 rfl rfl rfl (Bg) (allOne) λp9 r0 c0=>?_;refine Au rfl (o_z (Aj (Aj (Ae (AJ rfl (AL (hc:=Blk.cell (i:=0) (c0.1) rfl) rfl (AJ rfl ?_)))))));replace g0:=(((((g0.st b1).st o0).st e1).st f1).st q0).st r0;refine AL (hc:=Blk.cell (i:=1) (g0.1) rfl) rfl ?_;obtain⟨r5,s5,a0⟩:=bs a0;replace m0:=(((((m0.st b1).st o0).st e1).st f1).st q0).st r0;replace d0:=(d0.st q0).st r0;refine BO (O:=q5) (LX (λ_ h=>h) (vMo d0) (m0).all s5) rfl λq9 t5 n3 n0 u5=>?_;obtain rfl:=u5.bool;cases r5
   case false =>
    replace a0:=iF a0;refine o_z (Ah rfl (AE (Aj (Aj (Ae (AJ rfl ?_))))));replace c0:=c0.st n0;refine AL (hc:=Blk.cell (i:=0) (c0.1) rfl) rfl (AJ rfl ?_);replace i0:=((((((i0.st b1).st o0).st e1).st f1).st q0).st r0).st n0;refine AL (hc:=Blk.cell (i:=1) (i0.1) rfl) rfl ?_;obtain⟨w5,x5,a0⟩:=bs a0;replace hB:=((((((hB.st b1).st o0).st e1).st f1).st q0).st r0).st n0;replace d0:=d0.st n0;refine BO (O:=n3) (FX (λ_ h=>h) (vMo d0) (Vb.mono (F:=Fr 0 t5 n3) (h7.zs hA hB) Fr.lt) x5) rfl λr9 s9 o3 p0 y5=>?_;obtain rfl:=y5.bool;cases w5
    case false =>
     replace a0:=iF a0;refine o_z (Ah rfl (AE (Aj (Aj (Ae (AJ rfl ?_))))));replace g0:=(g0.st n0).st p0;refine AL (hc:=Blk.cell (i:=1) (g0.1) rfl) rfl (AO rfl ?_);replace m0:=(m0.st n0).st p0;have z5:=Bj m0.len;have t9:=rngNat z5;refine Ar rfl (EH rfl rfl (λw2=>?_) λw2=>?_)
     ·replace a0:=ip a0 w2;refine o_z (Am rfl (Aj (Ae (CK rfl rfl ?_))));refine Da rfl ?_;replace b0:=(((((((b0.st b1).st o0).st e1).st f1).st q0).st r0).st n0).st p0;refine AR b0 rfl rfl rfl (Bg) (allOne) λa6 b6 b0=>?_;refine Au rfl (o_z (AD ?_));obtain rfl:=sm a0;obtain rfl:=a1 _ rfl;obtain rfl:=sm (Bp hm);replace hB:=(hB.st p0).st b6;exact X3 rfl (CC (cs:=[(.int .i64 0),(.slice none 0 0)]) rfl rfl b0.1.cellsAt) (AC rfl) ⟨hB.ext,_,_,rfl,(Vb.mono (F:=Fr 0 a6 o3) (Vb.ofAgg (cs:=[(.int .i64 0),(.slice none 0 0)]) (x:=(⟨0,([]:List Ngd)⟩:Crt)) rfl ⟨_,rfl,(Vb.nil _ _),(W3 0)⟩) hB.out),(vErr (by decide))⟩
     replace a0:=im a0 w2;refine o_z (Ah rfl (AE (Aj (Ae (AJ rfl (AL (hc:=Blk.cell (i:=1) (g0.1) rfl) rfl (AJ rfl ?_)))))));replace c0:=c0.st p0;refine AL (hc:=Blk.cell (i:=0) (c0.1) rfl) rfl (AJ rfl (AL (hc:=Blk.cell (i:=1) (c0.1) rfl) rfl (CK rfl rfl ?_)));obtain⟨c1,y2,a0⟩:=bs a0;obtain⟨y2,c6,d6⟩:=Bw y2;replace d0:=d0.st p0;refine Dl rfl (a:=(⟨f0.1.x.facts,f0.1.x.dist⟩:Ngd)) m0 (Vb.ofAgg (cs:=[(.slice l1 f0.1.x.facts.length m1),(.int .i64 f0.1.x.dist)]) (x:=(⟨f0.1.x.facts,f0.1.x.dist⟩:Ngd)) rfl ⟨_,rfl,d0,p5⟩) (λ_=>rfl) rfl c6 d6 ⟨rfl,rfl⟩ λu9 n1 o1 v9 e6 p1 h0=>?_;rw[<- y2]at h0 ⊢;refine AJ rfl ?_;replace g0:=g0.st p1;refine AR g0 rfl rfl rfl (Bg) (allOne) λw9 q1 g0=>?_;refine o_z (Aj (Ae (AJ rfl ?_)));replace i0:=((i0.st p0).st p1).st q1;refine AL (hc:=Blk.cell (i:=3) (i0.1) rfl) rfl (AO rfl ?_);have z2:=Bj y4.len;have x9:=rngNat z2;refine Ar rfl (o_z ?_);obtain⟨f6,p3,a0⟩:=bs a0;replace hB:=((hB.st p0).st p1).st q1;replace b0:=(((((((((b0.st b1).st o0).st e1).st f1).st q0).st r0).st n0).st p0).st p1).st q1;replace i2:=(((((i2.st q0).st r0).st n0).st p0).st p1).st q1;replace d0:=(d0.st p1).st q1;replace c0:=(c0.st p1).st q1;replace h0:=h0.st q1;refine Dg (X:=Unit) (x0.ops.length) p3 rfl z2 (λr1 q3=>[(1,(.int .i64 x1)),(2,(.int .i64 (max 0 (min x2 4096)))),(3,(.pointer (some ⟨n2,0,none⟩))),(6,(.pointer (some ⟨d2,0,none⟩))),(9,(.pointer (some ⟨f2,0,none⟩))),(10,(.pointer (some ⟨p2,0,none⟩))),(11,(.int .i64 r1.1)),(12,(.pointer (some ⟨w1,0,none⟩))),(88,(.slice t2 x0.ops.length u2))]) (λr1 q3 w'=>∃O':Lab,Bs w A w' O'/\Lc 2 w' O' n2 26 [(.slice j4 x0.vars.length k4),(.slice l4 x0.init.length m4),(.slice n4 x0.goal.length o4),(.slice t2 x0.ops.length u2)]/\Lc 3 w' O' d2 44 [(.int .i64 0),(.slice none 0 0)]/\Lc 4 w' O' f2 44 [(.int .i64 x1),(.slice n1 c1.length o1)]/\Rw 10 w' O' 85 (.slice n1 c1.length o1) c1/\Ob 7 w' O' (.pointer (some ⟨p2,0,none⟩)) r1.2/\Lc 9 w' O' w1 77 [(.slice l1 f0.1.x.facts.length m1),(.int .i64 f0.1.x.dist),(.int .i64 f0.1.x.order)]/\Vb w' (Fr 0 w' O') (.slice l1 f0.1.x.facts.length m1) f0.1.x.facts/\W1 r1.1) () ⟨e6,hB,i0,b0,g0,h0,i2,c0,d0,g2⟩ G3 (λ_ _=>rfl) ?_ ?_
     ·rintro a3 y9 r1 q3 z9 s7 q2 ⟨g6,hB,i0,b0,g0,h0,s0,c0,d0,j2⟩ e0 k2 u4;have rk199:=YV q2 z2;refine Aj (Ae (Ar rfl ?_));obtain⟨aA,bA,t7,r3,s3,t3,cA,dA,rfl,h6,i6,eA,fA⟩:=(y4.zs hA hB).elem' q2;obtain⟨gA,iA,rfl⟩:=h6.form;obtain⟨jA,kA,rfl⟩:=i6.form;refine BA (hA:=r3) (hj:=rfl) (hlt:=s3) rfl rfl (BE (hl:=rfl) (hc:=t3) rfl ?_);refine BL 11 g6 λlA mA nA z1 b3=>?_;refine Au rfl (AR b3 rfl rfl rfl (Bg) (allOne) λoA a2 b3=>?_);refine o_z (Aj (Ae (AJ rfl ?_)));replace c0:=(c0.st z1).st a2;refine AL (hc:=Blk.cell (i:=1) (c0.1) rfl) rfl (AJ rfl (AL (hc:=Blk.cell (i:=1) (b3.1) rfl) rfl ?_));obtain⟨pA,u3,e0⟩:=bs e0;have j6:=(Bh u3);refine DM (he:=u3) rfl rfl (Au rfl (o_z (Aj ?_)));obtain⟨k6,j0,e0⟩:=bs e0;refine Bc (λl' w'=>∃(s1:Int) (l6:Unit) (O':Lab),k6=.done s1/\W4 l' [(1,(.int .i64 x1)),(2,(.int .i64 (max 0 (min x2 4096)))),(3,(.pointer (some ⟨n2,0,none⟩))),(6,(.pointer (some ⟨d2,0,none⟩))),(9,(.pointer (some ⟨f2,0,none⟩))),(10,(.pointer (some ⟨p2,0,none⟩))),(11,(.int .i64 r1.1)),(12,(.pointer (some ⟨w1,0,none⟩))),(14,(.int .i64 (a3:Int))),(16,(.int .i64 s1)),(88,(.slice t2 x0.ops.length u2)),(89,(.int .i64 (x0.ops.length:Int))),(90,(.int .i64 (a3:Int)))]/\Bs w A w' O'/\Lc 2 w' O' n2 26 [(.slice j4 x0.vars.length k4),(.slice l4 x0.init.length m4),(.slice n4 x0.goal.length o4),(.slice t2 x0.ops.length u2)]/\Lc 3 w' O' d2 44 [(.int .i64 0),(.slice none 0 0)]/\Lc 4 w' O' f2 44 [(.int .i64 x1),(.slice n1 c1.length o1)]/\Rw 10 w' O' 85 (.slice n1 c1.length o1) c1/\Ob 7 w' O' (.pointer (some ⟨p2,0,none⟩)) r1.2/\Lc 9 w' O' w1 77 [(.slice l1 f0.1.x.facts.length m1),(.int .i64 f0.1.x.dist),(.int .i64 f0.1.x.order)]/\Vb w' (Fr 0 w' O') (.slice l1 f0.1.x.facts.length m1) f0.1.x.facts/\W1 s1) ?_ ?_
      ·refine Aj (Ae (Ar rfl (Cp rfl rfl (λc3=>?_) λc3=>?_)))
       ·replace j0:=ip j0 c3;refine o_z (Am rfl (Ae (Au rfl (o_z ?_))));obtain rfl:=sm j0;have t0:=z1.an a2;exact⟨_,(),_,rfl,⟨rfl,rfl,rfl,rfl,rfl,rfl,rfl,rfl,rfl,rfl,rfl,rfl,rfl,trivial⟩,hB.st t0,i0.st t0,b0.st t0,g0.st t0,h0.st t0,s0.st t0,c0,d0.st t0,(W3 0)⟩
       replace j0:=im j0 c3;refine o_z (Ah rfl (Aj (Ae (Ar rfl (Ar rfl (Es rfl rfl (λd3=>?_) λd3=>?_))))))
       ·replace j0:=ip j0 d3;refine o_z (Am rfl (Cl ?_));obtain rfl:=sm j0;obtain rfl:=sm (Bp e0);have u0:=z1.an a2;exact show Exists _ from⟨_,(),rfl,G3,_,hB.st u0,i0.st u0,b0.st u0,g0.st u0,h0.st u0,s0.st u0,c0,d0.st u0,j2⟩
       replace j0:=im j0 d3;refine o_z (Ah rfl (AE ?_));obtain rfl:=sm j0;have v0:=z1.an a2;exact⟨_,(),_,rfl,⟨rfl,rfl,rfl,rfl,rfl,rfl,rfl,rfl,rfl,rfl,rfl,rfl,rfl,trivial⟩,hB.st v0,i0.st v0,b0.st v0,g0.st v0,h0.st v0,s0.st v0,c0,d0.st v0,j6⟩
      have w0:=z1.an a2;replace hB:=hB.st w0;replace i0:=i0.st w0;replace b0:=b0.st w0;replace g0:=g0.st w0;replace d0:=d0.st w0;replace h0:=h0.st w0;replace s0:=s0.st w0;rintro qA rA ⟨s1,l6,m6,rfl,v3,hB,i0,b0,g0,h0,s0,c0,d0,n6⟩;replace e0:=AW e0;refine AQ _ v3 ?_;refine Aj (Ae (BE (hl:=rfl) (hc:=(i0.1).cellsAt) rfl (Ar rfl (AJ rfl (AL (hc:=Blk.cell (i:=0) (c0.1) rfl) rfl ?_)))));obtain⟨b2,o6,e0⟩:=bs e0;refine Ey (O:=m6) (R:=λw' F v=>T2 w' F v b2) (Jb Fr.lt (x4.zs hA hB) rk199 d0 o6) rfl λsA tA w3 z0 p6=>?_;obtain⟨uA,vA,rfl,t1,q6⟩:=p6;obtain⟨x3,y3,rfl⟩:=t1.form;obtain⟨rfl,r6⟩:=q6.err;refine Ar rfl (AZ rfl rfl (AZ rfl rfl (Au rfl (Au rfl (o_z (Aj (Aj (Ae (Ar rfl (Cy rfl (λe3=>?_) λe3=>?_))))))))))
      ·replace e0:=ip e0 e3;refine o_z (Am rfl (Aj (Ae (CK rfl rfl ?_))));refine ac ?_;replace b0:=b0.st z0;refine AR b0 rfl rfl rfl (Bg) (allOne) λs6 t6 b0=>?_;refine Au rfl (o_z (AD ?_));obtain rfl:=sm e0;obtain rfl:=k2 _ rfl;obtain rfl:=sm (Bp a0);obtain rfl:=a1 _ rfl;obtain rfl:=sm (Bp hm);replace hB:=(hB.st z0).st t6;exact X3 rfl (CC (cs:=[(.int .i64 0),(.slice none 0 0)]) rfl rfl b0.1.cellsAt) (AC rfl) ⟨hB.ext,_,_,rfl,(Vb.mono (F:=Fr 0 s6 w3) (Vb.ofAgg (cs:=[(.int .i64 0),(.slice none 0 0)]) (x:=(⟨0,([]:List Ngd)⟩:Crt)) rfl ⟨_,rfl,(Vb.nil _ _),(W3 0)⟩) hB.out),(vErr r6)⟩
      replace e0:=im e0 e3;refine o_z (Ah rfl (AE (Aj (Ae (Ar rfl (AO rfl ?_))))));have f3:=Bj t1.len;have wA:=rngNat f3;refine Ar rfl (o_z ?_);obtain⟨u6,z3,e0⟩:=bs e0;replace hB:=hB.st z0;replace i0:=i0.st z0;replace b0:=b0.st z0;replace g0:=g0.st z0;replace d0:=d0.st z0;replace c0:=c0.st z0;replace h0:=h0.st z0;replace s0:=s0.st z0;refine Dg (X:=Unit) (b2.1.length) z3 rfl f3 (λu1 a4=>[(1,(.int .i64 x1)),(2,(.int .i64 (max 0 (min x2 4096)))),(3,(.pointer (some ⟨n2,0,none⟩))),(6,(.pointer (some ⟨d2,0,none⟩))),(9,(.pointer (some ⟨f2,0,none⟩))),(10,(.pointer (some ⟨p2,0,none⟩))),(11,(.int .i64 u1.1)),(12,(.pointer (some ⟨w1,0,none⟩))),(16,(.int .i64 s1)),(88,(.slice t2 x0.ops.length u2)),(89,(.int .i64 (x0.ops.length:Int))),(90,(.int .i64 (a3:Int))),(117,(.slice x3 b2.1.length y3))]) (λu1 a4 w'=>∃O':Lab,Bs w A w' O'/\Lc 2 w' O' n2 26 [(.slice j4 x0.vars.length k4),(.slice l4 x0.init.length m4),(.slice n4 x0.goal.length o4),(.slice t2 x0.ops.length u2)]/\Lc 3 w' O' d2 44 [(.int .i64 0),(.slice none 0 0)]/\Lc 4 w' O' f2 44 [(.int .i64 x1),(.slice n1 c1.length o1)]/\Rw 10 w' O' 85 (.slice n1 c1.length o1) c1/\Ob 7 w' O' (.pointer (some ⟨p2,0,none⟩)) u1.2/\Lc 9 w' O' w1 77 [(.slice l1 f0.1.x.facts.length m1),(.int .i64 f0.1.x.dist),(.int .i64 f0.1.x.order)]/\Vb w' (Fr 0 w' O') (.slice l1 f0.1.x.facts.length m1) f0.1.x.facts/\Vb w' (Fr 0 w' O') (.slice x3 b2.1.length y3) b2.1/\W1 u1.1) () ⟨w3,hB,i0,b0,g0,h0,s0,c0,d0,t1,j2⟩ ⟨rfl,rfl,rfl,rfl,rfl,rfl,rfl,rfl,rfl,rfl,rfl,rfl,rfl,rfl,rfl,trivial⟩ (λ_ _=>rfl) ?_ ?_
      ·rintro xA b4 u1 a4 yA u7 r2 ⟨w6,hB,i0,b0,g0,h0,g3,c0,d0,t1,h3⟩ g1 v4 w4;have rk275:=YV r2 f3;refine Aj (Ae ?_);obtain⟨zA,aB,w7,c4,d4,e4,bB,rfl,l2⟩:=t1.elem' r2;replace l2:=Vb.of_slice l2;obtain⟨x6,y6,rfl⟩:=l2.form;refine BA (hA:=c4) (hj:=rfl) (hlt:=d4) rfl rfl (AL (hc:=cat0 e4) rfl (Au rfl (o_z (Aj (Ae (Ar rfl (Ki rfl (Ar rfl (Ar rfl (Ar rfl (CK rfl rfl ?_)))))))))));refine Ki rfl ?_;obtain⟨cB,z6,g1⟩:=bs g1;refine BM (O:=w6) (JV g3 (Aaw (Vb.ofAgg (cs:=[(.slice x6 b4.length y6),(.int .i64 s1),(.int .i64 u1.1)]) (x:=(⟨b4,s1,u1.1⟩:CEn)) rfl ⟨_,rfl,l2,n6,h3⟩)) z6) rfl λdB eB fB h1 a7=>?_;refine o_z (Ae (Ar rfl ?_));obtain⟨gB,f4,g1⟩:=bs g1;have b7:=(Bh f4);refine DM (he:=f4) rfl rfl (Au rfl (o_z ?_));obtain rfl:=sm g1;exact show Exists _ from⟨_,(),rfl,⟨rfl,rfl,rfl,rfl,rfl,rfl,rfl,rfl,rfl,rfl,rfl,rfl,rfl,rfl,rfl,trivial⟩,_,hB.st h1,i0.st h1,b0.st h1,g0.st h1,h0.st h1,a7,c0.st h1,d0.st h1,t1.st h1,b7⟩
      rintro iB jB ⟨kB,lB,rfl,k0,mB,hB,i0,b0,g0,h0,g3,c0,d0,t1,h3⟩;replace e0:=AW e0;obtain rfl:=sm e0;exact show Exists _ from⟨_,(),rfl,⟨(Bn k0 _ _ rfl),(Bn k0 _ _ rfl),(Bn k0 _ _ rfl),(Bn k0 _ _ rfl),(Bn k0 _ _ rfl),(Bn k0 _ _ rfl),(Bn k0 _ _ rfl),(Bn k0 _ _ rfl),(Bn k0 _ _ rfl),(Bn k0 _ _ rfl),(Bn k0 _ _ rfl),trivial⟩,_,hB,i0,b0,g0,h0,g3,c0,d0,h3⟩
     rintro nB oB ⟨pB,qB,rfl,y0,rB,hB,i0,b0,g0,h0,s0,c0,d0,j2⟩;replace a0:=AW a0;obtain rfl:=sm a0;exact show Exists _ from⟨_,(n1,o1),rfl,⟨(Bn y0 _ _ rfl),(Bn y0 _ _ rfl),(Bn y0 _ _ rfl),(Bn y0 _ _ rfl),(Bn y0 _ _ rfl),(Bn y0 _ _ rfl),(Bn y0 _ _ rfl),trivial⟩,_,hB,i0,b0,g0,h0,s0,j2⟩
    replace a0:=iT a0;refine o_z (Am rfl (Aj (Ae (CK rfl rfl ?_))));refine Da rfl ?_;replace b0:=(((((((b0.st b1).st o0).st e1).st f1).st q0).st r0).st n0).st p0;refine AR b0 rfl rfl rfl (Bg) (allOne) λc7 d7 b0=>?_;refine Au rfl (o_z (AD ?_));obtain rfl:=sm a0;obtain rfl:=a1 _ rfl;obtain rfl:=sm (Bp hm);replace hB:=(hB.st p0).st d7;exact X3 rfl (CC (cs:=[(.int .i64 0),(.slice none 0 0)]) rfl rfl b0.1.cellsAt) (AC rfl) ⟨hB.ext,_,_,rfl,(Vb.mono (F:=Fr 0 c7 o3) (Vb.ofAgg (cs:=[(.int .i64 0),(.slice none 0 0)]) (x:=(⟨0,([]:List Ngd)⟩:Crt)) rfl ⟨_,rfl,(Vb.nil _ _),(W3 0)⟩) hB.out),(vErr (by decide))⟩
   replace a0:=iT a0;refine o_z (Am rfl (Cl ?_));obtain rfl:=sm a0;have c2:=(((((b1.an o0).an e1).an f1).an q0).an r0).an n0;exact show Exists _ from⟨_,(j1.1,j1.2),rfl,D2,_,hB.st c2,i0.st c2,b0.st c2,g0.st n0,m0.st n0,((i2.st q0).st r0).st n0,g2⟩
  replace a0:=im a0 v2;refine o_z (Ah rfl (Cl ?_));replace k1:=k1.st o0;replace d1:=d1.st o0;obtain⟨sB,e7,x7,y7,tB⟩:=BxR.shut (x:=i1.2.2) (l0:=7) (by decide) k1 d1;obtain rfl:=sm a0;have v1:=(b1.an o0).an e7;exact show Exists _ from⟨_,(j1.1,j1.2),h2 _ rfl,D4,_,hB.st v1,b0.st v1,g0.st v1,m0.st v1,g2⟩
 have s2:=(((q4.an r4).an s4).an l3).an t4;replace hB:=hB.st s2;replace b0:=((((((((b0.st e2).st o2).st j3).st k3).st q4).st r4).st s4).st l3).st t4;replace g0:=g0.st s2;rintro uB vB ⟨i3,m2,rfl,g4,wB,hB,b0,g0,m0,g2⟩;replace hm:=AW hm;refine AQ _ g4 ?_;refine Aj (Ae (BE (hl:=rfl) (hc:=(g0.1).cellsAt) rfl ?_));refine AR b0 rfl rfl rfl (Bg) (allOne) λf7 h4 b0=>?_;refine Au rfl (o_z (AD ?_));replace m0:=m0.st h4;obtain⟨g7,i4,m0⟩:=m0.freeze;obtain rfl:=sm hm;replace hB:=(hB.st h4).st i4;replace b0:=b0.st i4;exact X3 rfl (CC (cs:=[(.int .i64 x1),(.slice m2.1 i3.2.1.length m2.2)]) rfl rfl b0.1.cellsAt) (AC rfl) ⟨hB.ext,_,_,rfl,(Vb.mono (F:=Fr 0 f7 g7) (Vb.ofAgg (cs:=[(.int .i64 x1),(.slice m2.1 i3.2.1.length m2.2)]) (x:=(⟨x1,i3.2.1⟩:Crt)) rfl ⟨_,rfl,m0,rx1⟩) hB.out),(vErr (W3 0))⟩
end
section
open Go Go.RowKit
inductive PlanR(t:Tsk):List Int->List Int->List Int->Int->Prop
  |nil {s:List Int}:PlanR t s [] s 0
  |cons {s rest s':List Int} {k:Nat} {o:Opr} {C:Int}:t.ops[k]?=some o->holdsB o.pre s=true->PlanR t (succ o s) rest s' C->PlanR t s ((k:Int)::rest) s' (o.cost+C)
theorem GK(f:List Fct)(s:List Int):DJ f s=some (holdsB f s):=rfl
theorem Ug{t:Tsk}(v:TaskOk t){s a l:List Int}{C:Int}(hr:PlanR t s a l C):∀(j:Nat)(c:Int),StateOk t.vars s->0<=c->c+a.length*1048576<=1000000000000000 ->
    rng (ρ:=Int×Bool) (λ(_:Nat)(f:Int)(g:(List Int)×Int)=>bnd (EN t g.1 f) λb=>if(!b.2)=true then(some (.ret (0,false)))else(bnd (atI t.ops f) λd=>bnd (W5 (g.2+d.cost)) λe=>some (.next (b.1,e)))) a j (s,c)=some (.done (l,c+C)):=by
  induction hr with
  |nil=>intro j c _ _ _;simp[rng]
  |@cons s m l k o C i n hr p =>
    intro j c hs hc hb;simp only[M8]at hb;have h:=v.2.2.2.2.2 k o i;have r:=h.1;have u:=h.2.1;have q:(bnd (EN t s (k:Int)) λb=>if(!b.2)=true then(some (.ret (0,false)))else(bnd (atI t.ops (k:Int)) λd=>bnd (W5 (c+d.cost)) λe=>some (.next (b.1,e))):Option (Ctl (List Int×Int) (Int×Bool)))=some (.next (succ o s,c+o.cost)):=by
      rw[Ud v hs i,if_pos n,At,if_neg (by simp),BD,i,At,Br (by unfold W1;omega),At]
    simp only[rng,q];rw[p (j+1) (c+o.cost) (IB v hs i) (by omega) (by omega),Int.add_assoc]
theorem Sy{t:Tsk}(c:TaskOk t){s a b:List Int}{C:Int}(hs:StateOk t.vars s)(hr:PlanR t s a b C)(hl:a.length<=1000):Gw t s a=some (C,holdsB t.goal b):=by
  unfold Gw;rw[Ug c hr 0 0 hs (by omega) (by omega),At,BH,Lr,At,Int.zero_add];cases holdsB t.goal b<;>rfl
end
section
open Go Go.RowKit
def dNx(b a c:Int):Option Int:=if b<0 then some 0 else if b<=a+c then none else some (a+c)
def CovN(N:List Ngd)(p:List Fct)(a:Int):Prop:=∃m∈N,m.dist<=a/\ctn p m.facts=true
def Pend(N:List Ngd)(q:List CEn)(p:List Fct)(a:Int):Prop:=CovN N p a\/∃x∈q,x.facts=p/\x.dist=a
def EnOk(t:Tsk)(b:Int)(f:List Fct)(a:Int):Prop:=FactsOk t.vars f/\0<=a/\(b<0->a=0)/\(0<=b->a<b)/\∀s,StateOk t.vars s->holdsB f s=true->∃C,Walk t s C/\(0<=b->C<=a)
def Acb(t:Tsk)(b:Int)(N:List Ngd)(P:List Fct->Int->Prop):Prop:=∀n∈N,∀(i:Nat) o,t.ops[i]?=some o->∀a,dNx b n.dist o.cost=some a->∀L,CU t (i:Int) n.facts=some (L,⟨0⟩)->∀p∈L,P p a
structure LowI(t:Tsk)(b:Int)(N:List Ngd)(q:List CEn):Prop where
  en:∀x∈q,EnOk t b x.facts x.dist
  ng:∀n∈N,EnOk t b n.facts n.dist/\holdsB n.facts t.init=false
  nd:(N.map (·.facts)).Nodup
  le:∀n∈N,∀x∈q,n.dist<=x.dist
  gl:Pend N q t.goal 0
  cl:Acb t b N (Pend N q)
structure CertOk(t:Tsk)(b:Int)(N:List Ngd):Prop where
  len:N.length<=1024
  ng:∀n∈N,EnOk t b n.facts n.dist/\holdsB n.facts t.init=false
  gl:b≠0->CovN N t.goal 0
  cl:Acb t b N (CovN N)
theorem Pend.mono{N:List Ngd}{q a:List CEn}{p:List Fct}{c:Int}(d:Pend N q p c)(b:∀x∈q,x∈a):Pend N a p c:=by
  rcases d with d|⟨x,hx,d⟩
  . exact .inl d
  . exact .inr ⟨x,b x hx,d⟩
theorem CovN.snoc{N:List Ngd}{n:Ngd}{p:List Fct}{a:Int}(b:CovN N p a):CovN (N++[n]) p a:=by
  obtain⟨m,hm,b⟩:=b;exact⟨m,G9 _ hm,b⟩
theorem Pend.pop{N:List Ngd}{q a:List CEn}{e:CEn}(b:q.Perm (e::a))(hc:CovN N e.facts e.dist){p:List Fct}{c:Int}(d:Pend N q p c):Pend N a p c:=by
  rcases d with d|⟨x,hx,h1,h2⟩
  . exact .inl d
  . rcases S0.1 (b.mem_iff.1 hx)with rfl|hx
    . exact .inl (by rw[<- h1,<- h2];exact hc)
    . exact .inr ⟨x,hx,h1,h2⟩
theorem Mg{p:List Fct}(m:Ps p)(g:p.length<=1000000){N:List Ngd}(o:∀n∈N,Ps n.facts/\n.facts.length<=1000000):∃c,Fw p N=some c/\(c=true->∃n∈N,ctn p n.facts=true)/\(c=false->∀n∈N,ctn p n.facts=false):=by
  unfold Fw BB BF;rcases Jv (ρ:=Int) (xs:=N) (s₀:=()) (f:=λ(h:Nat)(i:Ngd)(q:Unit)=>bnd (EB i p) λl=>if l=true then some (.ret (h:Int))else some (.next ())) (λk _=>∀j n,j<k->N[j]?=some n->ctn p n.facts=false) (λr=>0<=r/\∃n∈N,ctn p n.facts=true) (λj a hj=>absurd hj (by omega)) (λk n s hk t=>by
    have hm:=H1 hk;obtain⟨d,h2⟩:=o n hm;unfold EB;rw[RI g h2 m d,At];cases hc:ctn p n.facts with
    |true=>rw[Cd,At,At,Cd];exact .inr ⟨_,rfl,by omega,n,hm,hc⟩
    |false =>
      rw[BY,At,At,BY];refine .inl ⟨_,rfl,λj u hj b=>?_⟩;by_cases e:j=k
      . subst e;rw[hk]at b;obtain rfl:=Q1 b;exact hc
      . exact t j u (by omega) b)with⟨s,d,h2⟩|⟨r,d,h2,h3⟩
  . rw[d,At,BH,At,if_neg (by decide),At,At,BY,At];refine⟨_,rfl,λv=>(by cases v),λ_ n hn=>?_⟩;obtain⟨k,hk⟩:=H4 hn;exact h2 k n (AF hk) hk
  . rw[d,At,II,At,if_pos h2,At,At,Cd,At];exact⟨_,rfl,λ_=>h3,λv=>by cases v⟩
theorem Vu{σ ρ:Type}{x:Option (Ctl σ ρ)}{I:σ->Prop}{b:σ->Prop}(c:∃r,x=some r/\∃a,r=Ctl.next a/\I a/\b a):∃a,x=some (.next a)/\I a/\b a:=by
  obtain⟨r,h1,a,rfl,h2⟩:=c;exact⟨a,h1,h2⟩
section
variable {t:Tsk}{b:Int}
theorem EnOk.back(a:TaskOk t){f:List Fct}{e:Int}(k:EnOk t b f e){i:Nat}{o:Opr}(c:t.ops[i]?=some o){l:Int}(hd:dNx b e o.cost=some l){p:List Fct}(g:AbX t.vars o f p):EnOk t b p l/\e<=l:=by
  have hc:=(a.2.2.2.2.2 i o c).1;obtain⟨_,h1,h2,h3,h4⟩:=k;unfold dNx at hd;by_cases hb:b<0
  . rw[if_pos hb]at hd;obtain rfl:=Q1 hd;refine⟨⟨g.1,by omega,λ_=>rfl,λk=>by omega,λs hs h=>?_⟩,by have:=h2 hb;omega⟩;obtain⟨j,g2⟩:=g.2 s hs h;obtain⟨C,hC,_⟩:=h4 _ (IB a hs c) g2;exact⟨_,Walk.step c j hC,λk=>by omega⟩
  . rw[if_neg hb]at hd;by_cases d:b<=e+o.cost
    . rw[if_pos d]at hd;cases hd
    . rw[if_neg d]at hd;obtain rfl:=Q1 hd;refine⟨⟨g.1,by omega,λk=>by omega,λ_=>by omega,λs hs h=>?_⟩,by omega⟩;obtain⟨j,g2⟩:=g.2 s hs h;obtain⟨C,hC,hle⟩:=h4 _ (IB a hs c) g2;exact⟨_,Walk.step c j hC,λk=>by have:=hle k;omega⟩
structure OpsI(t:Tsk)(b:Int)(e:CEn)(q0:List CEn)(n0:Int)(k:Nat)(s:Int×CQ):Prop where
  hp:X8 (qsC s.2.l)
  old:∀x∈q0,x∈s.2.l
  new:∀x∈s.2.l,x∈q0\/(EnOk t b x.facts x.dist/\e.dist<=x.dist)
  cl:∀(i:Nat) o,i<k->t.ops[i]?=some o->∀d,dNx b e.dist o.cost=some d->∀L,CU t (i:Int) e.facts=some (L,⟨0⟩)->∀p∈L,∃x∈s.2.l,x.facts=p/\x.dist=d
  len:s.2.l.length<=q0.length+k*1024
  no:0<=s.1/\s.1<=n0+(k:Int)*1024
theorem XR(hok:TaskOk t)(hC:ZD t.vars)(hops:t.ops.length≤200)(hb2:b≤1099511627776){e:CEn}(he:EnOk t b e.facts e.dist){q0:CQ}(hq0:X8 (qsC q0.l))(hl0:q0.l.length≤300000000){n0:Int}(hn0:0≤n0∧n0≤300000000){X:Type}{k:Fin (Int×CQ) (Ctl (Int×List Ngd×CQ) (Crt×Err))→Option X}{P:X→Prop}(hk:∀s,OpsI t b e q0.l n0 t.ops.length s→∃r,k (.done s)=some r∧P r) :
    ∃r,bnd (rng (ρ:=Ctl (Int×(List Ngd)×CQ) (Crt×Err)) (λ(k199:Nat)(a200:Opr)(s197:Int×CQ)=>bnd (W5 (e.dist+a200.cost)) λn238=>bnd (if b<0 then(some (.done 0))else(if b<=n238 then(some (.ret (.next (s197.1,s197.2))))else(some (.done n238))):Option (Fin Int (Ctl (Int×CQ) (Ctl (Int×(List Ngd)×CQ) (Crt×Err))))) λy241=>fin y241 λ(s243:Int)=>bnd (CU t (k199:Int) e.facts) λq252=>if q252.2.n≠0 then(some (.ret (.ret ((⟨0,([]:List Ngd)⟩:Crt),(⟨q252.2.n⟩:Err)))))else(bnd (rng (ρ:=Ctl (Int×CQ) (Ctl (Int×(List Ngd)×CQ) (Crt×Err))) (λ(k275:Nat)(a276:List Fct)(s273:Int×CQ)=>bnd (Df s273.2 (⟨(⟨a276,s243,s273.1⟩:CEn)⟩:CA)) λq301=>bnd (W5 (s273.1+1)) λn309=>some (.next (n309,q301))) q252.1 0 (s197.1,s197.2)) λres271=>fin res271 λ(s316:Int×CQ)=>some (.next (s316.1,s316.2)))) t.ops 0 (n0,q0)) k=some r/\P r:=by
  refine ED (λi s=>OpsI t b e q0.l n0 i s) (λ_=>False) ⟨hq0,λx hx=>hx,λx hx=>.inl hx,λi o hi=>absurd hi (by omega),by dsimp only;omega,by dsimp only;omega⟩ (λi o s hi hI=>.inl ?_) hk (λq hq=>hq.elim);have hil:=AF hi;have hoo:=hok.2.2.2.2.2 i o hi;obtain⟨hf,h1,h2,h3,h4⟩:=he;have hcost:=hoo.1;have hcost2:=hoo.2.1;have hd40:e.dist<=1099511627776:=by
    by_cases hb:b<0
    . have:=h2 hb;omega
    . have:=h3 (by omega);omega
  rw[Br (by unfold W1;omega),At];have hlen:=hI.len;have hno:=hI.no;have skip:dNx b e.dist o.cost=none->∃s',some (Ctl.next (ρ:=Ctl (Int×(List Ngd)×CQ) (Crt×Err)) (s.1,s.2))=some (.next s')/\OpsI t b e q0.l n0 (i+1) s':=λhd=>by
    refine⟨_,rfl,hI.hp,hI.old,hI.new,λj o' hj ho' d hd' L hL p hp=>?_,U8 hlen (Nat.add_le_add_left (G8 _ (Nat.le_succ i)) _),hno.1,(by show s.1<=n0+((i+1:Nat):Int)*1024;omega)⟩;by_cases ej:j=i
    . subst ej;rw[hi]at ho';obtain rfl:=Q1 ho';rw[hd]at hd';cases hd'
    . exact hI.cl j o' (by omega) ho' d hd' L hL p hp
  have push:∀d,dNx b e.dist o.cost=some d->∃s',(fin (.done d:Fin Int (Ctl (Int×CQ) (Ctl (Int×(List Ngd)×CQ) (Crt×Err)))) λ(s243:Int)=>bnd (CU t (i:Int) e.facts) λq252=>if q252.2.n≠0 then(some (.ret (.ret ((⟨0,([]:List Ngd)⟩:Crt),(⟨q252.2.n⟩:Err)))))else(bnd (rng (ρ:=Ctl (Int×CQ) (Ctl (Int×(List Ngd)×CQ) (Crt×Err))) (λ(k275:Nat)(a276:List Fct)(s273:Int×CQ)=>bnd (Df s273.2 (⟨(⟨a276,s243,s273.1⟩:CEn)⟩:CA)) λq301=>bnd (W5 (s273.1+1)) λn309=>some (.next (n309,q301))) q252.1 0 (s.1,s.2)) λres271=>fin res271 λ(s316:Int×CQ)=>some (Ctl.next (ρ:=Ctl (Int×(List Ngd)×CQ) (Crt×Err)) (s316.1,s316.2))))=some (.next s')/\OpsI t b e q0.l n0 (i+1) s':=λd hd=>by
    obtain⟨L,L1,L2,L3⟩:=Oi hok hC hi hf;rw[BH,L1,At,if_neg (λh=>h rfl)];refine IA ?_;refine ED (λj(s':Int×CQ)=>X8 (qsC s'.2.l)/\(∀x∈s.2.l,x∈s'.2.l)/\(∀x∈s'.2.l,x∈s.2.l\/(x.facts∈L/\x.dist=d))/\(∀m p,m<j->L[m]?=some p->∃x∈s'.2.l,x.facts=p/\x.dist=d)/\s'.2.l.length<=s.2.l.length+j/\0<=s'.1/\s'.1<=s.1+(j:Int)) (λ_=>False) ⟨hI.hp,λx hx=>hx,λx hx=>.inl hx,λm p hm=>absurd hm (by omega),by dsimp only;omega,by dsimp only;omega,by dsimp only;omega⟩ (λj p s' hj hJ=>.inl ?_) (λs' hs=>?_) (λq hq=>hq.elim)
    . obtain⟨J1,J2,J3,J4,J5,J6,J7⟩:=hJ;have hjl:j<L.length:=AF hj;obtain⟨r,r1,r2,r3⟩:=Ue J1 (by omega) (⟨p,d,s'.1⟩:CEn);rw[r1,At,Br (by unfold W1;omega),At];refine⟨_,rfl,r2,λx hx=>r3.mem_iff.2 (H0 _ (J2 x hx)),λx hx=>?_,λm p' hm hp'=>?_,?_,by dsimp only;omega,by dsimp only;omega⟩
      . rcases S0.1 (r3.mem_iff.1 hx)with rfl|hx
        . exact .inr ⟨H1 hj,rfl⟩
        . exact J3 x hx
      . by_cases em:m=j
        . subst em;rw[hj]at hp';obtain rfl:=Q1 hp';exact⟨_,r3.mem_iff.2 K6,rfl,rfl⟩
        . obtain⟨x,hx,h⟩:=J4 m p' (by omega) hp';exact⟨x,r3.mem_iff.2 (H0 _ hx),h⟩
      . have:=r3.length_eq;dsimp only;rw[this,M8];omega
    . obtain⟨J1,J2,J3,J4,J5,J6,J7⟩:=hs;rw[BH];refine⟨_,rfl,_,rfl,J1,λx hx=>J2 x (hI.old x hx),λx hx=>?_,λm o' hm ho' d' hd' L' hL' p hp=>?_,by dsimp only at J5 ⊢;omega,by dsimp only at J6 J7 ⊢;omega⟩
      . rcases J3 x hx with h|⟨h,h'⟩
        . exact hI.new x h
        . have:=EnOk.back hok ⟨hf,h1,h2,h3,h4⟩ hi hd (L3 _ h);rw[h'];exact .inr this
      . by_cases em:m=i
        . subst em;rw[hi]at ho';obtain rfl:=Q1 ho';rw[hd]at hd';obtain rfl:=Q1 hd';rw[L1]at hL';have:L=L':=congrArg Prod.fst (Q1 hL');subst this;obtain⟨j,hj⟩:=H4 hp;exact J4 j p (AF hj) hj
        . obtain⟨x,hx,h⟩:=hI.cl m o' (by omega) ho' d' hd' L' hL' p hp;exact⟨x,J2 x hx,h⟩
  by_cases hb:b<0
  . rw[if_pos hb,At];exact push 0 (if_pos hb)
  . rw[if_neg hb];by_cases hbc:b<=e.dist+o.cost
    . rw[if_pos hbc,At,II];exact skip (by unfold dNx;rw[if_neg hb,if_pos hbc])
    . rw[if_neg hbc,At];exact push _ (by unfold dNx;rw[if_neg hb,if_neg hbc])
theorem Vv(hok:TaskOk t)(hC:ZD t.vars)(hops:t.ops.length≤200)(hb0:b≠0)(hb1:-1≤b)(hb2:b≤1099511627776)(hw:∀C,Walk t t.init C→0≤b∧b≤C):∃N,Dc t b 4096=some (⟨b,N⟩,⟨0⟩)∧CertOk t b N:=by
  unfold Dc CE ES;have hgl:=FactsOk.short hC hok.2.2.2.2.1;rw[Ei.2 hok,At,if_neg (λh=>h rfl),if_pos hb1,if_pos hb2,At,At,Cd,if_neg hb0,Fz (by omega),At];refine MC ?_;obtain⟨K,hK⟩:∃K,K=t.ops.length*1024:=⟨_,rfl⟩;have hK2:K<=204800:=(by omega);have short:∀f d,EnOk t b f d->f.length<=16:=λf d h=>h.1.short hC;have nlen:∀{N q},LowI t b N q->N.length<=1024:=λ{N q} h=>by
    have:=hC.2.2 _ h.nd λp hp=>by
      obtain⟨n,hn,rfl⟩:=U9.1 hp;exact(h.ng n hn).1.1
    rwa[R1]at this
  refine JR (λs:Int×List Ngd×CQ=>X8 (qsC s.2.2.l)/\LowI t b s.2.1 s.2.2.l/\s.2.2.l.length<=1+s.2.1.length*K/\0<=s.1/\s.1<=1+((s.2.1.length*K:Nat):Int)) (λs=>CertOk t b s.2.1) (λ_=>False) (λs=>(1025-s.2.1.length)*(K+1)+s.2.2.l.length) ⟨?_,?_,?_,by dsimp only;omega,by dsimp only;omega⟩ ?_ (λs hs=>⟨_,rfl,_,rfl,hs⟩) (λq hq=>hq.elim)
  . intro j x y hj hx;have:=AF hx;simp[qsC]at this;omega
  . refine⟨λx hx=>?_,λn hn=>by simp at hn,List.nodup_nil,λn hn=>by simp at hn,.inr ⟨_,K9.2 rfl,rfl,rfl⟩,λn hn=>by simp at hn⟩;obtain rfl:=K9.1 hx;exact⟨hok.2.2.2.2.1,V4 _,λ_=>rfl,λh=>by dsimp only;omega,λs hs hh=>⟨0,Walk.goal hh,λ_=>V4 _⟩⟩
  . show 1<=1+0*K;omega
  . rintro⟨nx,N,q⟩ ⟨hp,hL,hlen,hn0,hn1⟩;dsimp only at hp hL hlen hn0 hn1 ⊢;have hN:=nlen hL;have hNK:N.length*K<=1024*204800:=R7 hN hK2;unfold CI;rw[At];by_cases h0:0<(q.l.length:Int)
    . rw[if_pos h0];obtain⟨r,r1,e,q',rfl,r2,r3,r4⟩:=Ra hp (by omega) (by omega);rw[r1,At];dsimp only;have heq:e∈q.l:=r3.mem_iff.2 K6;have hql:q.l.length=q'.l.length+1:=(by rw[r3.length_eq];rfl);have hen:=hL.en e heq;have hes:=short _ _ hen;have hq'q:∀x∈q'.l,x∈q.l:=λx hx=>r3.mem_iff.2 (H0 _ hx);have hle:∀x∈q'.l,e.dist<=x.dist:=λx hx=>by
        have:=Ol (r4 (toC x) (U9.2 ⟨x,hq'q x hx,rfl⟩));exact this
      obtain⟨c,c1,c2,c3⟩:=Mg hen.1.ps (by omega) (N:=N) λn hn=>⟨(hL.ng n hn).1.1.ps,by have:=short _ _ (hL.ng n hn).1;omega⟩;rw[c1,At];cases c with
      |true =>
        obtain⟨n,hn,hc⟩:=c2 rfl;have hcov:CovN N e.facts e.dist:=⟨n,hn,hL.le n hn e heq,hc⟩;refine .inl ⟨_,Cd,⟨r2,⟨λx hx=>hL.en x (hq'q x hx),hL.ng,hL.nd,λn hn x hx=>hL.le n hn x (hq'q x hx),hL.gl.pop r3 hcov,λn hn i o ho d hd L hL' p hp=>(hL.cl n hn i o ho d hd L hL' p hp).pop r3 hcov⟩,by dsimp only;omega,by dsimp only;omega,by dsimp only;omega⟩,by dsimp only;omega⟩
      |false  =>
        have c4:=c3 rfl;rw[BY,GK,At];have hini:holdsB e.facts t.init=false:=by
          cases hh:holdsB e.facts t.init with
          |false=>rfl
          |true =>
            obtain⟨C,hC1,hC2⟩:=hen.2.2.2.2 t.init hok.2.2.2.1 hh;obtain⟨g1,g2⟩:=hw C hC1;have:=hC2 g1;have:=hen.2.2.2.1 g1;omega
        rw[hini,BY,if_neg (by omega),Cb (by simp;omega) (by simp;omega),At];refine .inl ?_;refine Vu ?_;refine XR hok hC hops hb2 hen r2 (by omega) ⟨hn0,by omega⟩ λs hs=>?_;rw[BH];refine⟨_,rfl,_,rfl,?_,?_⟩
        . have hps:=hen.1.ps;have hself:CovN (N++[⟨e.facts,e.dist⟩]) e.facts e.dist:=⟨⟨e.facts,e.dist⟩,by simp,V4 _,Nu hps⟩;have snoc:∀{p d},Pend N q.l p d->Pend (N++[⟨e.facts,e.dist⟩]) s.2.l p d:=λ{p d} h=>by
            have h1:Pend (N++[⟨e.facts,e.dist⟩]) q.l p d:=by
              rcases h with h|h
              . exact .inl h.snoc
              . exact .inr h
            exact(h1.pop r3 hself).mono hs.old
          have hlenN:(N++[(⟨e.facts,e.dist⟩:Ngd)]).length=N.length+1:=(by simp);refine⟨hs.hp,⟨λx hx=>?_,λn hn=>?_,?_,λn hn x hx=>?_,snoc hL.gl,λn hn i o ho d hd L hL' p hp=>?_⟩,?_,hs.no.1,?_⟩
          . rcases hs.new x hx with h|h
            . exact hL.en x (hq'q x h)
            . exact h.1
          . rcases P8.1 hn with h|h
            . exact hL.ng n h
            . obtain rfl:=K9.1 h;exact⟨hen,hini⟩
          . rw[R2];refine M5.2 ⟨hL.nd,by simp,λa ha b hb eab=>?_⟩;have:b=e.facts:=(by simpa using hb);subst this;subst eab;obtain⟨n,hn,hne⟩:=U9.1 ha;have:=c4 n hn;rw[hne,Nu hps]at this;cases this
          . have hx':e.dist<=x.dist:=by
              rcases hs.new x hx with h|h
              . exact hle x h
              . exact h.2
            rcases P8.1 hn with h|h
            . have:=hL.le n h e heq;omega
            . obtain rfl:=K9.1 h;exact hx'
          . rcases P8.1 hn with h|h
            . exact snoc (hL.cl n h i o ho d hd L hL' p hp)
            . obtain rfl:=K9.1 h;exact .inr (hs.cl i o (AF ho) ho d hd L hL' p hp)
          . dsimp only;rw[hlenN,V3,V7];have:=hs.len;omega
          . dsimp only;rw[hlenN,V3,V7];have:=hs.no.2;omega
        . dsimp only;rw[K0,F9];have:=hs.len;have e1:(1025-N.length)*(K+1)=(1025-(N.length+1))*(K+1)+(K+1):=by
            rw[show 1025-N.length=(1025-(N.length+1))+1 by omega,V3,V7]
          omega
    . rw[if_neg h0];have hq0:q.l=[]:=B2 (by omega);have cov:∀{p d},Pend N q.l p d->CovN N p d:=λ{p d} h=>by
        rcases h with h|⟨x,hx,_⟩
        . exact h
        . rw[hq0]at hx;simp at hx
      exact .inr (.inl ⟨_,rfl,hN,hL.ng,λ_=>cov hL.gl,λn hn i o ho d hd L hL' p hp=>cov (hL.cl n hn i o ho d hd L hL' p hp)⟩)
theorem Tl(a:TaskOk t):Dc t 0 4096=some (⟨0,[]⟩,⟨0⟩)/\CertOk t 0 []:=by
  refine⟨?_,by decide,λn hn=>by simp at hn,λb=>absurd rfl b,λn hn=>by simp at hn⟩;unfold Dc CE ES;rw[Ei.2 a,At,if_neg (λb=>b rfl),if_pos (by decide),if_pos (by decide),At,At,Cd,if_pos rfl]
end
end
end Go.Proofs.YthgeinkfgcgjiaaGreatDoor

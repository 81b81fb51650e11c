/- Own text: what the proof of symmetryFinds_holds uses, part 4: rules, models and their proofs, plain laws. -/
import Derived.Test.YtdhaelekmjgbmaaGreatDoorFiC
set_option linter.unusedVariables false
set_option linter.unusedSimpArgs false
namespace Go.Proofs.YtdhaelekmjgbmaaGreatDoor
open Go Go.RowKit
section
open Go Go.RowKit
theorem Fj {w:World} {F:Nat→Prop}:∀ {xs:List Int} {cells:List Value},Chunks w F cells xs→cells=xs.map (Value.int .i64)∧∀ x∈xs,inI64 x
  | [],_,h=>⟨h,fun _ hx=>by simp at hx⟩
  | x :: xs,cells,⟨cs,rest,he,hr,hc⟩=>by
    obtain ⟨h1,h2⟩:=Fj hc
    obtain ⟨h3,h4⟩:=hr
    refine ⟨by rw [he,h3,h1];rfl,fun y hy=>?_⟩
    rcases List.mem_cons.1 hy with rfl|hy
    · exact h4
    · exact h2 y hy
theorem HR {w:World} {F:Nat→Prop}:∀ {xs:List Int},(∀ x∈xs,inI64 x)→Chunks w F (xs.map (Value.int .i64)) xs
  | [],_=>rfl
  | x :: xs,h=>⟨[.int .i64 x],xs.map (Value.int .i64),rfl,⟨rfl,h x (by simp)⟩,HR fun y hy=>h y (by simp [hy])⟩
def cpyL {α:Type} (a b:List α):List α:=b.take a.length ++ a.drop b.length
def cpn {α:Type} (a b:List α):Nat:=min b.length a.length
def ckN (xs ys:List Int):Option Int:=if 0 < xs.length∧0 < ys.length∧xs.length≤9223372036854775807 then some (cpn xs ys:Int) else none
theorem QH {xs ys:List Int} {q:Int} (h:ckN xs ys=some q):inI64 q:=by
  obtain ⟨⟨_,_,h3⟩,rfl⟩:=DH h
  refine rngNat ?_
  unfold cpn
  omega
def cpyR (xs:List Int) (k:Int):Option (List Int×Int) :=
  if 0 < k∧k < xs.length∧xs.length≤9223372036854775807 then some (xs.take k.toNat ++ ((xs.take k.toNat).take (xs.length - k.toNat) ++ xs.drop (k.toNat + ((xs.take k.toNat).take (xs.length - k.toNat)).length)),(((xs.take k.toNat).take (xs.length - k.toNat)).length:Int)) else none
section
variable {P : Program} {n : Nat} {ops : Array Oper} {Q : Post} {rest : List Oper} {l : Env} {w : World} {d : Tmp} {ty : TypeId} {pos : String} {aft : Array Edge}
theorem Ry {i:Nat} {O:Lab} {e:TypeId} {A:Option Addr} {m c:Nat} {xs:List Int} {k:Int} {q:List Int×Int} (hR:Rw i w O e (.slice A m c) xs) (h:cpyR xs k=some q):∃ A' c',CutB 1 A m c k (m:Int) A' (m - k.toNat) c':=by
  obtain ⟨⟨h1,h2,_⟩,rfl⟩:=DH h
  obtain ⟨a,b,_⟩:=hR.len
  subst a
  exact ⟨_,_,k.toNat,xs.length,by omega,rfl,by omega,Nat.le_refl _,by omega,rfl⟩
theorem Rz {i:Nat} {O:Lab} {e:TypeId} {A:Option Addr} {m c:Nat} {xs:List Int} {k:Int} {q:List Int×Int} (hR:Rw i w O e (.slice A m c) xs) (h:cpyR xs k=some q):∃ A' c',CutB 1 A m c 0 k A' k.toNat c':=by
  obtain ⟨⟨h1,h2,_⟩,rfl⟩:=DH h
  obtain ⟨a,b,_⟩:=hR.len
  subst a
  exact ⟨_,_,0,k.toNat,rfl,by omega,by omega,by omega,by omega,rfl⟩
theorem MZ {i:Nat} {O:Lab} {t1 t2 e:TypeId} [ht:TSlice P t1 e] {z:Value} {bytes:Nat} [hi:TInfo P e z 1 bytes] {x y:Operand} {g c off dl dc sl sc:Nat} {a:Addr} {xs ys:List Int} (hR:Rw i w O e (.slice (some ⟨g,0,none⟩) xs.length c) xs)
    (hx:opv l x=some (.slice (some ⟨g,off,none⟩) dl dc)) (hy:opv l y=some (.slice (some a) sl sc)) (hys:ys.length=Nat.min sl dl) (hin2:∀ y∈ys,inI64 y) (hsrc:∀ j (v:Int),ys[j]?=some v→w.cell? (a.add j)=some (.int .i64 v)) (hof:off + ys.length≤xs.length) (hp:0 < xs.length) (hd:Nat.blt d n=true)
    (h:∀ w',St (eT i) w O w' O→Rw i w' O e (.slice (some ⟨g,0,none⟩) xs.length c) (xs.take off ++ (ys ++ xs.drop (off + ys.length)))→owp P n ops Q rest ((d,.int .i64 (ys.length:Int)) :: l) w'):owp P n ops Q (⟨some d,.call { callee:=.builtin .copy,args:=#[x,y],argTypes:=#[t1,t2] },ty,pos,aft,none⟩ :: rest) l w:=by
  have hsz:((P.info? e).map (·.size))=some 1:=by obtain ⟨inf,e1,_,e3,_⟩:=hi.eq;rw [e1];simp [e3]
  obtain ⟨g',cap,cells2,sp,hv2,hg,hF,hblk,hch,hl2,hn2,hm2,ht2⟩:=hR.1.open hp
  injection hv2 with e1 e2 e3
  injection e1 with e1
  injection e1 with e1 _ _
  subst e1;subst e3
  obtain ⟨rfl,hin⟩:=Fj hch
  have hbl:w.heap[g]?=some (.cells (xs.map (Value.int .i64) ++ sp).toArray e (0,0)):=hblk
  let cs:=ys.map (Value.int .i64)
  have hcl:cs.length=ys.length:=by simp [cs]
  let new:=((xs.map (Value.int .i64) ++ sp).take off ++ cs ++ (xs.map (Value.int .i64) ++ sp).drop (off + cs.length)).toArray
  have hrun:∀ z,(Builtin.copy_ #[t1,t2] ty #[.slice (some ⟨g,off,none⟩) dl dc,.slice (some a) sl sc]).run P (dr w z)=.ok (goInt cs.length) (dr (w.setRow g new) z):=fun z=>by
    have hbl':(dr w z).heap[g]?=some (.cells (xs.map (Value.int .i64) ++ sp).toArray e (0,0)):=hbl
    have:=run_copy_row (P:=P) (dr w z) t1 t2 ty e g off dl dc a sl sc _ e cs ht.eq hsz hbl' (by rw [hcl];exact hys) (fun j v hj=>by
      simp only [cs,List.getElem?_map] at hj
      cases hq:ys[j]? with
      | none=>rw [hq] at hj;simp at hj
      | some q=>rw [hq] at hj;simp at hj;subst hj;exact hsrc j q hq) (by simp [hcl];omega) (fun v hv=>by
      obtain ⟨a,_,rfl⟩:=List.mem_map.1 hv
      rfl)
    rw [this]
    rfl
  have hcp:new=((xs.take off ++ (ys ++ xs.drop (off + ys.length))).map (Value.int .i64) ++ sp).toArray:=by
    simp only [new,hcl,cs]
    congr 1
    rw [List.take_append_of_le_length (by simp;omega),List.drop_append_of_le_length (by simp;omega)]
    simp only [List.map_append,List.append_assoc,List.map_drop,List.map_take]
  refine EP (w':=w.setRow g new) (fun ac z ha=>.inl ⟨goInt cs.length,z,?_,ha.put hd _⟩) ?_
  · simp [execOp,resolve,invoke,builtin,ha.eval hx,ha.eval hy,hrun z]
  · have hK:∀ cs,St (eT i) w O (w.setRow g cs) O:=fun cs=>⟨rfl,rfl,rfl,by simp,fun k hk hT=>⟨setRow_other w g k cs fun e=>hT (by rw [e];exact hR.2.1 g rfl),rfl⟩⟩
    have hlen:(xs.take off ++ (ys ++ xs.drop (off + ys.length))).length=xs.length:=by simp;omega
    have hgo:goInt cs.length=.int .i64 (ys.length:Int):=by rw [hcl];rfl
    rw [hgo]
    refine h _ (hK _) ?_
    have hb2:Blk (w.setRow g new) g e ((xs.take off ++ (ys ++ xs.drop (off + ys.length))).map (Value.int .i64) ++ sp):=by
      rw [hcp];exact setRow_heap w g _ _ e (0,0) hbl
    have hall:∀ a∈xs.take off ++ (ys ++ xs.drop (off + ys.length)),inI64 a:=fun a ha=>by
      rcases List.mem_append.1 ha with h|h
      · exact hin a (List.mem_of_mem_take h)
      · rcases List.mem_append.1 h with h|h
        · exact hin2 a h
        · exact hin a (List.mem_of_mem_drop h)
    have:=Own.close (base:=0) (cap:=c) (F:=Fr 0 (w.setRow g new) O) (Nat.zero_le g) (fun hq=>hR.2.2 ((hR.2.1 g rfl).symm.trans hq.2)) hb2 (HR hall) (by rw [hlen];exact hn2) hm2 (by
      have:=ht2
      simp only [List.length_append,List.length_map] at this hlen ⊢
      rw [hlen]
      exact this)
    rw [hlen] at this
    exact ⟨this,hR.2.1,hR.2.2⟩
theorem QI {i:Nat} {O:Lab} {t1 t2 e:TypeId} [ht:TSlice P t1 e] {z:Value} {bytes:Nat} [hi:TInfo P e z 1 bytes] {x y:Operand} {A:Option Addr} {m c:Nat} {v:Value} {xs ys:List Int} (hR:Rw i w O e (.slice A m c) xs) (hv:Vb w (Fr 0 w O) v ys) {q:Int} (he:ckN xs ys=some q) (hx:opv l x=some (.slice A m c)) (hy:opv l y=some v) (hd:Nat.blt d n=true)
    (h:∀ w',St (eT i) w O w' O→Rw i w' O e (.slice A m c) (cpyL xs ys)→owp P n ops Q rest ((d,.int .i64 q) :: l) w'):owp P n ops Q (⟨some d,.call { callee:=.builtin .copy,args:=#[x,y],argTypes:=#[t1,t2] },ty,pos,aft,none⟩ :: rest) l w:=by
  obtain ⟨⟨n1,n2,_⟩,rfl⟩:=DH he
  have hne:0 < xs.length∧0 < ys.length:=⟨n1,n2⟩
  obtain rfl:=hR.len.1
  obtain ⟨A',c',cells,rfl,h1,h2,h3,h4⟩:=hv.rd
  obtain ⟨rfl,hin⟩:=Fj h3
  obtain ⟨b,o,rfl,hat⟩:=h4 hne.2
  obtain ⟨g,cap,cells2,sp,hv2,_⟩:=hR.1.open hne.1
  injection hv2 with e1 e2 e3
  subst e1;subst e3
  have hlen:(ys.take xs.length).length=cpn xs ys:=by simp [cpn,Nat.min_comm]
  refine MZ (ys:=ys.take xs.length) (off:=0) hR hx hy (by simp [Nat.min_comm]) (fun y hy=>hin y (List.mem_of_mem_take hy)) (fun j v hj=>?_) (by simp;omega) hne.1 hd fun w' hS hR'=>?_
  · rw [Fa]
    refine Di hat j _ ?_
    rw [List.getElem?_take] at hj
    split at hj
    · rw [List.getElem?_map,hj];rfl
    · simp at hj
  · rw [hlen]
    refine h w' hS ?_
    have:xs.take 0 ++ (ys.take xs.length ++ xs.drop (0 + (ys.take xs.length).length))=cpyL xs ys:=by
      unfold cpyL
      rw [List.take_zero,List.nil_append,Nat.zero_add]
      congr 1
      by_cases hx2:xs.length≤ys.length
      · rw [List.drop_of_length_le (by rw [List.length_take];omega),List.drop_of_length_le hx2]
      · rw [List.length_take,Nat.min_eq_right (by omega)]
    rwa [this] at hR'
theorem QJ {i:Nat} {O:Lab} {t1 t2 e:TypeId} [ht:TSlice P t1 e] {z:Value} {bytes:Nat} [hi:TInfo P e z 1 bytes] {x y:Operand} {A A1 A2:Option Addr} {m c c1 c2:Nat} {xs:List Int} {k:Int} {q:List Int×Int} (hR:Rw i w O e (.slice A m c) xs) (hq:cpyR xs k=some q)
    (hc1:CutB 1 A m c k (m:Int) A1 (m - k.toNat) c1) (hc2:CutB 1 A m c 0 k A2 k.toNat c2) (hx:opv l x=some (.slice A1 (m - k.toNat) c1)) (hy:opv l y=some (.slice A2 k.toNat c2)) (hd:Nat.blt d n=true)
    (h:∀ w',St (eT i) w O w' O→Rw i w' O e (.slice A m c) q.1→owp P n ops Q rest ((d,.int .i64 q.2) :: l) w'):owp P n ops Q (⟨some d,.call { callee:=.builtin .copy,args:=#[x,y],argTypes:=#[t1,t2] },ty,pos,aft,none⟩ :: rest) l w:=by
  obtain ⟨⟨h1,h2,_⟩,rfl⟩:=DH hq
  obtain rfl:=hR.len.1
  have hcc:=hR.len.2.1
  obtain ⟨g,cap,cells2,sp,hv2,_,_,hblk,hch,_⟩:=hR.1.open (by omega)
  injection hv2 with e1 e2 e3
  subst e1;subst e3
  obtain ⟨rfl,hin⟩:=Fj hch
  obtain ⟨k',rfl⟩:∃ k':Nat,k=(k':Int):=⟨k.toNat,by omega⟩
  simp only [Int.toNat_natCast] at *
  obtain ⟨lo1,hi1,a1,a2,a3,a4,a5,a6⟩:=hc1
  obtain ⟨lo2,hi2,b1,b2,b3,b4,b5,b6⟩:=hc2
  obtain rfl:lo1=k':=by omega
  obtain rfl:hi2=lo1:=by omega
  obtain rfl:lo2=0:=by omega
  rw [if_neg (by omega)] at a6 b6
  injection a6 with a6 a7 a8
  injection b6 with b6 b7 b8
  subst a6;subst b6
  have hx':opv l x=some (.slice (some ⟨g,hi2,none⟩) (xs.length - hi2) c1):=by rw [hx];simp [Fa]
  have hy':opv l y=some (.slice (some ⟨g,0,none⟩) hi2 c2):=by rw [hy];simp [Fa]
  refine MZ (ys:=(xs.take hi2).take (xs.length - hi2)) (off:=hi2) hR hx' hy' (by show _=min _ _;simp;omega) (fun y hy=>hin y (List.mem_of_mem_take (List.mem_of_mem_take hy))) (fun j v hj=>?_) (by simp;omega) (by omega) hd h
  rw [List.getElem?_take] at hj
  split at hj
  · rw [List.getElem?_take] at hj
    split at hj
    · have:=hblk.cell (i:=j) (v:=.int .i64 v) (by rw [List.getElem?_append_left (by simp;exact Aw hj),List.getElem?_map,hj];rfl)
      rw [Fa];simpa using this
    · simp at hj
  · simp at hj
end
end
section
open Go.Shelf
def Tryz.laysM171_ren:Go.Shelf.Ren:=⟨fun|171=>66|243=>81|246=>90|283=>112|284=>113|285=>114|286=>115|129=>101|317=>126|318=>127|319=>128|320=>129|337=>132|338=>133|n=>n,fun|3=>3|9=>9|2=>2|4=>4|171=>157|0=>0|53=>125|37=>159|5=>5|173=>160|212=>172|51=>122|20=>20|213=>173|46=>100|232=>178|233=>179|n=>n,fun|17=>0|18=>1|19=>2|n=>n⟩
theorem Tryz.laysM171:Go.Proofs.LaysM.n171 Tryz.prog Tryz.laysM171_ren:={
  mixed:=by kernel_rfl
  f129:=Tryz.func101.trans (congrArg some (by kernel_rfl))
  f171:=Tryz.func66.trans (congrArg some (by kernel_rfl))
  f243:=Tryz.func81.trans (congrArg some (by kernel_rfl))
  f246:=Tryz.func90.trans (congrArg some (by kernel_rfl))
  f283:=Tryz.func112.trans (congrArg some (by kernel_rfl))
  f284:=Tryz.func113.trans (congrArg some (by kernel_rfl))
  f285:=Tryz.func114.trans (congrArg some (by kernel_rfl))
  f286:=Tryz.func115.trans (congrArg some (by kernel_rfl))
  f317:=Tryz.func126.trans (congrArg some (by kernel_rfl))
  f318:=Tryz.func127.trans (congrArg some (by kernel_rfl))
  f319:=Tryz.func128.trans (congrArg some (by kernel_rfl))
  f320:=Tryz.func129.trans (congrArg some (by kernel_rfl))
  f337:=Tryz.func132.trans (congrArg some (by kernel_rfl))
  f338:=Tryz.func133.trans (congrArg some (by kernel_rfl))
  t0:=Tryz.underlying0
  a0:=Tryz.isAgg0
  z0:=Tryz.sizeOf0
  v0:=Tryz.zeroValue0
  t2:=Tryz.underlying2
  a2:=Tryz.isAgg2
  z2:=Tryz.sizeOf2
  v2:=Tryz.zeroValue2
  t3:=Tryz.underlying3
  a3:=Tryz.isAgg3
  z3:=Tryz.sizeOf3
  v3:=Tryz.zeroValue3
  t4:=Tryz.underlying4
  a4:=Tryz.isAgg4
  z4:=Tryz.sizeOf4
  v4:=Tryz.zeroValue4
  t5:=Tryz.underlying5
  a5:=Tryz.isAgg5
  z5:=Tryz.sizeOf5
  v5:=Tryz.zeroValue5
  t9:=Tryz.underlying9
  a9:=Tryz.isAgg9
  z9:=Tryz.sizeOf9
  v9:=Tryz.zeroValue9
  t20:=Tryz.underlying20
  a20:=Tryz.isAgg20
  z20:=Tryz.sizeOf20
  v20:=Tryz.zeroValue20
  t37:=Tryz.underlying159
  a37:=Tryz.isAgg159
  z37:=Tryz.sizeOf159
  v37:=Tryz.zeroValue159
  t46:=Tryz.underlying100
  a46:=Tryz.isAgg100
  z46:=Tryz.sizeOf100
  v46:=Tryz.zeroValue100
  t51:=Tryz.underlying122
  a51:=Tryz.isAgg122
  z51:=Tryz.sizeOf122
  v51:=Tryz.zeroValue122
  t53:=Tryz.underlying125
  a53:=Tryz.isAgg125
  z53:=Tryz.sizeOf125
  v53:=Tryz.zeroValue125
  t171:=Tryz.underlying157
  a171:=Tryz.isAgg157
  z171:=Tryz.sizeOf157
  v171:=Tryz.zeroValue157
  t173:=Tryz.underlying160
  a173:=Tryz.isAgg160
  z173:=Tryz.sizeOf160
  v173:=Tryz.zeroValue160
  t212:=Tryz.underlying172
  a212:=Tryz.isAgg172
  z212:=Tryz.sizeOf172
  v212:=Tryz.zeroValue172
  t213:=Tryz.underlying173
  a213:=Tryz.isAgg173
  z213:=Tryz.sizeOf173
  t232:=Tryz.underlying178
  a232:=Tryz.isAgg178
  z232:=Tryz.sizeOf178
  v232:=Tryz.zeroValue178
  t233:=Tryz.underlying179
  a233:=Tryz.isAgg179
  z233:=Tryz.sizeOf179
  v233:=Tryz.zeroValue179
  g17:=by kernel_rfl
  g18:=by kernel_rfl
  g19:=by kernel_rfl
  i0:=by kernel_rfl
  i2:=by kernel_rfl
  i3:=by kernel_rfl
  i4:=by kernel_rfl
  i5:=by kernel_rfl
  i9:=by kernel_rfl
  i20:=by kernel_rfl
  i37:=by kernel_rfl
  i46:=by kernel_rfl
  i51:=by kernel_rfl
  i53:=by kernel_rfl
  i171:=by kernel_rfl
  i173:=by kernel_rfl
  i212:=by kernel_rfl
  i232:=by kernel_rfl
  i233:=by kernel_rfl
  m17:=by kernel_rfl
  m18:=by kernel_rfl
  m19:=by kernel_rfl }
open Go.RowKit Go.Sort Go.Lib in
theorem Tryz.strconv_Itoa (n : Int) (h0 : -9223372036854775808 ≤ n) (h1 : n ≤ 9223372036854775807) (w : World) (htab : Lib.TabIs Tryz.prog w "internal/strconv.uint64pow10" .u64 Lib.pow10Tab) :
    Calls Tryz.prog 66 #[.int .i64 n] w fun e w'=>e=.returned (.string ⟨(Lib.itoa n).toArray⟩)∧∃ k os,w'=grow (w.drewN k) os:=Any.strconv_Itoa Tryz.laysM171 n h0 h1 w htab
open Go.RowKit Go.Sort Go.Lib in
def Tryz.lays190_ren:Go.Shelf.Ren:=⟨fun|190=>67|125=>83|258=>82|128=>100|129=>101|302=>91|303=>92|304=>93|305=>94|306=>95|307=>96|308=>97|309=>98|310=>99|333=>116|329=>117|330=>118|334=>119|335=>120|336=>121|344=>130|n=>n,fun|31=>80|9=>9|3=>3|46=>100|0=>0|51=>122|53=>125|4=>4|183=>142|182=>141|131=>147|5=>5|218=>162|222=>166|228=>174|229=>175|n=>n,fun|n=>n⟩
theorem Tryz.lays190:Go.Proofs.Lays.n190 Tryz.prog Tryz.lays190_ren:={
  mixed:=by kernel_rfl
  f125:=Tryz.func83.trans (congrArg some (by kernel_rfl))
  f128:=Tryz.func100.trans (congrArg some (by kernel_rfl))
  f129:=Tryz.func101.trans (congrArg some (by kernel_rfl))
  f190:=Tryz.func67.trans (congrArg some (by kernel_rfl))
  f258:=Tryz.func82.trans (congrArg some (by kernel_rfl))
  f302:=Tryz.func91.trans (congrArg some (by kernel_rfl))
  f303:=Tryz.func92.trans (congrArg some (by kernel_rfl))
  f304:=Tryz.func93.trans (congrArg some (by kernel_rfl))
  f305:=Tryz.func94.trans (congrArg some (by kernel_rfl))
  f306:=Tryz.func95.trans (congrArg some (by kernel_rfl))
  f307:=Tryz.func96.trans (congrArg some (by kernel_rfl))
  f308:=Tryz.func97.trans (congrArg some (by kernel_rfl))
  f309:=Tryz.func98.trans (congrArg some (by kernel_rfl))
  f310:=Tryz.func99.trans (congrArg some (by kernel_rfl))
  f329:=Tryz.func117.trans (congrArg some (by kernel_rfl))
  f330:=Tryz.func118.trans (congrArg some (by kernel_rfl))
  f333:=Tryz.func116.trans (congrArg some (by kernel_rfl))
  f334:=Tryz.func119.trans (congrArg some (by kernel_rfl))
  f335:=Tryz.func120.trans (congrArg some (by kernel_rfl))
  f336:=Tryz.func121.trans (congrArg some (by kernel_rfl))
  f344:=Tryz.func130.trans (congrArg some (by kernel_rfl))
  t0:=Tryz.underlying0
  a0:=Tryz.isAgg0
  z0:=Tryz.sizeOf0
  v0:=Tryz.zeroValue0
  t3:=Tryz.underlying3
  a3:=Tryz.isAgg3
  z3:=Tryz.sizeOf3
  v3:=Tryz.zeroValue3
  t4:=Tryz.underlying4
  a4:=Tryz.isAgg4
  z4:=Tryz.sizeOf4
  v4:=Tryz.zeroValue4
  t5:=Tryz.underlying5
  a5:=Tryz.isAgg5
  z5:=Tryz.sizeOf5
  v5:=Tryz.zeroValue5
  t9:=Tryz.underlying9
  a9:=Tryz.isAgg9
  z9:=Tryz.sizeOf9
  v9:=Tryz.zeroValue9
  t31:=Tryz.underlying80
  a31:=Tryz.isAgg80
  z31:=Tryz.sizeOf80
  v31:=Tryz.zeroValue80
  t46:=Tryz.underlying100
  a46:=Tryz.isAgg100
  z46:=Tryz.sizeOf100
  v46:=Tryz.zeroValue100
  t51:=Tryz.underlying122
  a51:=Tryz.isAgg122
  z51:=Tryz.sizeOf122
  v51:=Tryz.zeroValue122
  t53:=Tryz.underlying125
  a53:=Tryz.isAgg125
  z53:=Tryz.sizeOf125
  v53:=Tryz.zeroValue125
  t131:=Tryz.underlying147
  a131:=Tryz.isAgg147
  z131:=Tryz.sizeOf147
  v131:=Tryz.zeroValue147
  t182:=Tryz.underlying141
  a182:=Tryz.isAgg141
  z182:=Tryz.sizeOf141
  v182:=Tryz.zeroValue141
  t183:=Tryz.underlying142
  a183:=Tryz.isAgg142
  z183:=Tryz.sizeOf142
  v183:=Tryz.zeroValue142
  t218:=Tryz.underlying162
  a218:=Tryz.isAgg162
  z218:=Tryz.sizeOf162
  v218:=Tryz.zeroValue162
  t222:=Tryz.underlying166
  a222:=Tryz.isAgg166
  z222:=Tryz.sizeOf166
  v222:=Tryz.zeroValue166
  t228:=Tryz.underlying174
  a228:=Tryz.isAgg174
  z228:=Tryz.sizeOf174
  v228:=Tryz.zeroValue174
  t229:=Tryz.underlying175
  a229:=Tryz.isAgg175
  z229:=Tryz.sizeOf175
  v229:=Tryz.zeroValue175 }
open Go.Sort Go.RowKit in
theorem Tryz.slices_Sort_string (blk off cap:Nat) (ss:List (List UInt8)) (w:World) (hH:Holds encStr w blk off ss.toArray) (hblk:blk < w.heap.size) (hsz:ss.length < 4611686018427387904) :
    Calls Tryz.prog 67 #[.slice (some ⟨blk,off,none⟩) ss.length cap] w fun e w' =>
      e=.returned (.tuple #[])∧∃ n os,w'=grow (putRow encStr (Sort.ahead w n) blk off (ss.mergeSort fun x y=>decide (x≤y)).toArray) os:=Any.slices_Sort_string Tryz.lays190 blk off cap ss w hH hblk hsz
def Tryz.lays212_ren:Go.Shelf.Ren:=⟨fun|212=>59|263=>77|264=>78|n=>n,fun|46=>100|51=>122|146=>123|53=>125|148=>126|n=>n,fun|n=>n⟩
theorem Tryz.lays212:Go.Proofs.Lays.n212 Tryz.prog Tryz.lays212_ren:={
  mixed:=by kernel_rfl
  f212:=Tryz.func59.trans (congrArg some (by kernel_rfl))
  f263:=Tryz.func77.trans (congrArg some (by kernel_rfl))
  f264:=Tryz.func78.trans (congrArg some (by kernel_rfl))
  t46:=Tryz.underlying100
  a46:=Tryz.isAgg100
  z46:=Tryz.sizeOf100
  v46:=Tryz.zeroValue100
  t51:=Tryz.underlying122
  a51:=Tryz.isAgg122
  z51:=Tryz.sizeOf122
  v51:=Tryz.zeroValue122
  t53:=Tryz.underlying125
  a53:=Tryz.isAgg125
  z53:=Tryz.sizeOf125
  v53:=Tryz.zeroValue125
  t146:=Tryz.underlying123
  a146:=Tryz.isAgg123
  z146:=Tryz.sizeOf123
  v146:=Tryz.zeroValue123
  t148:=Tryz.underlying126
  a148:=Tryz.isAgg126
  z148:=Tryz.sizeOf126
  v148:=Tryz.zeroValue126 }
open Go.RowKit Go.Lib in
theorem Tryz.bits_Mul (x y:Nat) (hx:x < 18446744073709551616) (hy:y < 18446744073709551616) (w:World) :
    Calls Tryz.prog 59 #[.int .u64 x,.int .u64 y] w fun e w'=>e=.returned (.tuple #[.int .u64 ((x * y / 18446744073709551616:Nat):Int),.int .u64 ((x * y % 18446744073709551616:Nat):Int)])∧w'=w:=Any.bits_Mul Tryz.lays212 x y hx hy w
open Go.RowKit Go.Sort in
theorem Tryz.slices_Sort_string_none (p:Option Addr) (cap:Nat) (w:World) :
    Calls Tryz.prog 67 #[.slice p 0 cap] w fun e w'=>e=.returned (.tuple #[])∧w'=w:=Any.slices_Sort_string_none Tryz.lays190 p cap w
end
section
open Go Go.RowKit Go.Sort
def lsB (b:ByteArray):List UInt8:=b.data.toList
def ofB (l:List UInt8):ByteArray:=⟨l.toArray⟩
def sortT (xs:List ByteArray):List ByteArray:=((xs.map lsB).mergeSort fun x y=>decide (x≤y)).map ofB
theorem HB (xs:List ByteArray):(sortT xs).Perm xs:=by
  have:=(List.mergeSort_perm (xs.map lsB) fun x y=>decide (x≤y)).map ofB
  rwa [List.map_map,show ofB ∘ lsB=id from rfl,List.map_id] at this
theorem Dp (xs:List ByteArray):(sortT xs).length=xs.length:=(HB xs).length_eq
theorem HS {w:World} {F:Nat→Prop}:∀ {xs:List ByteArray} {cells:List Value},Chunks w F cells xs→cells=xs.map Value.string∧∀ x∈xs,x.size≤9223372036854775807
  | [],_,h=>⟨h,fun _ hx=>by simp at hx⟩
  | x :: xs,cells,⟨cs,rest,he,hr,hc⟩=>by
    obtain ⟨h1,h2⟩:=HS hc
    obtain ⟨h3,h4⟩:=hr
    refine ⟨by rw [he,h3,h1];rfl,fun y hy=>?_⟩
    rcases List.mem_cons.1 hy with rfl|hy
    · exact h4
    · exact h2 y hy
theorem HT {w:World} {F:Nat→Prop}:∀ {xs:List ByteArray},(∀ x∈xs,x.size≤9223372036854775807)→Chunks w F (xs.map Value.string) xs
  | [],_=>rfl
  | x :: xs,h=>⟨[.string x],xs.map Value.string,rfl,⟨rfl,h x (by simp)⟩,HT fun y hy=>h y (by simp [hy])⟩
theorem sortStrs {w:World} {base:Nat} {F:Nat→Prop} {v:Value} {xs:List ByteArray} (h:Own w base F 9 v xs) (hl:xs.length≤1000000) :
    Fn Tryz.prog 67 [v] w fun r w'=>r=.tuple #[]∧Own w' base F 9 v (sortT xs)∧Kept w w' v:=by
  intro d
  rcases Nat.eq_zero_or_pos xs.length with h0|h0
  · have hx:xs=[]:=List.eq_nil_of_length_eq_zero h0
    subst hx
    have hv:∃ p c,v=.slice p 0 c:=by
      obtain ⟨cells,h1,_⟩:=h
      rcases h1.2 with ⟨rfl,_⟩|⟨g,cap,cur,rfl,_⟩
      · exact ⟨_,_,rfl⟩
      · exact ⟨_,_,rfl⟩
    obtain ⟨p,c,rfl⟩:=hv
    refine (Tryz.slices_Sort_string_none p c (dr w d)).mono fun e w' ⟨he,hw⟩=>⟨_,w,d,he,hw,rfl,by simpa [sortT] using h,⟨rfl,rfl,rfl,Nat.le_refl _,fun _ _ _=>rfl⟩⟩
  · obtain ⟨g,cap,cells,sp,rfl,hg,hFg,hb,hc,hlen,hnc,hcm,htot⟩:=h.open h0
    obtain ⟨rfl,hin⟩:=HS hc
    have hln:(xs.map lsB).length=xs.length:=List.length_map ..
    have hH:Go.Sort.Holds encStr (dr w d) g 0 (xs.map lsB).toArray:=fun j hj=>by
      have hj':j < xs.length:=by simpa using hj
      refine ⟨?_,by rw [Nat.zero_add];exact hb.frozen j⟩
      rw [Nat.zero_add]
      refine hb.cell ?_
      rw [List.getElem?_append_left (by simpa using hj'),List.getElem?_map,List.getElem?_eq_getElem hj']
      simp [hj',encStr,lsB]
    have hs:=Tryz.slices_Sort_string g 0 cap (xs.map lsB) (dr w d) hH hb.lt (by omega)
    rw [hln] at hs
    refine hs.mono fun e w' ⟨he,n,os,hw⟩=>⟨_,w',w'.drawn,he,rfl,rfl,?_,?_⟩
    · have hblk:Blk w' g 9 ((sortT xs).map Value.string ++ sp):=by
        subst hw
        unfold Blk at hb ⊢
        have hsz:g < w.heap.size:=Blk.lt hb
        show ((w.heap.modify g _) ++ os)[g]?=_
        rw [Array.getElem?_append_left (by simpa using hsz),Array.getElem?_modify,if_pos rfl,hb]
        simp only [Option.map_some,Go.Sort.onCells]
        congr 2
        apply Array.ext
        · simp [Go.Sort.putCells,Dp]
        · intro i h1 h2
          simp only [Go.Sort.putCells,Array.getElem_mapIdx,Nat.zero_add,Nat.sub_zero,Nat.zero_le,true_and]
          have e1:(List.mergeSort (xs.map lsB) fun x y=>decide (x≤y)).length=xs.length:=(List.length_mergeSort _).trans hln
          by_cases hi:i < xs.length
          · rw [if_pos (by simpa [e1] using hi)]
            simp only [List.getElem_toArray]
            rw [List.getElem_append_left (by simpa [Dp] using hi),List.getElem_map]
            rw [getElem!_pos _ _ (by simpa [e1] using hi)]
            simp [sortT,encStr,ofB]
          · rw [if_neg (by simpa [e1] using hi)]
            simp only [List.getElem_toArray]
            rw [List.getElem_append_right (by simp;omega),List.getElem_append_right (by simp [Dp];omega)]
            simp [Dp]
      have:=Own.close (w:=w') (base:=base) (cap:=cap) hg hFg hblk (HT (F:=F) (w:=w') fun x hx=>hin x ((HB xs).mem_iff.1 hx)) (by rw [Dp];exact hnc) hcm (by simpa [Dp] using htot)
      rwa [Dp] at this
    · subst hw
      refine ⟨rfl,rfl,rfl,?_,fun k hk hne=>?_⟩
      · show w.heap.size≤((w.heap.modify g _) ++ os).size
        simp
      · have hkg:g≠k:=fun e=>hne (by simp [Value.ownBlock,e])
        show ((w.heap.modify g _) ++ os)[k]?=_
        rw [Array.getElem?_append_left (by simpa using hk),Array.getElem?_modify,if_neg hkg]
def Ek (xs:List ByteArray):Option (List ByteArray):=if xs.length≤1000000 then some (sortT xs) else none
theorem FF {w:World} {O:Lab} {A0:Option Addr} {m0 c0 i0:Nat} {x0:List ByteArray} (a0:Rw i0 w O 9 (.slice A0 m0 c0) x0) {r:List ByteArray} (hm:Ek x0=some r) :
    Fn Tryz.prog 67 [.slice A0 m0 c0] w fun _ w'=>∃ O',St (eT i0) w O w' O'∧Rw i0 w' O' 9 (.slice A0 m0 c0) r:=by
  obtain ⟨hl,rfl⟩:=DH hm
  refine (sortStrs a0.1 hl).mono fun v w' ⟨_,ho,hK⟩=>⟨O,?_,?_⟩
  · exact ⟨hK.os,hK.tape,hK.output,hK.size,fun k hk hT=>⟨hK.block k hk fun he=>hT (a0.2.1 k he),rfl⟩⟩
  · exact ho.rw (fun k hk=>⟨Nat.lt_of_lt_of_le hk.1 hK.size,hk.2⟩) a0.2.1 a0.2.2
end
section
open Go Go.RowKit
abbrev U64:=BitVec 64
instance:Rp U64 where
  isAgg:=false
  size:=1
  R _ _ cs x:=cs=[.int .u64 (x.toNat:Int)]
  len:=by rintro w F cs x rfl;rfl
  one:=by
    rintro w F cs x rfl u hu
    have:u=.int .u64 (x.toNat:Int):=by simpa using hu
    subst this;rfl
  agree:=fun h _=>h
  mono:=fun h _=>h
theorem Vb.u64 {w:World} {F:Nat→Prop} {v:Value} {x:U64} (h:Vb w F v x):v=.int .u64 (x.toNat:Int):=by
  have:[v]=[.int .u64 (x.toNat:Int)]:=h
  simpa using this
theorem vU64 {w:World} {F:Nat→Prop} {x:U64}:Vb w F (.int .u64 (x.toNat:Int)) x:=rfl
theorem wrapU (a:Int):IntKind.u64.wrap a=a % 18446744073709551616:=by simp [IntKind.wrap,IntKind.bits,IntKind.signed]
section
variable {P : Program} {l : Env} {w : World} {dst : Option Tmp} {ty : TypeId} {pos : String} {aft : Array Edge}
theorem RA {s t:TypeId} {k:IntKind} [hs:TInt P s k] [ht:TInt P t .u64] {x:Operand} {a:Int} (hx:opv l x=some (.int k a)):Ev P ⟨dst,.convert s t x,ty,pos,aft,none⟩ l w (.int .u64 ((BitVec.ofInt 64 a).toNat:Int)):=fun _ _ d ha=>by
  have h:IntKind.u64.wrap a=((BitVec.ofInt 64 a).toNat:Int):=by
    rw [wrapU,BitVec.toNat_ofInt]
    have:(0:Int)≤a % 18446744073709551616:=by omega
    simp
    omega
  simp [execOp,ha.eval hx,convert,run_underlying hs.eq,run_underlying ht.eq,Conv.intToInt,h]
theorem RB {s t:TypeId} [hs:TInt P s .u64] [ht:TInt P t .i64] {x:Operand} {a:U64} (hx:opv l x=some (.int .u64 (a.toNat:Int))):Ev P ⟨dst,.convert s t x,ty,pos,aft,none⟩ l w (.int .i64 a.toInt):=fun _ _ d ha=>by
  have h:IntKind.i64.wrap (a.toNat:Int)=a.toInt:=by
    rw [IntKind.wrap_i64,BitVec.toInt_eq_toNat_cond]
    have:=a.isLt
    split<;>omega
  simp [execOp,ha.eval hx,convert,run_underlying hs.eq,run_underlying ht.eq,Conv.intToInt,h]
end
section
variable {P : Program} {n : Nat} {ops : Array Oper} {Q : Post} {rest : List Oper} {l : Env} {w : World} {d : Tmp} {ty : TypeId} {pos : String} {aft : Array Edge}
theorem Qq {s t:TypeId} {k:IntKind} [TInt P s k] [TInt P t .u64] {x:Operand} {a:Int} (hx:opv l x=some (.int k a)) (hd:Nat.blt d n=true) (h:owp P n ops Q rest ((d,.int .u64 ((BitVec.ofInt 64 a).toNat:Int)) :: l) w)  : owp P n ops Q (⟨some d,.convert s t x,ty,pos,aft,none⟩ :: rest) l w:=Bw (RA hx) hd h
theorem RW {s t:TypeId} [TInt P s .u64] [TInt P t .i64] {x:Operand} {a:U64} (hx:opv l x=some (.int .u64 (a.toNat:Int))) (hd:Nat.blt d n=true) (h:owp P n ops Q rest ((d,.int .i64 a.toInt) :: l) w)  : owp P n ops Q (⟨some d,.convert s t x,ty,pos,aft,none⟩ :: rest) l w:=Bw (RB hx) hd h
variable {S : World → Prop} {r : List (Nat × Bool)} {i : Nat}
end
end
section
open Go Go.RowKit
def Fw (x y:U64):Option (U64×U64):=some (BitVec.ofNat 64 (x.toNat * y.toNat / 18446744073709551616),BitVec.ofNat 64 (x.toNat * y.toNat % 18446744073709551616))
theorem JW {w:World} {A:Nat→Prop} (_:∀ k,A k→k < w.heap.size) {x0 x1:U64} {r:U64×U64} (hm:Fw x0 x1=some r) :
    Fn Tryz.prog 59 [.int .u64 x0.toNat,.int .u64 x1.toNat] w fun v w'=>Ext w w'∧T2 w' (upA A w w') v r:=by
  injection hm with hm
  subst hm
  intro d
  have hx:=x0.isLt
  have hy:=x1.isLt
  refine (Tryz.bits_Mul x0.toNat x1.toNat hx hy (dr w d)).mono fun e w' ⟨he,hw⟩=>⟨_,w,d,he,hw,Below.refl _ _,_,_,rfl,?_,?_⟩
  · have h1:x0.toNat * x1.toNat / 18446744073709551616 < 18446744073709551616:=by
      refine Nat.div_lt_of_lt_mul ?_
      exact Nat.mul_lt_mul'' hx hy
    have:=vU64 (w:=w) (F:=upA A w w) (x:=BitVec.ofNat 64 (x0.toNat * x1.toNat / 18446744073709551616))
    rwa [BitVec.toNat_ofNat,Nat.mod_eq_of_lt h1] at this
  · have h1:x0.toNat * x1.toNat % 18446744073709551616 < 18446744073709551616:=Nat.mod_lt _ (by decide)
    have:=vU64 (w:=w) (F:=upA A w w) (x:=BitVec.ofNat 64 (x0.toNat * x1.toNat % 18446744073709551616))
    rwa [BitVec.toNat_ofNat,Nat.mod_eq_of_lt h1] at this
attribute [local irreducible] ewp owp hwp hwq Ev Evg Fn retPost Res1
attribute [local irreducible] hwx loudX
noncomputable def Cy (x0:List Int) (x1:Int):Option (List Int) :=
  if x1 < 0 then (none) else (bnd (Fw (BitVec.ofInt 64 (x0.length:Int)) (BitVec.ofInt 64 x1)) fun q8=>bnd (if ((0:U64).toNat:Int) < (q8.1.toNat:Int) then (some true) else (if ((9223372036854775807:U64).toNat:Int) < (q8.2.toNat:Int) then (some true) else (some false)):Option Bool) fun y19=>if y19=true then (none) else (bnd (mkI 8 (0:Int) q8.2.toInt) fun u30=>bnd (ckN u30 x0) fun q45=>bnd (lop (ρ:=(List Int)) (fun (s49:(List Int)×Int)=>if s49.2 < (u30.length:Int) then (bnd (cpyR s49.1 s49.2) fun q74=>bnd (chkI (s49.2 + q74.2)) fun n81=>some (.next (q74.1,n81))) else (some (.brk (s49.1,s49.2)))) ((cpyL u30 x0),q45)) fun res47=>fin res47 fun (s88:(List Int)×Int)=>some s88.1))
theorem DK {w:World} {A:Nat→Prop} (hA:∀ k,A k→k < w.heap.size) {vx0:Value} {x0:List Int} (c0:Vb w A vx0 x0) {x1:Int} (rx1:inI64 x1) {r:(List Int)} (hm:Cy x0 x1=some r) :
    Fn Tryz.prog 36 [vx0,(.int .i64 x1)] w fun v w'=>Ext w w'∧RowR w w' (upA A w w') 3 v r:=by
 obtain ⟨O,hB,g1⟩:=enter hA
 replace c0:=c0.mono g1
 obtain ⟨A3,c4,rfl⟩:=c0.form
 refine AP Tryz.func36 rfl Tryz.ntmps36 rfl ?_
 unfold Cy at hm
 refine Ab (Aa (Am rfl rfl (o_z ?_)))
 refine Ab (Ab (Aa (Aj rfl rfl (Dj rfl rfl rfl (fun c5=>?_) fun c5=>?_))))
 ·
  replace hm:=ip hm c5
  refine o_z ?_
  refine Ah rfl ?_
  exact nomatch hm
 replace hm:=im hm c5
 refine o_z ?_
 refine Ae rfl (AI (Ab (Aa (Aj rfl rfl (AX rfl rfl ?_)))))
 have l7:x0.length≤9223372036854775807:=Nat.le_trans c0.len.2.1 c0.len.2.2
 have r6:inI64 (x0.length:Int):=rngNat l7
 refine Qq rfl rfl ?_
 refine Aj rfl rfl (Qq rfl rfl ?_)
 obtain ⟨q8,e9,hm⟩:=bs hm
 refine Bf (O:=O) (A:=All w) (R:=fun w' F v=>T2 w' F v q8) (JW (fun _ h=>h)  e9) rfl rfl fun y1 z1 a2 f0 h1=>?_
 obtain ⟨b2,c2,rfl,i1,j1⟩:=h1
 obtain rfl:=i1.u64
 obtain rfl:=j1.u64
 refine Aj rfl rfl (DN rfl rfl rfl (DN rfl rfl rfl (Am rfl rfl (Am rfl rfl (o_z ?_)))))
 refine Ab (Ab ?_)
 obtain ⟨k1,a0,hm⟩:=bs hm
 refine Ax (fun l' w'=>∃ (l1:Unit) (O':Lab),subs l' [(0,(.slice A3 x0.length c4)),(6,(.int .u64 q8.2.toNat)),(26,(.bool k1))]∧Bs w A w' O'∧Vb w' (Fr 0 w' O') (.slice A3 x0.length c4) x0) ?_ ?_
 ·
  refine Aa (Aj rfl rfl (CS rfl rfl rfl (fun n0=>?_) fun n0=>?_))
  ·
   replace a0:=ip a0 n0
   refine Aj rfl rfl (An rfl rfl rfl rfl (An rfl rfl rfl rfl (By rfl rfl rfl (o_z ?_))))
   obtain rfl:=sm a0
   exact ⟨(),_,⟨rfl,rfl,rfl,trivial⟩,hB.st f0,c0.st f0⟩
  replace a0:=im a0 n0
  refine Aj rfl rfl (Ar rfl rfl (Aj rfl rfl (Ar rfl rfl (CS rfl rfl rfl (fun o0=>?_) fun o0=>?_))))
  ·
   replace a0:=ip a0 o0
   refine Bz rfl rfl rfl (o_z ?_)
   obtain rfl:=sm a0
   exact ⟨(),_,⟨rfl,rfl,rfl,trivial⟩,hB.st f0,c0.st f0⟩
  replace a0:=im a0 o0
  refine Bz rfl rfl rfl (o_z ?_)
  obtain rfl:=sm a0
  exact ⟨(),_,⟨rfl,rfl,rfl,trivial⟩,hB.st f0,c0.st f0⟩
 replace c0:=c0.st f0
 replace hB:=hB.st f0
 rintro d2 e2 ⟨l1,m1,p0,hB,c0⟩
 refine AE _ p0 ?_
 refine Bp rfl (fun q0=>?_) (fun q0=>?_)
 ·
  replace hm:=ip hm q0
  exact nomatch hm
 replace hm:=im' hm q0
 refine AI (Ab (Aa (Aj rfl rfl (RW (a:=q8.2) rfl rfl ?_))))
 obtain ⟨h0,n1,hm⟩:=bs hm
 obtain ⟨j0,o1,p1,q1,r1⟩:=CL n1
 refine DG 2 (by decide) m1 (z0:=(0:Int)) rfl rfl rfl rfl rfl o1 (vInt (show inI64 0 from by decide)) p1 q1 rfl fun k0 f2 s1 r0 l0=>?_
 rw [← r1] at l0 ⊢
 refine Am rfl rfl (o_z ?_)
 refine Ab (Aa (Aj rfl rfl (Aj rfl rfl ?_)))
 obtain ⟨g2,y0,hm⟩:=bs hm
 replace c0:=c0.st r0
 refine QI l0 c0 y0 rfl rfl rfl fun h2 a1 l0=>?_
 refine Am rfl rfl (o_z ?_)
 refine Ab ?_
 obtain ⟨i0,s0,hm⟩:=bs hm
 refine Ax (aft i0 (fun (e0:(List Int)×Int) (m0:Unit)=>[(7,(.slice (some ⟨k0,0,none⟩) h0.length j0))]) (fun e0 m0 w'=>∃ O':Lab,Bs w A w' O'∧Rw 2 w' O' 3 (.slice (some ⟨k0,0,none⟩) h0.length j0) e0.1∧inI64 e0.2)) ?_ ?_
 ·
  refine AG ?_
  replace hB:=(hB.st r0).st a1
  refine DQ (σ:=(List Int)×Int) (X:=Unit) s0 (fun (e0:(List Int)×Int) (m0:Unit)=>[(7,(.slice (some ⟨k0,0,none⟩) h0.length j0)),(8,(.int .i64 e0.2))]) _ (fun e0 m0 w'=>∃ O':Lab,Bs w A w' O'∧Rw 2 w' O' 3 (.slice (some ⟨k0,0,none⟩) h0.length j0) e0.1∧inI64 e0.2) _ () ⟨s1,hB,l0,(QH y0)⟩ ⟨rfl,rfl,trivial⟩ ?_
  rintro e0 m0 i2 t1 ⟨u1,hB,d0,b1⟩ b0 t0 g0
  refine Ab (Ab (Aa (Aj rfl rfl (Aj rfl rfl (AX rfl rfl ?_)))))
  have v1:h0.length≤9223372036854775807:=Nat.le_trans d0.len.2.1 d0.len.2.2
  have j2:inI64 (h0.length:Int):=rngNat v1
  refine Dj rfl rfl rfl (fun u0=>?_) fun u0=>?_
  ·
   replace b0:=ip b0 u0
   refine o_z ?_
   refine Ah rfl (AI (AG (Bc [(7,[2])] u1 ?_)))
   refine Az (fuel:=4) [] [(1,true),(2,true),(3,true),(4,true),(5,true),(6,true)] (by kernel_rfl) rfl ?_
   refine AH rfl rfl rfl (AH rfl rfl rfl ?_)
   obtain ⟨k2,v0,b0⟩:=bs b0
   obtain ⟨l2,m2,c1⟩:=Ry d0 v0
   refine Ot (hc:=c1) rfl rfl rfl rfl ?_
   refine AH rfl rfl rfl (AH rfl rfl rfl ?_)
   obtain ⟨n2,o2,d1⟩:=Rz d0 v0
   refine Ou (hc:=d1) rfl rfl rfl rfl ?_
   refine As ?_
   refine Az (fuel:=3) [2] [(0,true)] (by kernel_rfl) rfl ?_
   refine AH rfl rfl rfl (As ?_)
   refine Au (i:=7) (by kernel_rfl) rfl ?_
   refine QJ d0 v0 c1 d1 rfl rfl rfl fun p2 e1 d0=>?_
   have hZ:=e1.lst [2] (fun _ h=>by cases h;decide)
   refine Ay [] hZ (by kernel_rfl) ?_
   refine Az (fuel:=0) [] [(8,true),(9,true)] (by kernel_rfl) rfl ?_
   obtain ⟨q2,f1,b0⟩:=bs b0
   have w1:=(BG f1)
   refine NE (he:=f1) rfl rfl rfl rfl ?_
   refine Eh rfl rfl rfl (As ?_)
   refine AZ (by kernel_rfl) ?_
   obtain rfl:=sm b0
   exact show Exists _ from ⟨_,(),rfl,⟨rfl,rfl,trivial⟩,_,hB.st e1,d0,w1⟩
  replace b0:=im b0 u0
  refine o_z ?_
  refine Ae rfl (Ck ?_)
  obtain rfl:=sm b0
  exact show Exists _ from ⟨_,(),g0 _ rfl,⟨rfl,trivial⟩,_,hB,d0,b1⟩
 replace hB:=(hB.st r0).st a1
 rintro r2 s2 ⟨t2,u2,rfl,w0,v2,hB,d0,b1⟩
 replace hm:=AV hm
 refine AE _ w0 ?_
 refine Ab (Aa (Aj rfl rfl (Am rfl rfl (o_z ?_))))
 refine AF ?_
 obtain rfl:=sm hm
 exact ret1v rfl (AC rfl) ⟨hB.ext,(d0.out hB (by decide))⟩
def Cw (xs:List Opr):Option (List Opr):=if xs.length * 72≤140737488355328∧xs.length≤9223372036854775807 then some xs else none
theorem FA {w:World} {A:Nat→Prop} (hA:∀ k,A k→k < w.heap.size) {v0:Value} {x0:List Opr} (h0:Vb w A v0 x0) {r:List Opr} (hm:Cw x0=some r) :
    Fn Tryz.prog 60 [v0] w fun v w'=>Ext w w'∧RowR w w' (upA A w w') 35 v r:=by
  obtain ⟨⟨hl,a0⟩,rfl⟩:=DH hm
  obtain ⟨O,hB,b0⟩:=enter hA
  replace h0:=h0.mono b0
  obtain ⟨Ad,c,rfl⟩:=h0.form
  refine AP Tryz.func60 rfl Tryz.ntmps60 rfl ?_
  cases Ad with
  | none =>
    have hx:x0=[]:=by
      cases x0 with
      | nil=>rfl
      | cons x xs=>obtain ⟨_,_,_,h,_⟩:=h0.elem (k:=0) (x:=x) rfl;cases h
    subst hx
    ((repeat (first|refine At ?_|refine Ah rfl ?_|refine Ae rfl ?_))<;>(refine Am rfl rfl ?_<;>(refine o_z ?_))<;>(repeat (first|refine At ?_|refine Ah rfl ?_|refine Ae rfl ?_))<;>(refine Aj rfl rfl ?_<;>refine Nx rfl rfl ?_<;>(refine o_z ?_))<;>(repeat (first|refine At ?_|refine Ah rfl ?_|refine Ae rfl ?_))<;>(refine Am rfl rfl ?_<;>(refine o_z ?_))<;>(repeat (first|refine At ?_|refine Ah rfl ?_|refine Ae rfl ?_)))
    exact ret1 rfl rfl ⟨Below.refl _ _,RowR.nil⟩
  | some ad =>
    ((repeat (first|refine At ?_|refine Ah rfl ?_|refine Ae rfl ?_))<;>(refine Am rfl rfl ?_<;>(refine o_z ?_))<;>(repeat (first|refine At ?_|refine Ah rfl ?_|refine Ae rfl ?_))<;>(refine Aj rfl rfl ?_<;>refine Nx rfl rfl ?_<;>(refine o_z ?_))<;>(repeat (first|refine At ?_|refine Ah rfl ?_|refine Ae rfl ?_)))
    refine Bi 2 (by decide) O (xs:=([]:List Opr)) rfl rfl rfl rfl trivial (by decide) (by decide) rfl fun g w1 O1 S1 h1=>?_
    replace hB:=hB.st S1 (fun h=>h) (fun h=>h)
    replace h0:=h0.st S1 (fun h=>h)
    (refine Aj rfl rfl ?_)
    refine BP rfl h1 h0.rd rfl rfl (by decide) (by simpa using hl) (by simpa using a0) rfl fun A2 c2 w2 O2 S2 h2=>?_
    replace hB:=hB.st S2 (by decide) (by decide)
    rw [List.nil_append] at h2 ⊢
    (refine Am rfl rfl ?_<;>(refine o_z ?_))
    repeat (first|refine At ?_|refine Ah rfl ?_|refine Ae rfl ?_)
    exact ret1 rfl rfl ⟨hB.ext,h2.out hB (by decide)⟩
noncomputable def BL (_:List Opr) (_ _ _:Int):Option (List Opr):=none
theorem Cd {w:World} {O:Lab} {A0:Option Addr} {m0 c0 i0:Nat} {x0:List Opr} (_:Rw i0 w O 35 (.slice A0 m0 c0) x0) {x1:Int} (_:inI64 x1) {x2:Int} (_:inI64 x2) {x3:Int} (_:inI64 x3) {r:List Opr} (hm:BL x0 x1 x2 x3=some r) :
    Fn Tryz.prog 89 [(.slice A0 m0 c0),(.int .i64 x1),(.int .i64 x2),(.int .i64 x3),(.func (.func 62) #[] #[])] w fun _ w'=>∃ O',St (eT i0) w O w' O'∧Rw i0 w' O' 35 (.slice A0 m0 c0) r:=nomatch hm
noncomputable def DX (x0:Int):Option Bool :=
  bnd (if x0≠x0 then (some true) else (some false):Option Bool) fun y2=>some y2
theorem GT {w:World} {A:Nat→Prop} (hA:∀ k,A k→k < w.heap.size) {x0:Int} (rx0:inI64 x0) {r:Bool} (hm:DX x0=some r) :
    Fn Tryz.prog 80 [(.int .i64 x0)] w fun v w'=>Ext w w'∧Vb w' (upA A w w') v r:=by
 obtain ⟨O,hB,c0⟩:=enter hA
 refine AP Tryz.func80 rfl Tryz.ntmps80 rfl ?_
 unfold DX at hm
 refine Ab (Aa (Am rfl rfl (o_z ?_)))
 refine Ab ?_
 obtain ⟨y2,a0,hm⟩:=bs hm
 refine Ax (fun l' w'=>∃ (x5:Unit) (O':Lab),subs l' [(2,(.bool y2))]∧Bs w A w' O') ?_ ?_
 ·
  refine Aa (Aj rfl rfl (Aj rfl rfl (Gh rfl rfl rfl (fun c6=>?_) fun c6=>?_)))
  ·
   replace a0:=ip a0 c6
   refine Am rfl rfl (o_z ?_)
   obtain rfl:=sm a0
   exact ⟨(),_,⟨rfl,trivial⟩,hB⟩
  replace a0:=im a0 c6
  refine Am rfl rfl (o_z ?_)
  obtain rfl:=sm a0
  exact ⟨(),_,⟨rfl,trivial⟩,hB⟩
 rintro l7 w8 ⟨x5,O9,b0,hB⟩
 refine AE _ b0 ?_
 refine AF ?_
 obtain rfl:=sm hm
 exact ret1v rfl (AC rfl) ⟨hB.ext,vBool⟩
noncomputable def CE (x0:Int) (x1:Int):Option Int :=
  bnd (bnd (DX x0) fun q7=>if q7=true then some true else some false:Option Bool) fun y3=>bnd (bnd (DX x1) fun q22=>if q22=true then some true else some false:Option Bool) fun y18=>if y3=true then (if y18=true then (some 0) else (some (-1))) else (if y18=true then (some 1) else (if x0 < x1 then (some (-1)) else (if x1 < x0 then (some 1) else (some 0))))
theorem EZ {w:World} {A:Nat→Prop} (hA:∀ k,A k→k < w.heap.size) {x0:Int} (rx0:inI64 x0) {x1:Int} (rx1:inI64 x1) {r:Int} (hm:CE x0 x1=some r) :
    Fn Tryz.prog 64 [(.int .i64 x0),(.int .i64 x1)] w fun v w'=>Ext w w'∧Vb w' (upA A w w') v r:=by
 obtain ⟨O,hB,t0⟩:=enter hA
 refine AP Tryz.func64 rfl Tryz.ntmps64 rfl ?_
 unfold CE at hm
 refine Ab (Aa (Am rfl rfl (o_z ?_)))
 refine Ab ?_
 obtain ⟨y3,b0,hm⟩:=bs hm
 refine Ax (fun l' w'=>∃ (x6:Unit) (O':Lab),subs l' [(0,(.int .i64 x0)),(1,(.int .i64 x1)),(5,(.bool y3))]∧Bs w A w' O') ?_ ?_
 ·
  refine Aa (Aj rfl rfl ?_)
  obtain ⟨q7,e8,b0⟩:=bs b0
  refine Bf (O:=O) (A:=All w) (R:=fun w' F v=>Vb w' F v q7) (GT (fun _ h=>h) rx0 e8) rfl rfl fun u0 w9 v0 j0 m0=>?_
  obtain rfl:=m0.bool
  cases q7
  case false =>
   replace b0:=iF b0
   refine Am rfl rfl (o_z ?_)
   obtain rfl:=sm b0
   exact ⟨(),_,⟨rfl,rfl,rfl,trivial⟩,hB.st j0⟩
  replace b0:=iT b0
  refine Am rfl rfl (o_z ?_)
  obtain rfl:=sm b0
  exact ⟨(),_,⟨rfl,rfl,rfl,trivial⟩,hB.st j0⟩
 rintro w0 n0 ⟨x6,o0,c0,hB⟩
 refine AE _ c0 ?_
 refine Ab ?_
 obtain ⟨p0,a0,hm⟩:=bs hm
 refine Ax (fun l' w'=>∃ (q0:Unit) (O':Lab),subs l' [(0,(.int .i64 x0)),(1,(.int .i64 x1)),(5,(.bool y3)),(6,(.bool p0))]∧Bs w A w' O') ?_ ?_
 ·
  refine Aa (Aj rfl rfl ?_)
  obtain ⟨k0,r0,a0⟩:=bs a0
  refine Bf (O:=o0) (A:=All n0) (R:=fun w' F v=>Vb w' F v k0) (GT (fun _ h=>h) rx1 r0) rfl rfl fun y0 z0 a1 l0 s0=>?_
  obtain rfl:=s0.bool
  cases k0
  case false =>
   replace a0:=iF a0
   refine Am rfl rfl (o_z ?_)
   obtain rfl:=sm a0
   exact ⟨(),_,⟨rfl,rfl,rfl,rfl,trivial⟩,hB.st l0⟩
  replace a0:=iT a0
  refine Am rfl rfl (o_z ?_)
  obtain rfl:=sm a0
  exact ⟨(),_,⟨rfl,rfl,rfl,rfl,trivial⟩,hB.st l0⟩
 rintro b1 c1 ⟨q0,d1,d0,hB⟩
 refine AE _ d0 ?_
 refine Ab (Ab (Aa (Aj rfl rfl (o_z ?_))))
 refine Bp rfl (fun e0=>?_) (fun e0=>?_)
 ·
  replace hm:=ip hm e0
  refine Ab (Ab (Aa (Aj rfl rfl (o_z ?_))))
  refine Bp rfl (fun f0=>?_) (fun f0=>?_)
  ·
   replace hm:=ip hm f0
   refine Ab (Aa (Am rfl rfl (o_z ?_)))
   refine AF ?_
   obtain rfl:=sm hm
   exact ret1v rfl (AC rfl) ⟨hB.ext,(vInt (show inI64 (0) from by decide))⟩
  replace hm:=im' hm f0
  refine AI (Ab (Aa (Am rfl rfl (o_z ?_))))
  refine AF ?_
  obtain rfl:=sm hm
  exact ret1v rfl (AC rfl) ⟨hB.ext,(vInt (show inI64 (-1) from by decide))⟩
 replace hm:=im' hm e0
 refine AI (Ab (Ab (Aa (Aj rfl rfl (o_z ?_)))))
 refine Bp rfl (fun g0=>?_) (fun g0=>?_)
 ·
  replace hm:=ip hm g0
  refine Ab (Aa (Am rfl rfl (o_z ?_)))
  refine AF ?_
  obtain rfl:=sm hm
  exact ret1v rfl (AC rfl) ⟨hB.ext,(vInt (show inI64 (1) from by decide))⟩
 replace hm:=im' hm g0
 refine AI (Ab (Ab (Aa (Aj rfl rfl (Aj rfl rfl (Dj rfl rfl rfl (fun h0=>?_) fun h0=>?_))))))
 ·
  replace hm:=ip hm h0
  refine o_z ?_
  refine Ah rfl (Ab (Aa (Am rfl rfl (o_z ?_))))
  refine AF ?_
  obtain rfl:=sm hm
  exact ret1v rfl (AC rfl) ⟨hB.ext,(vInt (show inI64 (-1) from by decide))⟩
 replace hm:=im hm h0
 refine o_z ?_
 refine Ae rfl (AI (Ab (Ab (Aa (Aj rfl rfl (Aj rfl rfl (CS rfl rfl rfl (fun i0=>?_) fun i0=>?_)))))))
 ·
  replace hm:=ip hm i0
  refine o_z ?_
  refine Ah rfl (Ab (Aa (Am rfl rfl (o_z ?_))))
  refine AF ?_
  obtain rfl:=sm hm
  exact ret1v rfl (AC rfl) ⟨hB.ext,(vInt (show inI64 (1) from by decide))⟩
 replace hm:=im hm i0
 refine o_z ?_
 refine Ae rfl (AI (Ab (Aa (Am rfl rfl (o_z ?_)))))
 refine AF ?_
 obtain rfl:=sm hm
 exact ret1v rfl (AC rfl) ⟨hB.ext,(vInt (show inI64 (0) from by decide))⟩
noncomputable def EL (x0:List Int):Option Int :=
  bnd (rng (ρ:=Int) (fun (k10:Nat) (a11:Int) (s8:Unit)=>if a11≠0 then (some (.ret a11)) else (some (.next ()))) x0 0 ()) fun res6=>fin res6 fun (s34:Unit)=>some 0
theorem LY {w:World} {A:Nat→Prop} (hA:∀ k,A k→k < w.heap.size) {vx0:Value} {x0:List Int} (b0:Vb w A vx0 x0) {r:Int} (hm:EL x0=some r) :
    Fn Tryz.prog 63 [vx0] w fun v w'=>Ext w w'∧Vb w' (upA A w w') v r:=by
 obtain ⟨O,hB,l0⟩:=enter hA
 replace b0:=b0.mono l0
 obtain ⟨A2,c3,rfl⟩:=b0.form
 refine AP Tryz.func63 rfl Tryz.ntmps63 rfl ?_
 unfold EL at hm
 refine Ab (Aa (Am rfl rfl (o_z ?_)))
 refine Ab (Aa (Am rfl rfl (o_z ?_)))
 refine Ab (Ab (Aa (Aj rfl rfl (AX rfl rfl ?_))))
 have l5:x0.length≤9223372036854775807:=Nat.le_trans b0.len.2.1 b0.len.2.2
 have r4:inI64 (x0.length:Int):=rngNat l5
 refine Aj rfl rfl (o_z ?_)
 obtain ⟨e0,m0,hm⟩:=bs hm
 refine Ax (aft e0 (fun (s8:Unit) (x9:Unit)=>[(3,(.int .i64 0))]) (fun s8 x9 w'=>∃ O':Lab,Bs w A w' O')) ?_ ?_
 ·
  refine AG (Bk (σ:=Unit) (X:=Unit) (x0.length) m0 rfl l5 (fun (s8:Unit) (x9:Unit)=>[(3,(.int .i64 0)),(6,(.slice A2 x0.length c3))]) _ (fun s8 x9 w'=>∃ O':Lab,Bs w A w' O'∧Vb w' (Fr 0 w' O') (.slice A2 x0.length c3) x0) _ () ⟨O,hB,b0⟩ ⟨rfl,rfl,rfl,rfl,trivial⟩ (fun _ _=>⟨rfl,rfl⟩) (fun _ _=>⟨rfl,trivial⟩) (fun _ _ _ ⟨O',hB,b0⟩=>⟨O',hB⟩) ⟨rfl,rfl,rfl⟩ ⟨rfl,rfl⟩ ?_)
  rintro n0 r0 s8 x9 s0 o0 d0 ⟨t0,hB,b0⟩ a0 c0 f0
  have rk10:inI64 (n0:Int):=rngK d0 l5
  refine Ab (Aa ?_)
  obtain ⟨u0,v0,p0,g0,h0,i0,rfl,q0⟩:=b0.elem' d0
  refine Bv (hA:=g0) (hj:=rfl) (hlt:=h0) rfl rfl rfl ?_
  refine AJ (hc:=cat0 i0) rfl rfl ?_
  refine Am rfl rfl (o_z ?_)
  refine Ab (Aa (Aj rfl rfl (Aj rfl rfl (Gh rfl rfl rfl (fun j0=>?_) fun j0=>?_))))
  ·
   replace a0:=ip a0 j0
   refine o_z ?_
   refine Ah rfl (Ab (Aa (Aj rfl rfl (Am rfl rfl (o_z ?_)))))
   refine AF ?_
   obtain rfl:=sm a0
   obtain rfl:=c0 _ rfl
   obtain rfl:=sm (Cq hm)
   exact ret1v rfl (AC rfl) ⟨hB.ext,(vInt q0)⟩
  replace a0:=im a0 j0
  refine o_z ?_
  refine Ae rfl (AI ?_)
  obtain rfl:=sm a0
  exact show Exists _ from ⟨_,(),rfl,⟨rfl,rfl,rfl,rfl,trivial⟩,_,hB,b0⟩
 rintro w0 y0 ⟨z0,a1,rfl,k0,b1,hB⟩
 replace hm:=AV hm
 refine AE _ k0 ?_
 refine Ab (Aa (Aj rfl rfl (Am rfl rfl (o_z ?_))))
 refine AF ?_
 obtain rfl:=sm hm
 exact ret1v rfl (AC rfl) ⟨hB.ext,(vInt (show inI64 (0) from by decide))⟩
noncomputable def Ca (x0:Opr) (x1:Opr):Option Int :=
  bnd (CE x0.cost x1.cost) fun q43=>bnd (CE (x0.pre.length:Int) (x1.pre.length:Int)) fun q51=>bnd (CE (x0.effs.length:Int) (x1.effs.length:Int)) fun q59=>bnd (EL ([q43,q51,q59]:List Int)) fun q73=>some q73
theorem Gd {w:World} {A:Nat→Prop} (hA:∀ k,A k→k < w.heap.size) {vx0:Value} {x0:Opr} (g0:Vb w A vx0 x0) {vx1:Value} {x1:Opr} (h0:Vb w A vx1 x1) {r:Int} (hm:Ca x0 x1=some r) :
    Fn Tryz.prog 62 [vx0,vx1] w fun v w'=>Ext w w'∧Vb w' (upA A w w') v r:=by
 obtain ⟨O,hB,j0⟩:=enter hA
 replace g0:=g0.mono j0
 obtain ⟨l2,rfl,v4,v5,rfl,h6,h9,u0,m2⟩:=g0
 obtain ⟨A7,c8,rfl⟩:=h6.form
 obtain ⟨v0,w0,rfl⟩:=h9.form
 replace h0:=h0.mono j0
 obtain ⟨y0,rfl,n2,o2,rfl,c0,d0,z0,p2⟩:=h0
 obtain ⟨a1,b1,rfl⟩:=c0.form
 obtain ⟨c1,d1,rfl⟩:=d0.form
 refine AP Tryz.func62 rfl Tryz.ntmps62 rfl ?_
 unfold Ca at hm
 refine Ab (Aa (BC 2 O rfl rfl fun e1 f1 k0 e0 a0=>?_))
 replace a0:Lc 2 f1 k0 e1 35 [(.string x0.name),(.int .i64 x0.cost),(.slice A7 x0.pre.length c8),(.slice v0 x0.effs.length w0)]:=a0
 refine BC 3 k0 rfl rfl fun g1 l0 i0 b0 f0=>?_
 replace f0:Lc 3 l0 i0 g1 35 [(.string x1.name),(.int .i64 x1.cost),(.slice a1 x1.pre.length b1),(.slice c1 x1.effs.length d1)]:=f0
 refine Am rfl rfl (o_z ?_)
 refine Ab (Bc [] i0 ?_)
 refine Az (fuel:=6) [] [(0,true),(1,true),(2,true),(3,true),(5,true),(6,true),(7,true),(8,true),(9,true),(10,true),(12,true),(13,true),(14,true),(15,true),(16,true),(17,true)] (by kernel_rfl) rfl ?_
 refine AM rfl rfl rfl ?_
 replace a0:=a0.st b0
 refine AK (hc:=fun w' ⟨O',hq⟩=>Blk.cell (i:=1) ((a0.st hq (by decide)).1) rfl) rfl rfl rfl ?_
 refine AM rfl rfl rfl (AK (hc:=fun w' ⟨O',hq⟩=>Blk.cell (i:=1) ((f0.st hq (by decide)).1) rfl) rfl rfl rfl ?_)
 refine AM rfl rfl rfl (AK (hc:=fun w' ⟨O',hq⟩=>Blk.cell (i:=2) ((a0.st hq (by decide)).1) rfl) rfl rfl rfl ?_)
 refine Hx rfl rfl rfl ?_
 replace h6:=(h6.st e0).st b0
 have h1:x0.pre.length≤9223372036854775807:=Nat.le_trans h6.len.2.1 h6.len.2.2
 have i1:inI64 (x0.pre.length:Int):=rngNat h1
 refine AM rfl rfl rfl (AK (hc:=fun w' ⟨O',hq⟩=>Blk.cell (i:=2) ((f0.st hq (by decide)).1) rfl) rfl rfl rfl ?_)
 refine Hx rfl rfl rfl ?_
 replace c0:=(c0.st e0).st b0
 have j1:x1.pre.length≤9223372036854775807:=Nat.le_trans c0.len.2.1 c0.len.2.2
 have k1:inI64 (x1.pre.length:Int):=rngNat j1
 refine AM rfl rfl rfl (AK (hc:=fun w' ⟨O',hq⟩=>Blk.cell (i:=3) ((a0.st hq (by decide)).1) rfl) rfl rfl rfl ?_)
 refine Hx rfl rfl rfl ?_
 replace h9:=(h9.st e0).st b0
 have l1:x0.effs.length≤9223372036854775807:=Nat.le_trans h9.len.2.1 h9.len.2.2
 have m1:inI64 (x0.effs.length:Int):=rngNat l1
 refine AM rfl rfl rfl (AK (hc:=fun w' ⟨O',hq⟩=>Blk.cell (i:=3) ((f0.st hq (by decide)).1) rfl) rfl rfl rfl ?_)
 refine Hx rfl rfl rfl ?_
 replace d0:=(d0.st e0).st b0
 have n1:x1.effs.length≤9223372036854775807:=Nat.le_trans d0.len.2.1 d0.len.2.2
 have o1:inI64 (x1.effs.length:Int):=rngNat n1
 refine As ?_
 refine Au (i:=4) (by kernel_rfl) rfl ?_
 obtain ⟨m0,p1,hm⟩:=bs hm
 refine Bf (O:=i0) (A:=All l0) (R:=fun w' F v=>Vb w' F v m0) (EZ (fun _ h=>h) u0 z0 p1) rfl rfl fun q2 q1 r1 n0 s1=>?_
 obtain ⟨rfl,t1⟩:=s1.int
 have hZ:=n0.lst [] (fun _ h=>h.elim)
 refine Ay [] hZ (by kernel_rfl) ?_
 refine Au (i:=11) (by kernel_rfl) rfl ?_
 obtain ⟨o0,u1,hm⟩:=bs hm
 refine Bf (O:=r1) (A:=All q1) (R:=fun w' F v=>Vb w' F v o0) (EZ (fun _ h=>h) i1 k1 u1) rfl rfl fun r2 v1 w1 p0 y1=>?_
 obtain ⟨rfl,z1⟩:=y1.int
 have hZ:=p0.lst [] (fun _ h=>h.elim)
 refine Ay [] hZ (by kernel_rfl) ?_
 refine Au (i:=18) (by kernel_rfl) rfl ?_
 obtain ⟨q0,a2,hm⟩:=bs hm
 refine Bf (O:=w1) (A:=All v1) (R:=fun w' F v=>Vb w' F v q0) (EZ (fun _ h=>h) m1 o1 a2) rfl rfl fun s2 t2 b2 r0 c2=>?_
 obtain ⟨rfl,d2⟩:=c2.int
 have hZ:=r0.lst [] (fun _ h=>h.elim)
 refine Ay [] hZ (by kernel_rfl) ?_
 refine Au (i:=19) (by kernel_rfl) rfl ?_
 refine Bi 4 (by decide) b2 (xs:=(([m0,o0,q0]:List Int):List Int)) rfl rfl rfl rfl ⟨(vInt t1),(vInt z1),(vInt d2),trivial⟩ (by decide) (by decide) rfl fun u2 e2 f2 s0 g2=>?_
 have hZ:=s0.lst [] (fun _ h=>h.elim)
 refine Ay [] hZ (by kernel_rfl) ?_
 refine Au (i:=20) (by kernel_rfl) rfl ?_
 obtain ⟨h2,i2,hm⟩:=bs hm
 refine Bf (O:=f2) (A:=All e2) (R:=fun w' F v=>Vb w' F v h2) (LY (fun _ h=>h) (g2).all i2) rfl rfl fun v2 w2 x2 t0 j2=>?_
 obtain ⟨rfl,k2⟩:=j2.int
 have hZ:=t0.lst [] (fun _ h=>h.elim)
 refine Ay [] hZ (by kernel_rfl) ?_
 refine Az (fuel:=0) [] [(21,true)] (by kernel_rfl) rfl ?_
 refine Eh rfl rfl rfl (As ?_)
 refine AZ (by kernel_rfl) ?_
 refine AF ?_
 obtain rfl:=sm hm
 replace hB:=((((((hB.st e0).st b0).st n0).st p0).st r0).st s0).st t0
 exact ret1v rfl (AC rfl) ⟨hB.ext,(vInt k2)⟩
noncomputable def Bb (x0:List Opr) (x1:Int) (x2:Int):Option (List Opr) :=
  bnd (chkI (x1 + 1)) fun n5=>bnd (lop (ρ:=(List Opr)) (fun (s10:(List Opr)×Int)=>if s10.2 < x2 then (bnd (lop (ρ:=Ctl ((List Opr)×Int) (List Opr)) (fun (s32:(List Opr)×Int)=>bnd (if x1 < s32.2 then (bnd (atI s32.1 s32.2) fun a56=>bnd (chkI (s32.2 - 1)) fun n77=>bnd (atI s32.1 n77) fun a80=>bnd (Ca a56 a80) fun q101=>if q101 < 0 then (some true) else (some false)) else (some false):Option Bool) fun y51=>if y51=true then (bnd (chkI (s32.2 - 1)) fun n115=>bnd (atI s32.1 n115) fun a118=>bnd (atI s32.1 s32.2) fun a139=>bnd (atI s32.1 s32.2) fun a160=>bnd (chkI (s32.2 - 1)) fun n181=>bnd (atI (s32.1.set (s32.2:Int).toNat a118) n181) fun a186=>bnd (chkI (s32.2 - 1)) fun n209=>some (.next (((s32.1.set (s32.2:Int).toNat a118).set (n181:Int).toNat a139),n209))) else (some (.brk (s32.1,s32.2)))) (s10.1,s10.2)) fun res30=>fin res30 fun (s216:(List Opr)×Int)=>bnd (chkI (s10.2 + 1)) fun n218=>some (.next (s216.1,n218))) else (some (.brk (s10.1,s10.2)))) (x0,n5)) fun res8=>fin res8 fun (s225:(List Opr)×Int)=>some s225.1
theorem BY {w:World} {O:Lab} {A0:Option Addr} {m0 c0 i0:Nat} {x0:List Opr} (v0:Rw i0 w O 35 (.slice A0 m0 c0) x0) {x1:Int} (rx1:inI64 x1) {x2:Int} (rx2:inI64 x2) {r:(List Opr)} (hm:Bb x0 x1 x2=some r) :
    Fn Tryz.prog 88 [(.slice A0 m0 c0),(.int .i64 x1),(.int .i64 x2),(.func (.func 62) #[] #[])] w fun v w'=>∃ O',St (eT i0) w O w' O'∧Rw i0 w' O' 35 (.slice A0 m0 c0) r:=by
 obtain ⟨O0,hE,n4,o4⟩:=ent1 (w:=w) (O:=O) v0.2.2
 obtain rfl:m0=x0.length:=v0.len.1
 have v0':=Rw.leave v0 n4 o4 (j:=2) (by decide)
 have hB:Bm w O0 w O0:=Bm.refl
 refine AP Tryz.func88 rfl Tryz.ntmps88 rfl ?_
 unfold Bb at hm
 refine Ab (Aa (Aj rfl rfl ?_))
 obtain ⟨n5,e6,hm⟩:=bs hm
 have r7:=(BG e6)
 refine EQ (he:=e6) rfl rfl rfl ?_
 refine Am rfl rfl (o_z ?_)
 obtain ⟨z1,p4,hm⟩:=bs hm
 refine Ax (aft z1 (fun (h0:(List Opr)×Int) (u1:Unit)=>[(0,(.slice A0 x0.length c0))]) (fun h0 u1 w'=>∃ O':Lab,Bm w O0 w' O'∧Rw 2 w' O' 35 (.slice A0 x0.length c0) h0.1∧inI64 h0.2)) ?_ ?_
 ·
  refine AG (DQ (σ:=(List Opr)×Int) (X:=Unit) p4 (fun (h0:(List Opr)×Int) (u1:Unit)=>[(0,(.slice A0 x0.length c0)),(1,(.int .i64 x1)),(2,(.int .i64 x2)),(3,(.func (.func 62) #[] #[])),(8,(.int .i64 h0.2))]) _ (fun h0 u1 w'=>∃ O':Lab,Bm w O0 w' O'∧Rw 2 w' O' 35 (.slice A0 x0.length c0) h0.1∧inI64 h0.2) _ () ⟨O0,hB,v0',r7⟩ ⟨rfl,rfl,rfl,rfl,rfl,trivial⟩ ?_)
  rintro h0 u1 t7 q4 ⟨r4,hB,v1,a2⟩ d0 b2 r0
  refine Ab (Ab (Aa (Aj rfl rfl (Aj rfl rfl (Dj rfl rfl rfl (fun c2=>?_) fun c2=>?_)))))
  ·
   replace d0:=ip d0 c2
   refine o_z ?_
   refine Ah rfl (AI (Ab (AG (Ab (Aa (Aj rfl rfl (Am rfl rfl (o_z ?_))))))))
   obtain ⟨w0,d2,d0⟩:=bs d0
   refine Ax (aft w0 (fun (j0:(List Opr)×Int) (w1:Unit)=>[(0,(.slice A0 x0.length c0)),(1,(.int .i64 x1)),(2,(.int .i64 x2)),(3,(.func (.func 62) #[] #[])),(8,(.int .i64 h0.2))]) (fun j0 w1 w'=>∃ O':Lab,Bm w O0 w' O'∧Rw 2 w' O' 35 (.slice A0 x0.length c0) j0.1∧inI64 j0.2)) ?_ ?_
   ·
    refine AG (DQ (σ:=(List Opr)×Int) (X:=Unit) d2 (fun (j0:(List Opr)×Int) (w1:Unit)=>[(0,(.slice A0 x0.length c0)),(1,(.int .i64 x1)),(2,(.int .i64 x2)),(3,(.func (.func 62) #[] #[])),(8,(.int .i64 h0.2)),(9,(.int .i64 j0.2))]) _ (fun j0 w1 w'=>∃ O':Lab,Bm w O0 w' O'∧Rw 2 w' O' 35 (.slice A0 x0.length c0) j0.1∧inI64 j0.2) _ () ⟨r4,hB,v1,a2⟩ ⟨rfl,rfl,rfl,rfl,rfl,rfl,trivial⟩ ?_)
    rintro j0 w1 e2 s4 ⟨y1,hB,e0,y3⟩ a0 f2 s0
    refine Ab (Ab ?_)
    obtain ⟨t4,b0,a0⟩:=bs a0
    refine Ax (fun l' w'=>∃ (u4:Unit) (O':Lab),subs l' [(0,(.slice A0 x0.length c0)),(1,(.int .i64 x1)),(2,(.int .i64 x2)),(3,(.func (.func 62) #[] #[])),(8,(.int .i64 h0.2)),(9,(.int .i64 j0.2)),(34,(.bool t4))]∧Bm w O0 w' O'∧Rw 2 w' O' 35 (.slice A0 x0.length c0) j0.1) ?_ ?_
    ·
     refine Bc [] y1 ?_
     refine Az (fuel:=3) [] [(0,true),(1,true),(2,true),(3,true),(4,true),(5,true),(6,true),(7,true),(8,true),(9,true),(10,true),(11,true),(12,true),(13,true)] (by kernel_rfl) rfl ?_
     refine AH rfl rfl rfl (AH rfl rfl rfl (RK rfl rfl rfl rfl (fun g2=>?_) fun g2=>?_))
     ·
      replace b0:=ip b0 g2
      refine AH rfl rfl rfl (Al rfl (Ak rfl rfl (BS rfl rfl (Al rfl (Ak rfl rfl (BS rfl rfl (Al rfl (Ak rfl rfl (BS rfl rfl (Al rfl (Ak rfl rfl ?_)))))))))))
      obtain ⟨y0,v4,b0⟩:=bs b0
      obtain ⟨w4,x4⟩:=AO v4
      obtain ⟨u7,v7,y4,h2,i2,j2,k2,w7,x7,rfl,z3,a4,z4,a5⟩:=e0.elemF x4
      obtain ⟨b5,c5,rfl⟩:=z3.form
      obtain ⟨d5,e5,rfl⟩:=a4.form
      refine DM (hA:=h2) (hj:=(Int.toNat_of_nonneg w4).symm) (hlt:=j2) rfl rfl rfl ?_
      refine Al rfl (Ak rfl rfl (Fu (hl:=rfl) (hb:=fun w' ⟨O',hq⟩=>(AL (hq.agree (i:=2) (by decide)) i2 k2)) rfl rfl ?_))
      refine Al rfl (Ak rfl rfl (BS rfl rfl (Al rfl (Ak rfl rfl (BS rfl rfl (Al rfl (Ak rfl rfl ?_)))))))
      obtain ⟨y7,b4,b0⟩:=bs b0
      have z7:=(BG b4)
      refine RS (he:=b4) rfl rfl rfl ?_
      refine Al rfl (Ak rfl rfl ?_)
      obtain ⟨z0,f5,b0⟩:=bs b0
      obtain ⟨g5,h5⟩:=AO f5
      obtain ⟨a8,b8,i5,l2,m2,n2,o2,c8,d8,rfl,c4,d4,j5,p2⟩:=e0.elemF h5
      obtain ⟨k5,l5,rfl⟩:=c4.form
      obtain ⟨m5,o5,rfl⟩:=d4.form
      refine DM (hA:=l2) (hj:=(Int.toNat_of_nonneg g5).symm) (hlt:=n2) rfl rfl rfl ?_
      refine Al rfl (Ak rfl rfl (Fu (hl:=rfl) (hb:=fun w' ⟨O',hq⟩=>(AL (hq.agree (i:=2) (by decide)) m2 o2)) rfl rfl ?_))
      refine As ?_
      refine Au (i:=14) (by kernel_rfl) rfl ?_
      refine Ar rfl rfl ?_
      obtain ⟨q2,r2,b0⟩:=bs b0
      refine LL (O:=y1) (A:=All e2) (R:=fun w' F v=>Vb w' F v q2) (Gd (fun _ h=>h) (Vb.mono (F:=Fr 0 e2 y1) (Vb.ofAgg (cs:=[(.string y0.name),(.int .i64 y0.cost),(.slice b5 y0.pre.length c5),(.slice d5 y0.effs.length e5)]) (x:=y0) rfl ⟨_,_,rfl,z3,a4,z4,a5⟩) Fr.lt) (Vb.mono (F:=Fr 0 e2 y1) (Vb.ofAgg (cs:=[(.string z0.name),(.int .i64 z0.cost),(.slice k5 z0.pre.length l5),(.slice m5 z0.effs.length o5)]) (x:=z0) rfl ⟨_,_,rfl,c4,d4,j5,p2⟩) Fr.lt) r2) rfl rfl rfl fun p5 q5 r5 k0 s2=>?_
      obtain ⟨rfl,s5⟩:=s2.int
      have hZ:=k0.lst [] (fun _ h=>h.elim)
      refine Ay [] hZ (by kernel_rfl) ?_
      refine Az (fuel:=0) [] [(15,true),(16,true)] (by kernel_rfl) rfl ?_
      refine Al rfl (Ak rfl rfl (Bn (fun _ _=>Cv rfl rfl) rfl (fun t0=>?_) (fun t0=>?_)))
      ·
       replace b0:=ip b0 t0
       refine Ce rfl rfl rfl rfl (As ?_)
       refine AZ (by kernel_rfl) ?_
       obtain rfl:=sm b0
       exact ⟨(),_,⟨rfl,rfl,rfl,rfl,rfl,rfl,rfl,trivial⟩,hB.st k0,e0.st k0⟩
      replace b0:=im b0 t0
      refine Ce rfl rfl rfl rfl (As ?_)
      refine AZ (by kernel_rfl) ?_
      obtain rfl:=sm b0
      exact ⟨(),_,⟨rfl,rfl,rfl,rfl,rfl,rfl,rfl,trivial⟩,hB.st k0,e0.st k0⟩
     replace b0:=im b0 g2
     refine AH rfl rfl rfl (AB rfl rfl rfl rfl rfl (AB rfl rfl rfl rfl rfl (AB rfl rfl rfl rfl rfl (AB rfl rfl rfl rfl rfl (AB rfl rfl rfl rfl rfl (AB rfl rfl rfl rfl rfl (AB rfl rfl rfl rfl rfl (AB rfl rfl rfl rfl rfl (AB rfl rfl rfl rfl rfl (AB rfl rfl rfl rfl rfl (As ?_)))))))))))
     refine Au (i:=14) (by kernel_rfl) rfl ?_
     refine An rfl rfl rfl rfl (Ay [] ((St.refl nT _ _).lst [] (fun _ h=>h.elim)) (by kernel_rfl) ?_)
     refine Az (fuel:=0) [] [(15,true),(16,true)] (by kernel_rfl) rfl ?_
     refine AB rfl rfl rfl rfl rfl (Cb rfl rfl rfl rfl (As ?_))
     refine AZ (by kernel_rfl) ?_
     obtain rfl:=sm b0
     exact ⟨(),_,⟨rfl,rfl,rfl,rfl,rfl,rfl,rfl,trivial⟩,hB,e0⟩
    rintro t5 u5 ⟨u4,t2,a1,hB,e0⟩
    refine AE _ a1 ?_
    refine Bp rfl (fun u0=>?_) (fun u0=>?_)
    ·
     replace a0:=ip a0 u0
     refine AI (Ab (AG (Bc [(15,[2])] t2 ?_)))
     refine Az (fuel:=6) [] [(0,true),(1,true),(5,true),(6,true),(7,true),(8,true),(9,true),(10,true),(11,true),(12,true),(13,true),(14,true)] (by kernel_rfl) rfl ?_
     refine AH rfl rfl rfl (AH rfl rfl rfl (AH rfl rfl rfl (AH rfl rfl rfl ?_)))
     obtain ⟨v5,b1,a0⟩:=bs a0
     have w5:=(BG b1)
     refine NF (he:=b1) rfl rfl rfl rfl ?_
     obtain ⟨f0,u2,a0⟩:=bs a0
     obtain ⟨v2,w2⟩:=AO u2
     obtain ⟨x5,y5,e4,c1,d1,e1,f1,z5,a6,rfl,g1,h1,y2,z2⟩:=e0.elemF w2
     obtain ⟨a3,b3,rfl⟩:=g1.form
     obtain ⟨c3,d3,rfl⟩:=h1.form
     refine Bl (hA:=c1) (hj:=(Int.toNat_of_nonneg v2).symm) (hlt:=e1) rfl rfl rfl rfl ?_
     refine Cl (hl:=rfl) (hb:=fun w' ⟨O',hq⟩=>(AL (hq.agree (i:=2) (by decide)) d1 f1)) rfl rfl rfl ?_
     refine AH rfl rfl rfl (AH rfl rfl rfl ?_)
     obtain ⟨g0,e3,a0⟩:=bs a0
     obtain ⟨f3,g3⟩:=AO e3
     obtain ⟨b6,c6,f4,i1,j1,k1,l1,d6,f6,rfl,l0,n0,h3,i3⟩:=e0.elemF g3
     obtain ⟨j3,k3,rfl⟩:=l0.form
     obtain ⟨l3,m3,rfl⟩:=n0.form
     refine Bl (hA:=i1) (hj:=(Int.toNat_of_nonneg f3).symm) (hlt:=k1) rfl rfl rfl rfl ?_
     refine Cl (hl:=rfl) (hb:=fun w' ⟨O',hq⟩=>(AL (hq.agree (i:=2) (by decide)) j1 l1)) rfl rfl rfl ?_
     obtain ⟨g6,n3,a0⟩:=bs a0
     obtain ⟨o3,m1⟩:=AO n3
     obtain ⟨h6,i6,g4,p0,h4,n1,i4,j6,k6,rfl,p3,q3,l6,m6⟩:=e0.elemF m1
     obtain ⟨n6,o6,rfl⟩:=p3.form
     obtain ⟨p6,q6,rfl⟩:=q3.form
     refine Bl (hA:=p0) (hj:=(Int.toNat_of_nonneg o3).symm) (hlt:=n1) rfl rfl rfl rfl ?_
     refine As ?_
     refine Az (fuel:=3) [2] [(2,true),(3,true),(4,true)] (by kernel_rfl) rfl ?_
     refine AH rfl rfl rfl (AH rfl rfl rfl ?_)
     obtain ⟨r6,o1,a0⟩:=bs a0
     have s6:=(BG o1)
     refine NF (he:=o1) rfl rfl rfl rfl ?_
     refine As ?_
     refine Au (i:=15) (by kernel_rfl) rfl ?_
     refine EB rfl e0 (a:=f0) (Vb.ofAgg (cs:=[(.string f0.name),(.int .i64 f0.cost),(.slice a3 f0.pre.length b3),(.slice c3 f0.effs.length d3)]) (x:=f0) rfl ⟨_,_,rfl,g1,h1,y2,z2⟩) p0 rfl rfl (Aw m1) fun t6 o0 e0=>?_
     have hZ:=o0.lst [2] (fun _ h=>by cases h;decide)
     refine Ay [] hZ (by kernel_rfl) ?_
     refine Az (fuel:=1) [] [(16,true)] (by kernel_rfl) rfl ?_
     obtain ⟨u6,r3,a0⟩:=bs a0
     obtain ⟨s3,p1⟩:=AO r3
     obtain ⟨v6,w6,j4,q0,k4,q1,l4,x6,y6,rfl,t3,u3,z6,a7⟩:=e0.elemF p1
     obtain ⟨b7,c7,rfl⟩:=t3.form
     obtain ⟨d7,e7,rfl⟩:=u3.form
     refine Bl (hA:=q0) (hj:=(Int.toNat_of_nonneg s3).symm) (hlt:=q1) rfl rfl rfl rfl ?_
     refine As ?_
     refine Au (i:=17) (by kernel_rfl) rfl ?_
     replace l0:=l0.st o0
     replace n0:=n0.st o0
     refine EB rfl e0 (a:=g0) (Vb.ofAgg (cs:=[(.string g0.name),(.int .i64 g0.cost),(.slice j3 g0.pre.length k3),(.slice l3 g0.effs.length m3)]) (x:=g0) rfl ⟨_,_,rfl,l0,n0,h3,i3⟩) q0 rfl rfl (Aw p1) fun f7 v3 e0=>?_
     refine BK (by kernel_rfl) ?_
     refine AZ (by kernel_rfl) ?_
     refine Aa (Aj rfl rfl ?_)
     obtain ⟨g7,r1,a0⟩:=bs a0
     have w3:=(BG r1)
     refine IH (he:=r1) rfl rfl rfl ?_
     refine Am rfl rfl (o_z ?_)
     obtain rfl:=sm a0
     exact show Exists _ from ⟨_,(),rfl,⟨rfl,rfl,rfl,rfl,rfl,rfl,trivial⟩,_,(hB.st o0).st v3,e0,w3⟩
    replace a0:=im' a0 u0
    refine Ck ?_
    obtain rfl:=sm a0
    exact show Exists _ from ⟨_,(),s0 _ rfl,⟨rfl,rfl,rfl,rfl,rfl,trivial⟩,_,hB,e0,y3⟩
   rintro h7 i7 ⟨j7,k7,rfl,s1,l7,hB,e0,y3⟩
   replace d0:=AV d0
   refine AE _ s1 ?_
   refine Aa (Aj rfl rfl ?_)
   obtain ⟨m7,t1,d0⟩:=bs d0
   have x3:=(BG t1)
   refine EQ (he:=t1) rfl rfl rfl ?_
   refine Am rfl rfl (o_z ?_)
   obtain rfl:=sm d0
   exact show Exists _ from ⟨_,(),rfl,⟨rfl,rfl,rfl,rfl,rfl,trivial⟩,_,hB,e0,x3⟩
  replace d0:=im d0 c2
  refine o_z ?_
  refine Ae rfl (Ck ?_)
  obtain rfl:=sm d0
  exact show Exists _ from ⟨_,(),r0 _ rfl,⟨rfl,trivial⟩,_,hB,v1,a2⟩
 rintro n7 o7 ⟨p7,q7,rfl,m4,s7,hB,v1,a2⟩
 replace hm:=AV hm
 obtain rfl:=sm hm
 obtain ⟨O',hS',hz,hl⟩:=hE.leave (fun q=>if q=2 then i0 else 0) rfl hB
 exact ret0n rfl  ⟨O',hS',(Rw.leave v1 hz (hl 2 (by decide) (by decide)) v0.2.2)⟩
noncomputable def Bu (x0:List Opr) (x1:Int):Option (List Opr) :=
  bnd (lop (ρ:=(List Opr)) (fun (s6:(List Opr)×Int×Int)=>if s6.2.2≤x1 then (bnd (Bb s6.1 s6.2.1 s6.2.2) fun q28=>bnd (chkI (s6.2.2 + 20)) fun n36=>some (.next (q28,s6.2.2,n36))) else (some (.brk (s6.1,s6.2.1,s6.2.2)))) (x0,0,20)) fun res4=>fin res4 fun (s43:(List Opr)×Int×Int)=>bnd (Bb s43.1 s43.2.1 x1) fun q45=>bnd (lop (ρ:=(List Opr)) (fun (s55:(List Opr)×Int)=>if s55.2 < x1 then (bnd (chkI (2 * s55.2)) fun n75=>bnd (lop (ρ:=Ctl ((List Opr)×Int) (List Opr)) (fun (s80:(List Opr)×Int×Int)=>if s80.2.2≤x1 then (bnd (chkI (s80.2.1 + s55.2)) fun n102=>bnd (BL s80.1 s80.2.1 n102 s80.2.2) fun q105=>bnd (chkI (2 * s55.2)) fun n113=>bnd (chkI (s80.2.2 + n113)) fun n116=>some (.next (q105,s80.2.2,n116))) else (some (.brk (s80.1,s80.2.1,s80.2.2)))) (s55.1,0,n75)) fun res78=>fin res78 fun (s123:(List Opr)×Int×Int)=>bnd (bnd (chkI (s123.2.1 + s55.2)) fun n131=>if n131 < x1 then (bnd (BL s123.1 s123.2.1 n131 x1) fun q135=>some q135) else (some s123.1):Option (List Opr)) fun y125=>bnd (chkI (s55.2 * 2)) fun n147=>some (.next (y125,n147))) else (some (.brk (s55.1,s55.2)))) (q45,20)) fun res53=>fin res53 fun (s154:(List Opr)×Int)=>some s154.1
theorem Dl {w:World} {O:Lab} {A0:Option Addr} {m0 c0 i0:Nat} {x0:List Opr} (p0:Rw i0 w O 35 (.slice A0 m0 c0) x0) {x1:Int} (rx1:inI64 x1) {r:(List Opr)} (hm:Bu x0 x1=some r) :
    Fn Tryz.prog 79 [(.slice A0 m0 c0),(.int .i64 x1),(.func (.func 62) #[] #[])] w fun v w'=>∃ O',St (eT i0) w O w' O'∧Rw i0 w' O' 35 (.slice A0 m0 c0) r:=by
 obtain ⟨O0,hE,l2,m2⟩:=ent1 (w:=w) (O:=O) p0.2.2
 obtain rfl:m0=x0.length:=p0.len.1
 have p0':=Rw.leave p0 l2 m2 (j:=2) (by decide)
 have hB:Bm w O0 w O0:=Bm.refl
 refine AP Tryz.func79 rfl Tryz.ntmps79 rfl ?_
 unfold Bu at hm
 refine Ab (Aa (Am rfl rfl (o_z ?_)))
 refine Ab (Aa (Aj rfl rfl (Am rfl rfl (Am rfl rfl (o_z ?_)))))
 refine Ab ?_
 obtain ⟨i1,n2,hm⟩:=bs hm
 refine Ax (aft i1 (fun (s6:(List Opr)×Int×Int) (x7:Unit)=>[(0,(.slice A0 x0.length c0)),(1,(.int .i64 x1)),(2,(.func (.func 62) #[] #[])),(6,(.int .i64 20)),(7,(.int .i64 s6.2.1))]) (fun s6 x7 w'=>∃ O':Lab,Bm w O0 w' O'∧Rw 2 w' O' 35 (.slice A0 x0.length c0) s6.1∧inI64 s6.2.1∧inI64 s6.2.2)) ?_ ?_
 ·
  refine AG (DQ (σ:=(List Opr)×Int×Int) (X:=Unit) n2 (fun (s6:(List Opr)×Int×Int) (x7:Unit)=>[(0,(.slice A0 x0.length c0)),(1,(.int .i64 x1)),(2,(.func (.func 62) #[] #[])),(6,(.int .i64 20)),(7,(.int .i64 s6.2.1)),(8,(.int .i64 s6.2.2))]) _ (fun s6 x7 w'=>∃ O':Lab,Bm w O0 w' O'∧Rw 2 w' O' 35 (.slice A0 x0.length c0) s6.1∧inI64 s6.2.1∧inI64 s6.2.2) _ () ⟨O0,hB,p0',(show inI64 (0) from by decide),(show inI64 (20) from by decide)⟩ ⟨rfl,rfl,rfl,rfl,rfl,rfl,trivial⟩ ?_)
  rintro s6 x7 d4 o2 ⟨p2,hB,b1,c1,d1⟩ e0 j1 j0
  refine Ab (Ab (Aa (Aj rfl rfl (Aj rfl rfl (Hw rfl rfl rfl (fun k1=>?_) fun k1=>?_)))))
  ·
   replace e0:=ip e0 k1
   refine o_z ?_
   refine Ah rfl (AI (AG (Ab (Aa (Aj rfl rfl (Aj rfl rfl (Aj rfl rfl (Aj rfl rfl ?_))))))))
   obtain ⟨e4,q2,e0⟩:=bs e0
   refine Cc (O:=p2) (BY b1 c1 d1 q2) rfl rfl fun f4 g4 h4 r2 s2=>?_
   refine o_z ?_
   refine Ab (Aa (Aj rfl rfl (Am rfl rfl (o_z ?_))))
   refine Aa (Aj rfl rfl (Aj rfl rfl ?_))
   obtain ⟨i4,g2,e0⟩:=bs e0
   have t2:=(BG g2)
   refine EQ (he:=g2) rfl rfl rfl ?_
   refine Am rfl rfl (o_z ?_)
   obtain rfl:=sm e0
   exact show Exists _ from ⟨_,(),rfl,⟨rfl,rfl,rfl,rfl,rfl,rfl,trivial⟩,_,hB.st r2,s2,d1,t2⟩
  replace e0:=im e0 k1
  refine o_z ?_
  refine Ae rfl (Ck ?_)
  obtain rfl:=sm e0
  exact show Exists _ from ⟨_,(),j0 _ rfl,⟨rfl,rfl,rfl,rfl,rfl,trivial⟩,_,hB,b1,c1,d1⟩
 rintro j4 k4 ⟨l4,m4,rfl,l1,u2,hB,b1,c1,d1⟩
 replace hm:=AV hm
 refine AE _ l1 ?_
 refine Ab (Aa (Aj rfl rfl (Aj rfl rfl (Aj rfl rfl (Aj rfl rfl ?_)))))
 obtain ⟨n4,v2,hm⟩:=bs hm
 refine Cc (O:=u2) (BY b1 c1 rx1 v2) rfl rfl fun o4 p4 w2 h2 x2=>?_
 refine o_z ?_
 obtain ⟨q0,m1,hm⟩:=bs hm
 refine Ax (aft q0 (fun (g0:(List Opr)×Int) (e1:Unit)=>[(0,(.slice A0 x0.length c0))]) (fun g0 e1 w'=>∃ O':Lab,Bm w O0 w' O'∧Rw 2 w' O' 35 (.slice A0 x0.length c0) g0.1∧inI64 g0.2)) ?_ ?_
 ·
  refine AG ?_
  replace hB:=hB.st h2
  refine DQ (σ:=(List Opr)×Int) (X:=Unit) m1 (fun (g0:(List Opr)×Int) (e1:Unit)=>[(0,(.slice A0 x0.length c0)),(1,(.int .i64 x1)),(2,(.func (.func 62) #[] #[])),(6,(.int .i64 g0.2))]) _ (fun g0 e1 w'=>∃ O':Lab,Bm w O0 w' O'∧Rw 2 w' O' 35 (.slice A0 x0.length c0) g0.1∧inI64 g0.2) _ () ⟨w2,hB,x2,(show inI64 (20) from by decide)⟩ ⟨rfl,rfl,rfl,rfl,trivial⟩ ?_
  rintro g0 e1 q4 y2 ⟨z2,hB,f1,i2⟩ a0 n1 k0
  refine Ab (Ab (Aa (Aj rfl rfl (Aj rfl rfl (Dj rfl rfl rfl (fun o1=>?_) fun o1=>?_)))))
  ·
   replace a0:=ip a0 o1
   refine o_z ?_
   refine Ah rfl (AI (AG (Ab (Aa (Aj rfl rfl ?_)))))
   obtain ⟨r4,j2,a0⟩:=bs a0
   have a3:=(BG j2)
   refine Lx (he:=j2) rfl rfl rfl ?_
   refine Am rfl rfl (Am rfl rfl (o_z ?_))
   refine Ab ?_
   obtain ⟨r0,p1,a0⟩:=bs a0
   refine Ax (aft r0 (fun (f0:(List Opr)×Int×Int) (g1:Unit)=>[(0,(.slice A0 x0.length c0)),(1,(.int .i64 x1)),(2,(.func (.func 62) #[] #[])),(6,(.int .i64 g0.2)),(7,(.int .i64 f0.2.1))]) (fun f0 g1 w'=>∃ O':Lab,Bm w O0 w' O'∧Rw 2 w' O' 35 (.slice A0 x0.length c0) f0.1∧inI64 f0.2.1∧inI64 f0.2.2)) ?_ ?_
   ·
    refine AG (DQ (σ:=(List Opr)×Int×Int) (X:=Unit) p1 (fun (f0:(List Opr)×Int×Int) (g1:Unit)=>[(0,(.slice A0 x0.length c0)),(1,(.int .i64 x1)),(2,(.func (.func 62) #[] #[])),(6,(.int .i64 g0.2)),(7,(.int .i64 f0.2.1)),(8,(.int .i64 f0.2.2))]) _ (fun f0 g1 w'=>∃ O':Lab,Bm w O0 w' O'∧Rw 2 w' O' 35 (.slice A0 x0.length c0) f0.1∧inI64 f0.2.1∧inI64 f0.2.2) _ () ⟨z2,hB,f1,(show inI64 (0) from by decide),a3⟩ ⟨rfl,rfl,rfl,rfl,rfl,rfl,trivial⟩ ?_)
    rintro f0 g1 s4 b3 ⟨c3,hB,s0,h1,h0⟩ d0 q1 l0
    refine Ab (Ab (Aa (Aj rfl rfl (Aj rfl rfl (Hw rfl rfl rfl (fun n0=>?_) fun n0=>?_)))))
    ·
     replace d0:=ip d0 n0
     refine o_z ?_
     refine Ah rfl (AI (AG (Ab (Aa (Aj rfl rfl (Aj rfl rfl (Aj rfl rfl (Aj rfl rfl ?_))))))))
     obtain ⟨d3,t0,d0⟩:=bs d0
     have r1:=(BG t0)
     refine EQ (he:=t0) rfl rfl rfl ?_
     refine Aj rfl rfl (Aj rfl rfl ?_)
     obtain ⟨e3,s1,d0⟩:=bs d0
     refine Cc (O:=c3) (Cd s0 h1 r1 h0 s1) rfl rfl fun f3 g3 h3 t1 u1=>?_
     refine o_z ?_
     refine Ab (Aa (Aj rfl rfl (Am rfl rfl (o_z ?_))))
     refine Aa (Aj rfl rfl (Aj rfl rfl ?_))
     obtain ⟨i3,u0,d0⟩:=bs d0
     have j3:=(BG u0)
     refine Lx (he:=u0) rfl rfl rfl ?_
     obtain ⟨k3,v0,d0⟩:=bs d0
     have v1:=(BG v0)
     refine EQ (he:=v0) rfl rfl rfl ?_
     refine Am rfl rfl (o_z ?_)
     obtain rfl:=sm d0
     exact show Exists _ from ⟨_,(),rfl,⟨rfl,rfl,rfl,rfl,rfl,rfl,trivial⟩,_,hB.st t1,u1,h0,v1⟩
    replace d0:=im d0 n0
    refine o_z ?_
    refine Ae rfl (Ck ?_)
    obtain rfl:=sm d0
    exact show Exists _ from ⟨_,(),l0 _ rfl,⟨rfl,rfl,rfl,rfl,rfl,trivial⟩,_,hB,s0,h1,h0⟩
   rintro l3 m3 ⟨n3,o3,rfl,w0,w1,hB,s0,h1,h0⟩
   replace a0:=AV a0
   refine AE _ w0 ?_
   refine Ab ?_
   obtain ⟨y1,b0,a0⟩:=bs a0
   refine Ax (fun l' w'=>∃ (z1:Unit) (O':Lab),subs l' [(0,(.slice A0 x0.length c0)),(1,(.int .i64 x1)),(2,(.func (.func 62) #[] #[])),(6,(.int .i64 g0.2))]∧Bm w O0 w' O'∧Rw 2 w' O' 35 (.slice A0 x0.length c0) y1) ?_ ?_
   ·
    refine Ab (Aa (Aj rfl rfl (Aj rfl rfl ?_)))
    obtain ⟨p3,y0,b0⟩:=bs b0
    have a2:=(BG y0)
    refine EQ (he:=y0) rfl rfl rfl ?_
    refine Am rfl rfl (o_z ?_)
    refine Ab (Aa (Aj rfl rfl (Aj rfl rfl (Dj rfl rfl rfl (fun o0=>?_) fun o0=>?_))))
    ·
     replace b0:=ip b0 o0
     refine o_z ?_
     refine Ah rfl (Aa (Aj rfl rfl (Aj rfl rfl (Aj rfl rfl (Aj rfl rfl (Aj rfl rfl ?_))))))
     obtain ⟨q3,b2,b0⟩:=bs b0
     refine Cc (O:=w1) (Cd s0 h1 a2 rx1 b2) rfl rfl fun r3 s3 t3 c2 d2=>?_
     refine o_z ?_
     obtain rfl:=sm b0
     exact ⟨(),_,⟨rfl,rfl,rfl,rfl,trivial⟩,hB.st c2,d2⟩
    replace b0:=im b0 o0
    refine o_z ?_
    refine Ae rfl (AI ?_)
    obtain rfl:=sm b0
    exact ⟨(),_,⟨rfl,rfl,rfl,rfl,trivial⟩,hB,s0⟩
   rintro u3 v3 ⟨z1,w3,z0,hB,e2⟩
   refine AE _ z0 ?_
   refine Aa (Aj rfl rfl ?_)
   obtain ⟨x3,a1,a0⟩:=bs a0
   have f2:=(BG a1)
   refine Lx (he:=a1) rfl rfl rfl ?_
   refine Am rfl rfl (o_z ?_)
   obtain rfl:=sm a0
   exact show Exists _ from ⟨_,(),rfl,⟨rfl,rfl,rfl,rfl,trivial⟩,_,hB,e2,f2⟩
  replace a0:=im a0 o1
  refine o_z ?_
  refine Ae rfl (Ck ?_)
  obtain rfl:=sm a0
  exact show Exists _ from ⟨_,(),k0 _ rfl,⟨rfl,trivial⟩,_,hB,f1,i2⟩
 replace hB:=hB.st h2
 rintro y3 z3 ⟨a4,b4,rfl,k2,c4,hB,f1,i2⟩
 replace hm:=AV hm
 obtain rfl:=sm hm
 obtain ⟨O',hS',hz,hl⟩:=hE.leave (fun q=>if q=2 then i0 else 0) rfl hB
 exact ret0n rfl  ⟨O',hS',(Rw.leave f1 hz (hl 2 (by decide) (by decide)) p0.2.2)⟩
noncomputable def Bg (x0:List Opr):Option (List Opr) :=
  bnd (Bu x0 (x0.length:Int)) fun q5=>some q5
theorem CP {w:World} {O:Lab} {A0:Option Addr} {m0 c0 i0:Nat} {x0:List Opr} (a0:Rw i0 w O 35 (.slice A0 m0 c0) x0) {r:(List Opr)} (hm:Bg x0=some r) :
    Fn Tryz.prog 61 [(.slice A0 m0 c0),(.func (.func 62) #[] #[])] w fun v w'=>∃ O',St (eT i0) w O w' O'∧Rw i0 w' O' 35 (.slice A0 m0 c0) r:=by
 obtain ⟨O0,hE,b0,d0⟩:=ent1 (w:=w) (O:=O) a0.2.2
 obtain rfl:m0=x0.length:=a0.len.1
 have a0':=Rw.leave a0 b0 d0 (j:=2) (by decide)
 have hB:Bm w O0 w O0:=Bm.refl
 refine AP Tryz.func61 rfl Tryz.ntmps61 rfl ?_
 unfold Bg at hm
 refine Aa (Aj rfl rfl (Aj rfl rfl (AX rfl rfl ?_)))
 have l4:x0.length≤9223372036854775807:=Nat.le_trans a0'.len.2.1 a0'.len.2.2
 have r3:inI64 (x0.length:Int):=rngNat l4
 refine Aj rfl rfl ?_
 obtain ⟨q5,e6,hm⟩:=bs hm
 refine Cc (O:=O0) (Dl a0' r3 e6) rfl rfl fun f0 w7 O8 S9 e0=>?_
 refine o_z ?_
 obtain rfl:=sm hm
 replace hB:=hB.st S9
 obtain ⟨O',hS',hz,hl⟩:=hE.leave (fun q=>if q=2 then i0 else 0) rfl hB
 exact ret0n rfl  ⟨O',hS',(Rw.leave e0 hz (hl 2 (by decide) (by decide)) a0.2.2)⟩
end
section
open Go Go.RowKit
def TabF (w : World) (F : Nat → Prop) : Prop := ∀ w', Agree F w w' → Lib.TabIs Tryz.prog w' "internal/strconv.uint64pow10" .u64 Lib.pow10Tab
theorem TabF.mono {w:World} {F F':Nat→Prop} (h:TabF w F) (hf:∀ k,F k→F' k):TabF w F':=fun w' ha=>h w' fun k hk=>ha k (hf k hk)
theorem TabF.bm {w w':World} {O O':Lab} (h:TabF w (Fr 0 w O)) (hB:Bm w O w' O'):TabF w' (Fr 0 w' O'):=fun w'' ha=>h w'' fun k hk=>by
  obtain ⟨h1,h2⟩:=hB.same k hk.1 (by rw [hk.2];omega)
  rw [ha k ⟨Nat.lt_of_lt_of_le hk.1 hB.size,h2.trans hk.2⟩,h1]
theorem TabF.bs {w w':World} {A:Nat→Prop} {O':Lab} (hA:∀ k,A k→k < w.heap.size) (h:TabF w A) (hB:Bs w A w' O'):TabF w' (Fr 0 w' O'):=fun w'' ha=>h w'' fun k hk=>by
  have h0:O' k=0:=by
    rcases hB.lab k (hA k hk) with ⟨_,e⟩|⟨e,_⟩
    · exact e
    · exact absurd hk e
  rw [ha k ⟨Nat.lt_of_lt_of_le (hA k hk) hB.ext.size,h0⟩,hB.ext.block k (hA k hk)]
def itoaF (x:Int):ByteArray:=⟨(Lib.itoa x).toArray⟩
def Bh (x0:Int):Option ByteArray:=some (itoaF x0)
theorem Gj {x:Int} (h:inI64 x):(itoaF x).size≤21:=by
  have:=Lib.itoa_length_le x h.1 h.2
  simpa [itoaF,ByteArray.size] using this
theorem DF {w:World} {A:Nat→Prop} (hA:∀ k,A k→k < w.heap.size) {x0:Int} (rx0:inI64 x0) (hT:TabF w A) {r:ByteArray} (hm:Bh x0=some r) :
    Fn Tryz.prog 66 [.int .i64 x0] w fun v w'=>Ext w w'∧Vb w' (upA A w w') v r:=by
  injection hm with hm
  subst hm
  intro d
  have hT2 : Lib.TabIs Tryz.prog (dr w d) "internal/strconv.uint64pow10" .u64 Lib.pow10Tab := hT (dr w d) fun _ _ => rfl
  refine (Tryz.strconv_Itoa x0 rx0.1 rx0.2 (dr w d) hT2).mono fun e w' ⟨he,k,os,hw⟩=>?_
  subst hw
  refine ⟨_,Go.Sort.grow w os,d + k,he,rfl,⟨rfl,rfl,rfl,by simp [Go.Sort.grow],fun q hq=>?_⟩,vStr (Nat.le_trans (Gj rx0) (by decide))⟩
  show (w.heap ++ os)[q]?=w.heap[q]?
  rw [Array.getElem?_append_left hq]
attribute [local irreducible] ewp owp hwp hwq Ev Evg Fn retPost Res1
attribute [local irreducible] hwx loudX
instance:TMap Tryz.prog 108 9 109:=⟨Tryz.underlying108⟩
instance:TKey Tryz.prog 9 ByteArray:=⟨Tryz.underlying9⟩
instance:TMap Tryz.prog 109 26 3:=⟨Tryz.underlying109⟩
noncomputable def AN (x0:ByteArray) (x1:Fct) (x2:BxM) (x3:BxR 80 9 ByteArray):Option (BxM×(BxR 80 9 ByteArray)) :=
  bnd (if (!mhas x2.l.l x0)=true then (bnd (appI 16 x3.l [x0]) fun u46=>some ((⟨(⟨mput x2.l.l x0 []⟩:MapM)⟩:BxM),(⟨u46⟩:BxR 80 9 ByteArray))) else (some (x2,x3)):Option (BxM×(BxR 80 9 ByteArray))) fun y11=>bnd (mgetO y11.1.l.l x0) fun m86=>bnd (chkI ((fget 0 m86 x1) + 1)) fun n88=>some ((⟨(⟨mput y11.1.l.l x0 (fput m86 x1 n88)⟩:MapM)⟩:BxM),y11.2)
theorem Dz {w:World} {O:Lab} {x0:ByteArray} (zx0:x0.size≤9223372036854775807) {vx1:Value} {x1:Fct} (h1:Vb w (Fr 0 w O) vx1 x1) {p2 i0:Nat} {x2:BxM} (f0:Ob i0 w O (.pointer (some ⟨p2,0,none⟩)) x2) {p3 i1:Nat} {x3:BxR 80 9 ByteArray} (c0:Ob i1 w O (.pointer (some ⟨p3,0,none⟩)) x3) (hne:i0≠i1) {r:BxM×(BxR 80 9 ByteArray)} (hm:AN x0 x1 x2 x3=some r) :
    Fn Tryz.prog 65 [(.string x0),vx1,(.pointer (some ⟨p2,0,none⟩)),(.pointer (some ⟨p3,0,none⟩))] w fun v w'=>∃ O',St (fun j=>j=i0∨j=i1) w O w' O'∧Ob i0 w' O' (.pointer (some ⟨p2,0,none⟩)) r.1∧Ob i1 w' O' (.pointer (some ⟨p3,0,none⟩)) r.2:=by
 obtain ⟨O0,hE,j1,l2,m2⟩:=ent2 (w:=w) (O:=O) hne f0.2 c0.2
 have f0':=Ob.leave f0 j1 l2 (j:=2) (by decide)
 have c0':=Ob.leave c0 j1 m2 (j:=3) (by decide)
 have hB:Bm w O0 w O0:=Bm.refl
 replace h1:=h1.mono j1
 obtain ⟨a4,rfl,rfl,r4,r5⟩:=h1
 refine AP Tryz.func65 rfl Tryz.ntmps65 rfl ?_
 unfold AN at hm
 refine Ab (Aa (BC 4 O0 rfl rfl fun g6 w7 O8 S9 g0=>?_))
 replace g0:Lc 4 w7 O8 g6 26 [(.int .i64 x1.var),(.int .i64 x1.val)]:=g0
 refine o_z ?_
 refine Ab ?_
 obtain ⟨b1,a0,hm⟩:=bs hm
 refine Ax (fun l' w'=>∃ (n2:Unit) (O':Lab),subs l' [(0,(.string x0)),(2,(.pointer (some ⟨p2,0,none⟩))),(5,(.pointer (some ⟨g6,0,none⟩)))]∧Bm w O0 w' O'∧Ob 2 w' O' (.pointer (some ⟨p2,0,none⟩)) b1.1∧Lc 4 w' O' g6 26 [(.int .i64 x1.var),(.int .i64 x1.val)]∧Ob 3 w' O' (.pointer (some ⟨p3,0,none⟩)) b1.2) ?_ ?_
 ·
  refine Ab (Aa ?_)
  replace f0':=f0'.st S9
  obtain ⟨o2,b4,n0,q2,o0,p0⟩:=BxM.opn f0' 2 5 (by decide)
  obtain ⟨c4,rfl⟩:=p0.mptr
  refine AJ (hc:=Blk.cell (i:=0) (o0.1) rfl) rfl rfl ?_
  refine Aj rfl rfl ?_
  obtain ⟨d4,k1,m1⟩:=MapM.get p0 x0
  refine Sd x0 k1 rfl rfl rfl ?_
  refine Se m1 rfl rfl ?_
  refine o_z ?_
  refine Bp rfl (fun n1=>?_) (fun n1=>?_)
  ·
   replace a0:=ip a0 n1
   refine Ab (Aa (AJ (hc:=Blk.cell (i:=0) (o0.1) rfl) rfl rfl ?_))
   refine Aj rfl rfl (LV (V:=Int) 6 (by decide) o2 rfl fun e4 f4 g4 r0 r2=>?_)
   replace p0:=p0.st r0
   refine QG p0 r2 (by decide) rfl rfl rfl fun h4 i4 c1 o1=>?_
   refine o_z ?_
   refine Aa ?_
   replace c0':=(((c0'.st S9).st n0).st r0).st c1
   obtain ⟨j4,k4,d1,s2,b0,d2⟩:=BxR.opn c0' 3 7 (by decide)
   obtain ⟨l4,m4,rfl⟩:=d2.form
   refine AJ (hc:=Blk.cell (i:=0) (b0.1) rfl) rfl rfl ?_
   refine Aj rfl rfl ?_
   obtain ⟨e2,p1,a0⟩:=bs a0
   obtain ⟨p1,t2,u2⟩:=AT p1
   refine CF rfl (a:=x0) d2 (vStr zx0) (fun _=>rfl) rfl (by decide) (by decide) t2 u2 ⟨rfl,rfl⟩ fun n4 v2 w2 o4 y2 s0 e1=>?_
   rw [← p1] at e1 ⊢
   replace b0:=b0.st s0
   refine AD b0 rfl rfl rfl (AU rfl) (allOne rfl) fun z2 t0 b0=>?_
   replace b0:Lc 3 z2 y2 p3 80 [(.slice v2 e2.length w2)]:=b0
   refine o_z ?_
   replace o0:=((((o0.st r0).st c1).st d1).st s0).st t0
   replace o1:=((o1.st d1).st s0).st t0
   obtain ⟨p4,f1,a3,b3,c3⟩:=BxM.shut (x:=(⟨(⟨mput x2.l.l x0 []⟩:MapM)⟩:BxM)) (l0:=2) (l1:=5) (by decide) o0 o1
   replace b0:=b0.st f1
   replace e1:=(e1.st t0).st f1
   obtain ⟨q4,q1,d3,e3,f3⟩:=BxR.shut (x:=(⟨e2⟩:BxR 80 9 ByteArray)) (l0:=3) (l1:=7) (by decide) b0 e1
   obtain rfl:=sm a0
   exact ⟨(),_,⟨rfl,rfl,rfl,trivial⟩,((((((((hB.st S9).st n0).st r0).st c1).st d1).st s0).st t0).st f1).st q1,c3.st q1,(((((((g0.st n0).st r0).st c1).st d1).st s0).st t0).st f1).st q1,f3⟩
  replace a0:=im' a0 n1
  refine AI ?_
  obtain ⟨s4,r1,g3,h3,i3⟩:=BxM.shut (x:=x2) (l0:=2) (l1:=5) (by decide) o0 p0
  obtain rfl:=sm a0
  exact ⟨(),_,⟨rfl,rfl,rfl,trivial⟩,((hB.st S9).st n0).st r1,i3,(g0.st n0).st r1,((c0'.st S9).st n0).st r1⟩
 replace hB:=hB.st S9
 rintro t4 u4 ⟨n2,v4,s1,hB,j3,g0,q0⟩
 refine AE _ s1 ?_
 obtain ⟨k3,w4,u0,l3,h0,v0⟩:=BxM.opn j3 2 5 (by decide)
 obtain ⟨x4,rfl⟩:=v0.mptr
 obtain ⟨f2,t1,hm⟩:=bs hm
 obtain ⟨g2,g1,hm⟩:=bs hm
 refine Bc [(6,[5])] k3 ?_
 refine Az (fuel:=5) [] [(0,true),(1,true),(2,true),(3,true)] (by kernel_rfl) rfl ?_
 refine AK (hc:=fun w' ⟨O',hq⟩=>Blk.cell (i:=0) ((h0.st hq (by decide)).1) rfl) rfl rfl rfl ?_
 refine AH rfl rfl rfl ?_
 obtain ⟨y4,j0,u1⟩:=MapM.get v0 x0
 refine Ru x0 (fun w' ⟨O',hq⟩=>j0.keep (hq.agree (i:=5) (by decide) _ (MapM.at v0))) rfl rfl rfl rfl ?_
 obtain ⟨z4,rfl,m3,hI95⟩:=InnV.some u1 t1
 replace g0:=g0.st u0
 refine Cl (hl:=rfl) (hb:=fun w' ⟨O',hq⟩=>((g0.st hq (by decide)).1).cellsAt) rfl rfl rfl ?_
 refine As ?_
 refine Dk (i:=4) (j:=6) (by kernel_rfl) rfl rfl ?_ ?_
 ·
  obtain ⟨v1,a5⟩:=IM.get hI95 x1
  refine NH x1 v1 rfl rfl rfl ?_
  refine Ay [(6,[5])] ((St.refl nT _ _).lst [] (fun _ h=>h.elim)) (by kernel_rfl) ?_
  refine Az (fuel:=3) [5] [(5,true)] (by kernel_rfl) rfl ?_
  have n3:=(BG g1)
  refine NE (he:=g1) rfl rfl rfl rfl ?_
  refine As ?_
  refine Au (i:=6) (by kernel_rfl) rfl ?_
  refine Oy (a:=x0) (k:=x1) v0 j0 t1 rfl rfl rfl fun b5 o3 q3 d0 w1=>?_
  have hZ:=d0.lst [5] (fun _ h=>by cases h;decide)
  refine Ay [] hZ (by kernel_rfl) ?_
  refine Az (fuel:=1) [] [(7,true)] (by kernel_rfl) rfl ?_
  refine Kl rfl rfl rfl rfl (As ?_)
  refine Au (i:=8) (by kernel_rfl) rfl ?_
  refine Qp w1 rfl rfl rfl n3 fun r3 k0 y1=>?_
  refine BK (by kernel_rfl) ?_
  refine AZ (by kernel_rfl) ?_
  replace h0:=(h0.st d0).st k0
  obtain ⟨s3,w0,h2,i2,z1⟩:=BxM.shut (x:=(⟨(⟨mput b1.1.l.l x0 (fput f2 x1 g2)⟩:MapM)⟩:BxM)) (l0:=2) (l1:=5) (by decide) h0 y1
  obtain rfl:=sm hm
  replace hB:=(((hB.st u0).st d0).st k0).st w0
  obtain ⟨O',hS',hz,hl⟩:=hE.leave (fun q=>if q=2 then i0 else if q=3 then i1 else 0) rfl hB
  replace q0:=(((q0.st u0).st d0).st k0).st w0
  exact ret0n rfl  ⟨O',hS',(Ob.leave z1 hz (hl 2 (by decide) (by decide)) f0.2),(Ob.leave q0 hz (hl 3 (by decide) (by decide)) c0.2)⟩
 refine Oy (a:=x0) (k:=x1) v0 j0 t1 rfl rfl rfl fun t3 u3 v3 e0 y0=>?_
 have hZ:=e0.lst [5] (fun _ h=>by cases h;decide)
 refine Ay [] hZ (by kernel_rfl) ?_
 refine Az (fuel:=3) [] [(7,true)] (by kernel_rfl) rfl ?_
 refine Kl rfl rfl rfl rfl (As ?_)
 refine Au (i:=4) (by kernel_rfl) rfl ?_
 obtain ⟨_,z0,w3⟩:=MapE.get y0
 refine NH x1 z0 rfl rfl rfl ?_
 refine Ay [] ((St.refl nT _ _).lst [] (fun _ h=>h.elim)) (by kernel_rfl) ?_
 refine Az (fuel:=1) [] [(5,true)] (by kernel_rfl) rfl ?_
 have a2:=(BG g1)
 refine NE (he:=g1) rfl rfl rfl rfl ?_
 refine As ?_
 refine Au (i:=8) (by kernel_rfl) rfl ?_
 refine Qp y0 rfl rfl rfl a2 fun y3 m0 b2=>?_
 refine BK (by kernel_rfl) ?_
 refine AZ (by kernel_rfl) ?_
 replace h0:=(h0.st e0).st m0
 obtain ⟨z3,a1,j2,k2,c2⟩:=BxM.shut (x:=(⟨(⟨mput b1.1.l.l x0 (fput f2 x1 g2)⟩:MapM)⟩:BxM)) (l0:=2) (l1:=5) (by decide) h0 b2
 obtain rfl:=sm hm
 replace hB:=(((hB.st u0).st e0).st m0).st a1
 obtain ⟨O',hS',hz,hl⟩:=hE.leave (fun q=>if q=2 then i0 else if q=3 then i1 else 0) rfl hB
 replace q0:=(((q0.st u0).st e0).st m0).st a1
 exact ret0n rfl  ⟨O',hS',(Ob.leave c2 hz (hl 2 (by decide) (by decide)) f0.2),(Ob.leave q0 hz (hl 3 (by decide) (by decide)) c0.2)⟩
noncomputable def BZ (x0:Fnd):Option Fnd :=
  bnd (Cw x0.t.ops) fun q57=>bnd (Bg q57) fun q67=>bnd (rng (ρ:=Fnd) (fun (k115:Nat) (a116:Opr) (s113:BxM×(BxR 80 9 ByteArray))=>bnd (q67[k115]?) fun a130=>bnd (Bh a130.cost) fun q160=>bnd (catI q160 (⟨#[32]⟩:ByteArray)) fun n168=>bnd (Bh (a130.pre.length:Int)) fun q170=>bnd (catI n168 q170) fun n178=>bnd (catI n178 (⟨#[32]⟩:ByteArray)) fun n180=>bnd (Bh (a130.effs.length:Int)) fun q182=>bnd (catI n180 q182) fun n190=>bnd (rng (ρ:=Ctl (BxM×(BxR 80 9 ByteArray)) Fnd) (fun (k198:Nat) (a199:Fct) (s196:BxM×(BxR 80 9 ByteArray))=>bnd (catI n190 (⟨#[32,112,114,101]⟩:ByteArray)) fun n229=>bnd (AN n229 a199 s196.1 s196.2) fun q231=>some (.next (q231.1,q231.2))) a130.pre 0 (s113.1,s113.2)) fun res194=>fin res194 fun (s244:BxM×(BxR 80 9 ByteArray))=>bnd (rng (ρ:=Ctl (BxM×(BxR 80 9 ByteArray)) Fnd) (fun (k252:Nat) (a253:Eff) (s250:BxM×(BxR 80 9 ByteArray))=>bnd (catI n190 (⟨#[32,101,102,102,32]⟩:ByteArray)) fun n287=>bnd (Bh (k252:Int)) fun q289=>bnd (catI n287 q289) fun n297=>bnd (AN n297 (⟨a253.var,a253.val⟩:Fct) s250.1 s250.2) fun q299=>bnd (rng (ρ:=Ctl (BxM×(BxR 80 9 ByteArray)) (Ctl (BxM×(BxR 80 9 ByteArray)) Fnd)) (fun (k314:Nat) (a315:Fct) (s312:BxM×(BxR 80 9 ByteArray))=>bnd (catI n190 (⟨#[32,119,104,101,110,32]⟩:ByteArray)) fun n345=>bnd (Bh (k252:Int)) fun q347=>bnd (catI n345 q347) fun n355=>bnd (AN n355 a315 s312.1 s312.2) fun q357=>some (.next (q357.1,q357.2))) a253.cond 0 (q299.1,q299.2)) fun res310=>fin res310 fun (s370:BxM×(BxR 80 9 ByteArray))=>some (.next (s370.1,s370.2))) a130.effs 0 (s244.1,s244.2)) fun res248=>fin res248 fun (s376:BxM×(BxR 80 9 ByteArray))=>some (.next (s376.1,s376.2))) q57 0 ((⟨(⟨[]⟩:MapM)⟩:BxM),(⟨([]:List ByteArray)⟩:BxR 80 9 ByteArray))) fun res111=>fin res111 fun (s382:BxM×(BxR 80 9 ByteArray))=>bnd (Ek s382.2.l) fun q393=>bnd (rng (ρ:=Fnd) (fun (k413:Nat) (a414:ByteArray) (s411:Fnd)=>bnd (q393[k413]?) fun a426=>bnd (rng (ρ:=Ctl Fnd Fnd) (fun (k502:Nat) (a503:Fct) (s500:Fnd)=>bnd (mgetO s382.1.l.l a426) fun m541=>bnd (Bh (fget 0 m541 a503)) fun q548=>bnd (BH s500 a503 q548) fun q556=>some (.next q556)) s411.list 0 s411) fun res498=>fin res498 fun (s573:Fnd)=>some (.next s573)) s382.2.l 0 x0) fun res409=>fin res409 fun (s579:Fnd)=>some s579
theorem GO {w:World} {O:Lab} {p0 i0:Nat} {x0:Fnd} (j5:Ob i0 w O (.pointer (some ⟨p0,0,none⟩)) x0) (hT:TabF w (Fr 0 w O)) {r:Fnd} (hm:BZ x0=some r) :
    Fn Tryz.prog 38 [(.pointer (some ⟨p0,0,none⟩))] w fun v w'=>∃ O',St (eT i0) w O w' O'∧Ob i0 w' O' (.pointer (some ⟨p0,0,none⟩)) r:=by
 obtain ⟨O0,hE,hC,hD⟩:=ent1 (w:=w) (O:=O) j5.2
 have j5':=Ob.leave j5 hC hD (j:=2) (by decide)
 have hB:Bm w O0 w O0:=Bm.refl
 have hT':=hT.mono hC
 refine AP Tryz.func38 rfl Tryz.ntmps38 rfl ?_
 unfold BZ at hm
 refine Ab (Aa (Aj rfl rfl (Eg rfl rfl ?_)))
 obtain ⟨O2,v6,mJ,nJ,oJ,pJ,qJ,rJ,sJ,tJ,uJ,vJ,S3,wJ,h4,h7,t7,u7,k5,v7,w7,x7,y7,z7,a8,b8,iD,jD⟩:=Fnd.opn j5' 2 3 4 5 6 7 (by decide)
 obtain ⟨A8,c9,rfl⟩:=h7.form
 obtain ⟨xJ,yJ,rfl⟩:=t7.form
 obtain ⟨zJ,aK,rfl⟩:=u7.form
 obtain ⟨bK,cK,rfl⟩:=k5.form
 obtain ⟨dK,eK,rfl⟩:=v7.form
 obtain ⟨fK,gK,rfl⟩:=w7.form
 obtain ⟨hK,iK,rfl⟩:=x7.form
 obtain ⟨jK,kK,rfl⟩:=y7.form
 obtain ⟨lK,mK,rfl⟩:=z7.form
 obtain ⟨nK,oK,rfl⟩:=a8.form
 obtain ⟨pK,qK,rfl⟩:=b8.form
 refine AS rfl rfl (AS rfl rfl (AJ (hc:=Blk.cell (i:=3) (h4.1) rfl) rfl rfl ?_))
 obtain ⟨y0,kD,hm⟩:=bs hm
 refine Fl 8 (by decide) (O:=O2) (FA Fr.lt k5 kD) rfl rfl fun q2 r2 rK lD s2 mD=>?_
 refine Am rfl rfl (o_z ?_)
 refine Ab (Aa (Aj rfl rfl ?_))
 obtain ⟨n4,nD,hm⟩:=bs hm
 refine Cc (O:=lD) (CP mD nD) rfl rfl fun sK tK oD t2 h0=>?_
 refine o_z ?_
 refine Ab (Aa (Px 9 (by decide) oD rfl fun pD uK qD b2 o8=>?_))
 refine Bd 10 qD rfl fun o0 vK iC z1 o4=>?_
 refine AD o4 rfl rfl rfl (AU rfl) (allOne rfl) fun rD a2 o4=>?_
 replace o4:Lc 10 rD iC o0 108 [(.map (some pD))]:=o4
 refine o_z ?_
 refine Ab (Aa (Bd 11 iC rfl fun z0 sD wK o1 p8=>?_))
 refine o_z ?_
 refine Ab (Aa (Sa rfl rfl rfl (Am rfl rfl (o_z ?_))))
 refine Ab (Ab (Aa (Aj rfl rfl (AX rfl rfl ?_))))
 replace h0:=(((h0.st b2).st z1).st a2).st o1
 have q8:y0.length≤9223372036854775807:=Nat.le_trans h0.len.2.1 h0.len.2.2
 have xK:inI64 (y0.length:Int):=rngNat q8
 refine Aj rfl rfl (o_z ?_)
 replace h4:=(((((h4.st s2).st t2).st b2).st z1).st a2).st o1
 replace h7:=(((((h7.st s2).st t2).st b2).st z1).st a2).st o1
 replace t7:=(((((t7.st s2).st t2).st b2).st z1).st a2).st o1
 replace u7:=(((((u7.st s2).st t2).st b2).st z1).st a2).st o1
 replace k5:=(((((k5.st s2).st t2).st b2).st z1).st a2).st o1
 replace v7:=(((((v7.st s2).st t2).st b2).st z1).st a2).st o1
 replace w7:=(((((w7.st s2).st t2).st b2).st z1).st a2).st o1
 replace x7:=(((((x7.st s2).st t2).st b2).st z1).st a2).st o1
 replace y7:=(((((y7.st s2).st t2).st b2).st z1).st a2).st o1
 replace z7:=(((((z7.st s2).st t2).st b2).st z1).st a2).st o1
 replace a8:=(((((a8.st s2).st t2).st b2).st z1).st a2).st o1
 replace b8:=(((((b8.st s2).st t2).st b2).st z1).st a2).st o1
 obtain ⟨yK,i5,tD,uD,g0⟩:=Fnd.shut (x:=x0) (l0:=2) (l1:=3) (l2:=4) (l3:=5) (l4:=6) (l5:=7) (by decide) h4 h7 t7 u7 k5 v7 w7 x7 y7 z7 a8 b8 iD jD
 replace o8:=(((o8.st z1).st a2).st o1).st i5
 replace o4:=(o4.st o1).st i5
 obtain ⟨vD,u2,jC,kC,p4⟩:=BxM.shut (x:=(⟨(⟨[]⟩:MapM)⟩:BxM)) (l0:=10) (l1:=9) (by decide) o4 o8
 have r8:Rw 12 sD vD 9 (.slice none 0 0) ([]:List ByteArray):=Rw.nil 12 (by decide)
 replace p8:=(p8.st i5).st u2
 obtain ⟨s8,v2,lC,mC,t8⟩:=BxR.shut (x:=(⟨([]:List ByteArray)⟩:BxR 80 9 ByteArray)) (l0:=11) (l1:=12) (by decide) p8 r8
 obtain ⟨q4,m5,hm⟩:=bs hm
 refine Ax (aft q4 (fun (p1:BxM×(BxR 80 9 ByteArray)) (w3:Unit)=>[(0,(.pointer (some ⟨p0,0,none⟩))),(3,(.pointer (some ⟨o0,0,none⟩))),(4,(.pointer (some ⟨z0,0,none⟩)))]) (fun p1 w3 w'=>∃ O':Lab,Bm w O0 w' O'∧Ob 2 w' O' (.pointer (some ⟨p0,0,none⟩)) x0∧Ob 10 w' O' (.pointer (some ⟨o0,0,none⟩)) p1.1∧Ob 11 w' O' (.pointer (some ⟨z0,0,none⟩)) p1.2)) ?_ ?_
 ·
  refine AG ?_
  replace hB:=(((((((((hB.st S3).st s2).st t2).st b2).st z1).st a2).st o1).st i5).st u2).st v2
  replace h0:=((h0.st i5).st u2).st v2
  replace g0:=(g0.st u2).st v2
  replace p4:=p4.st v2
  refine Bk (σ:=BxM×(BxR 80 9 ByteArray)) (X:=Unit) (y0.length) m5 rfl q8 (fun (p1:BxM×(BxR 80 9 ByteArray)) (w3:Unit)=>[(0,(.pointer (some ⟨p0,0,none⟩))),(3,(.pointer (some ⟨o0,0,none⟩))),(4,(.pointer (some ⟨z0,0,none⟩))),(5,(.func (.func 65) #[] #[(.pointer (some ⟨o0,0,none⟩)),(.pointer (some ⟨z0,0,none⟩))])),(29,(.slice q2 y0.length r2))]) _ (fun p1 w3 w'=>∃ O':Lab,Bm w O0 w' O'∧Ob 2 w' O' (.pointer (some ⟨p0,0,none⟩)) x0∧Ob 10 w' O' (.pointer (some ⟨o0,0,none⟩)) p1.1∧Ob 11 w' O' (.pointer (some ⟨z0,0,none⟩)) p1.2∧Rw 8 w' O' 35 (.slice q2 y0.length r2) n4) _ () ⟨s8,hB,g0,p4,t8,h0⟩ ⟨rfl,rfl,rfl,rfl,rfl,rfl,rfl,trivial⟩ (fun _ _=>⟨rfl,rfl⟩) (fun _ _=>⟨rfl,rfl,rfl,trivial⟩) (fun _ _ _ ⟨O',hB,g0,e0,c2,h0⟩=>⟨O',hB,g0,e0,c2⟩) ⟨rfl,rfl,rfl⟩ ⟨rfl,rfl⟩ ?_
  rintro d2 wD p1 w3 xD nC n5 ⟨u8,hB,g0,e0,c2,h0⟩ b0 c8 d8
  have rk115:inI64 (d2:Int):=rngK n5 q8
  refine Ab (Aa ?_)
  obtain ⟨a0,v8,b0⟩:=bs b0
  obtain ⟨yD,zD,oC,o5,p5,q5,aE,bE,rfl,m0,c0,w8,cE⟩:=h0.elem v8
  obtain ⟨w2,x2,rfl⟩:=m0.form
  obtain ⟨a1,b1,rfl⟩:=c0.form
  refine Bv (hA:=o5) (hj:=rfl) (hlt:=p5) rfl rfl rfl ?_
  refine Ba (hl:=rfl) (hc:=q5) rfl rfl ?_
  refine Bd 13 u8 rfl fun e3 dE r4 k1 j0=>?_
  refine AD j0 rfl rfl rfl (AU rfl) (allOne rfl) fun r5 m1 j0=>?_
  replace j0:Lc 13 r5 r4 e3 35 [(.string a0.name),(.int .i64 a0.cost),(.slice w2 a0.pre.length x2),(.slice a1 a0.effs.length b1)]:=j0
  refine o_z ?_
  refine Ab (Bc [] r4 ?_)
  refine Az (fuel:=8) [] [(0,true),(1,true),(4,true),(5,true),(6,true),(10,true),(11,true),(12,true)] (by kernel_rfl) rfl ?_
  refine AM rfl rfl rfl (AK (hc:=fun w' ⟨O',hq⟩=>Blk.cell (i:=1) ((j0.st hq (by decide)).1) rfl) rfl rfl rfl ?_)
  refine AM rfl rfl rfl (AK (hc:=fun w' ⟨O',hq⟩=>Blk.cell (i:=2) ((j0.st hq (by decide)).1) rfl) rfl rfl rfl ?_)
  refine Hx rfl rfl rfl ?_
  replace m0:=(m0.st k1).st m1
  have x8:a0.pre.length≤9223372036854775807:=Nat.le_trans m0.len.2.1 m0.len.2.2
  have y8:inI64 (a0.pre.length:Int):=rngNat x8
  refine AM rfl rfl rfl (AK (hc:=fun w' ⟨O',hq⟩=>Blk.cell (i:=3) ((j0.st hq (by decide)).1) rfl) rfl rfl rfl ?_)
  refine Hx rfl rfl rfl ?_
  replace c0:=(c0.st k1).st m1
  have z8:a0.effs.length≤9223372036854775807:=Nat.le_trans c0.len.2.1 c0.len.2.2
  have a9:inI64 (a0.effs.length:Int):=rngNat z8
  refine As ?_
  refine Au (i:=2) (by kernel_rfl) rfl ?_
  obtain ⟨b9,d9,b0⟩:=bs b0
  replace hB:=(hB.st k1).st m1
  refine Bf (O:=r4) (A:=All r5) (R:=fun w' F v=>Vb w' F v b9) (DF (fun _ h=>h) w8 (TabF.mono (TabF.bm hT' hB) Fr.lt) d9) rfl rfl fun eE e9 f9 v0 g9=>?_
  obtain ⟨rfl,fE⟩:=g9.str
  have hZ:=v0.lst [] (fun _ h=>h.elim)
  refine Ay [] hZ (by kernel_rfl) ?_
  refine Az (fuel:=6) [] [(3,true)] (by kernel_rfl) rfl ?_
  obtain ⟨gE,h9,b0⟩:=bs b0
  refine FL (he:=h9) rfl rfl rfl rfl ?_
  refine As ?_
  refine Au (i:=7) (by kernel_rfl) rfl ?_
  obtain ⟨i9,j9,b0⟩:=bs b0
  replace hB:=hB.st v0
  refine Bf (O:=f9) (A:=All e9) (R:=fun w' F v=>Vb w' F v i9) (DF (fun _ h=>h) y8 (TabF.mono (TabF.bm hT' hB) Fr.lt) j9) rfl rfl fun iE k9 l9 w0 m9=>?_
  obtain ⟨rfl,jE⟩:=m9.str
  have hZ:=w0.lst [] (fun _ h=>h.elim)
  refine Ay [] hZ (by kernel_rfl) ?_
  refine Az (fuel:=3) [] [(8,true),(9,true)] (by kernel_rfl) rfl ?_
  obtain ⟨kE,n9,b0⟩:=bs b0
  refine FL (he:=n9) rfl rfl rfl rfl ?_
  obtain ⟨lE,o9,b0⟩:=bs b0
  refine FL (he:=o9) rfl rfl rfl rfl ?_
  refine As ?_
  refine Au (i:=13) (by kernel_rfl) rfl ?_
  obtain ⟨p9,q9,b0⟩:=bs b0
  replace hB:=hB.st w0
  refine Bf (O:=l9) (A:=All k9) (R:=fun w' F v=>Vb w' F v p9) (DF (fun _ h=>h) a9 (TabF.mono (TabF.bm hT' hB) Fr.lt) q9) rfl rfl fun mE nE r9 r0 s9=>?_
  obtain ⟨rfl,oE⟩:=s9.str
  have hZ:=r0.lst [] (fun _ h=>h.elim)
  refine Ay [] hZ (by kernel_rfl) ?_
  refine Az (fuel:=0) [] [(14,true),(15,true)] (by kernel_rfl) rfl ?_
  obtain ⟨f3,t9,b0⟩:=bs b0
  refine FL (he:=t9) rfl rfl rfl rfl ?_
  refine Eh rfl rfl rfl (As ?_)
  refine AZ (by kernel_rfl) ?_
  refine Ab (Ab (Aa (AS rfl rfl ?_)))
  replace j0:=((j0.st v0).st w0).st r0
  refine AJ (hc:=Blk.cell (i:=2) (j0.1) rfl) rfl rfl ?_
  refine AX rfl rfl ?_
  replace m0:=((m0.st v0).st w0).st r0
  have s4:a0.pre.length≤9223372036854775807:=Nat.le_trans m0.len.2.1 m0.len.2.2
  have pE:inI64 (a0.pre.length:Int):=rngNat s4
  refine Aj rfl rfl (o_z ?_)
  obtain ⟨t4,s5,b0⟩:=bs b0
  refine Ax (aft t4 (fun (q1:BxM×(BxR 80 9 ByteArray)) (x3:Unit)=>[(0,(.pointer (some ⟨p0,0,none⟩))),(3,(.pointer (some ⟨o0,0,none⟩))),(4,(.pointer (some ⟨z0,0,none⟩))),(5,(.func (.func 65) #[] #[(.pointer (some ⟨o0,0,none⟩)),(.pointer (some ⟨z0,0,none⟩))])),(7,(.pointer (some ⟨e3,0,none⟩))),(8,(.string f3)),(29,(.slice q2 y0.length r2)),(30,(.int .i64 (y0.length:Int))),(31,(.int .i64 (d2:Int)))]) (fun q1 x3 w'=>∃ O':Lab,Bm w O0 w' O'∧Ob 2 w' O' (.pointer (some ⟨p0,0,none⟩)) x0∧Ob 10 w' O' (.pointer (some ⟨o0,0,none⟩)) q1.1∧Ob 11 w' O' (.pointer (some ⟨z0,0,none⟩)) q1.2∧Lc 13 w' O' e3 35 [(.string a0.name),(.int .i64 a0.cost),(.slice w2 a0.pre.length x2),(.slice a1 a0.effs.length b1)]∧Vb w' (Fr 0 w' O') (.slice w2 a0.pre.length x2) a0.pre∧Vb w' (Fr 0 w' O') (.slice a1 a0.effs.length b1) a0.effs∧Rw 8 w' O' 35 (.slice q2 y0.length r2) n4)) ?_ ?_
  ·
   refine AG ?_
   replace hB:=hB.st r0
   replace h0:=((((h0.st k1).st m1).st v0).st w0).st r0
   replace g0:=((((g0.st k1).st m1).st v0).st w0).st r0
   replace e0:=((((e0.st k1).st m1).st v0).st w0).st r0
   replace c2:=((((c2.st k1).st m1).st v0).st w0).st r0
   replace c0:=((c0.st v0).st w0).st r0
   refine Bk (σ:=BxM×(BxR 80 9 ByteArray)) (X:=Unit) (a0.pre.length) s5 rfl s4 (fun (q1:BxM×(BxR 80 9 ByteArray)) (x3:Unit)=>[(0,(.pointer (some ⟨p0,0,none⟩))),(3,(.pointer (some ⟨o0,0,none⟩))),(4,(.pointer (some ⟨z0,0,none⟩))),(5,(.func (.func 65) #[] #[(.pointer (some ⟨o0,0,none⟩)),(.pointer (some ⟨z0,0,none⟩))])),(7,(.pointer (some ⟨e3,0,none⟩))),(8,(.string f3)),(29,(.slice q2 y0.length r2)),(30,(.int .i64 (y0.length:Int))),(31,(.int .i64 (d2:Int))),(51,(.slice w2 a0.pre.length x2))]) _ (fun q1 x3 w'=>∃ O':Lab,Bm w O0 w' O'∧Ob 2 w' O' (.pointer (some ⟨p0,0,none⟩)) x0∧Ob 10 w' O' (.pointer (some ⟨o0,0,none⟩)) q1.1∧Ob 11 w' O' (.pointer (some ⟨z0,0,none⟩)) q1.2∧Lc 13 w' O' e3 35 [(.string a0.name),(.int .i64 a0.cost),(.slice w2 a0.pre.length x2),(.slice a1 a0.effs.length b1)]∧Vb w' (Fr 0 w' O') (.slice w2 a0.pre.length x2) a0.pre∧Vb w' (Fr 0 w' O') (.slice a1 a0.effs.length b1) a0.effs∧Rw 8 w' O' 35 (.slice q2 y0.length r2) n4) _ () ⟨r9,hB,g0,e0,c2,j0,m0,c0,h0⟩ ⟨rfl,rfl,rfl,rfl,rfl,rfl,rfl,rfl,rfl,rfl,rfl,rfl,trivial⟩ (fun _ _=>⟨rfl,rfl⟩) (fun _ _=>⟨rfl,rfl,rfl,rfl,rfl,rfl,rfl,rfl,rfl,trivial⟩) (fun _ _ _ ⟨O',hB,g0,e2,f2,j0,m0,c0,h0⟩=>⟨O',hB,g0,e2,f2,j0,m0,c0,h0⟩) ⟨rfl,rfl,rfl⟩ ⟨rfl,rfl⟩ ?_
   rintro u9 g3 q1 x3 qE pC i4 ⟨v9,hB,g0,e2,f2,j0,m0,c0,h0⟩ r1 e8 f8
   have rk198:inI64 (u9:Int):=rngK i4 s4
   refine Ab (Aa ?_)
   obtain ⟨rE,sE,qC,t5,u5,v5,rfl,w9,x9⟩:=m0.elem' i4
   refine Bv (hA:=t5) (hj:=rfl) (hlt:=u5) rfl rfl rfl ?_
   refine Ba (hl:=rfl) (hc:=v5) rfl rfl ?_
   refine Bd 14 v9 rfl fun y9 tE w5 s1 h3=>?_
   refine AD h3 rfl rfl rfl (AU rfl) (allOne rfl) fun z9 t1 h3=>?_
   replace h3:Lc 14 z9 w5 y9 26 [(.int .i64 g3.var),(.int .i64 g3.val)]:=h3
   refine o_z ?_
   refine Aa (Aj rfl rfl (Aj rfl rfl ?_))
   obtain ⟨uE,x5,r1⟩:=bs r1
   refine RQ (he:=x5) rfl rfl rfl ?_
   refine Ba (hl:=rfl) (hc:=(h3.1).cellsAt) rfl rfl ?_
   obtain ⟨vE,aA,r1⟩:=bs r1
   replace e2:=(e2.st s1).st t1
   replace f2:=(f2.st s1).st t1
   refine Jj (O:=w5) (Dz (IE x5) (Vb.ofAgg (cs:=[(.int .i64 g3.var),(.int .i64 g3.val)]) (x:=g3) rfl ⟨rfl,w9,x9⟩) e2 f2 (by decide) aA) rfl rfl rfl rfl fun wE xE yE y2 bA=>?_
   obtain ⟨cA,dA⟩:=bA
   refine o_z ?_
   obtain rfl:=sm r1
   exact show Exists _ from ⟨_,(),rfl,⟨rfl,rfl,rfl,rfl,rfl,rfl,rfl,rfl,rfl,rfl,rfl,rfl,trivial⟩,_,((hB.st s1).st t1).st y2,((g0.st s1).st t1).st y2,cA,dA,((j0.st s1).st t1).st y2,((m0.st s1).st t1).st y2,((c0.st s1).st t1).st y2,((h0.st s1).st t1).st y2⟩
  replace hB:=hB.st r0
  replace h0:=((((h0.st k1).st m1).st v0).st w0).st r0
  replace g0:=((((g0.st k1).st m1).st v0).st w0).st r0
  replace c0:=((c0.st v0).st w0).st r0
  rintro zE aF ⟨bF,cF,rfl,y5,eA,hB,g0,e2,f2,j0,m0,c0,h0⟩
  replace b0:=AV b0
  refine AE _ y5 ?_
  refine Ab (Aa (AS rfl rfl (AJ (hc:=Blk.cell (i:=3) (j0.1) rfl) rfl rfl ?_)))
  refine AX rfl rfl ?_
  have u4:a0.effs.length≤9223372036854775807:=Nat.le_trans c0.len.2.1 c0.len.2.2
  have dF:inI64 (a0.effs.length:Int):=rngNat u4
  refine Aj rfl rfl (o_z ?_)
  obtain ⟨v4,z5,b0⟩:=bs b0
  refine Ax (aft v4 (fun (u1:BxM×(BxR 80 9 ByteArray)) (y3:Unit)=>[(0,(.pointer (some ⟨p0,0,none⟩))),(3,(.pointer (some ⟨o0,0,none⟩))),(4,(.pointer (some ⟨z0,0,none⟩))),(5,(.func (.func 65) #[] #[(.pointer (some ⟨o0,0,none⟩)),(.pointer (some ⟨z0,0,none⟩))])),(29,(.slice q2 y0.length r2)),(30,(.int .i64 (y0.length:Int))),(31,(.int .i64 (d2:Int)))]) (fun u1 y3 w'=>∃ O':Lab,Bm w O0 w' O'∧Ob 2 w' O' (.pointer (some ⟨p0,0,none⟩)) x0∧Ob 10 w' O' (.pointer (some ⟨o0,0,none⟩)) u1.1∧Ob 11 w' O' (.pointer (some ⟨z0,0,none⟩)) u1.2∧Rw 8 w' O' 35 (.slice q2 y0.length r2) n4)) ?_ ?_
  ·
   refine AG (Bk (σ:=BxM×(BxR 80 9 ByteArray)) (X:=Unit) (a0.effs.length) z5 rfl u4 (fun (u1:BxM×(BxR 80 9 ByteArray)) (y3:Unit)=>[(0,(.pointer (some ⟨p0,0,none⟩))),(3,(.pointer (some ⟨o0,0,none⟩))),(4,(.pointer (some ⟨z0,0,none⟩))),(5,(.func (.func 65) #[] #[(.pointer (some ⟨o0,0,none⟩)),(.pointer (some ⟨z0,0,none⟩))])),(8,(.string f3)),(29,(.slice q2 y0.length r2)),(30,(.int .i64 (y0.length:Int))),(31,(.int .i64 (d2:Int))),(64,(.slice a1 a0.effs.length b1))]) _ (fun u1 y3 w'=>∃ O':Lab,Bm w O0 w' O'∧Ob 2 w' O' (.pointer (some ⟨p0,0,none⟩)) x0∧Ob 10 w' O' (.pointer (some ⟨o0,0,none⟩)) u1.1∧Ob 11 w' O' (.pointer (some ⟨z0,0,none⟩)) u1.2∧Rw 8 w' O' 35 (.slice q2 y0.length r2) n4∧Vb w' (Fr 0 w' O') (.slice a1 a0.effs.length b1) a0.effs) _ () ⟨eA,hB,g0,e2,f2,h0,c0⟩ ⟨rfl,rfl,rfl,rfl,rfl,rfl,rfl,rfl,rfl,rfl,rfl,trivial⟩ (fun _ _=>⟨rfl,rfl⟩) (fun _ _=>⟨rfl,rfl,rfl,rfl,rfl,rfl,rfl,trivial⟩) (fun _ _ _ ⟨O',hB,g0,g2,h2,h0,c0⟩=>⟨O',hB,g0,g2,h2,h0⟩) ⟨rfl,rfl,rfl⟩ ⟨rfl,rfl⟩ ?_)
   rintro z3 s0 u1 y3 eF rC j4 ⟨fA,hB,g0,g2,h2,h0,c0⟩ f0 g8 h8
   have rk252:inI64 (z3:Int):=rngK j4 u4
   refine Ab (Aa (Aj rfl rfl ?_))
   obtain ⟨fF,gF,sC,a6,b6,c6,hF,rfl,g1,gA,iA⟩:=c0.elem' j4
   obtain ⟨w4,x4,rfl⟩:=g1.form
   refine Bv (hA:=a6) (hj:=rfl) (hlt:=b6) rfl rfl rfl ?_
   refine Ba (hl:=rfl) (hc:=c6) rfl rfl ?_
   refine Bd 15 fA rfl fun jA iF y4 h1 n1=>?_
   refine Am rfl rfl (AD n1 rfl rfl rfl (AU rfl) (allOne rfl) fun d6 i1 n1=>?_)
   replace n1:Lc 15 d6 y4 jA 32 [(.slice w4 s0.cond.length x4),(.int .i64 s0.var),(.int .i64 s0.val)]:=n1
   refine o_z ?_
   refine Ab (Bc [] y4 ?_)
   refine Az (fuel:=3) [] [(0,true),(1,true),(2,true),(3,true),(6,true),(7,true),(8,true),(9,true),(10,true)] (by kernel_rfl) rfl ?_
   refine AH rfl rfl rfl (AH rfl rfl rfl ?_)
   obtain ⟨jF,kA,f0⟩:=bs f0
   refine FL (he:=kA) rfl rfl rfl rfl ?_
   refine AH rfl rfl rfl (AM rfl rfl rfl (AK (hc:=fun w' ⟨O',hq⟩=>Blk.cell (i:=1) ((n1.st hq (by decide)).1) rfl) rfl rfl rfl ?_))
   refine AM rfl rfl rfl (AK (hc:=fun w' ⟨O',hq⟩=>Blk.cell (i:=2) ((n1.st hq (by decide)).1) rfl) rfl rfl rfl ?_)
   refine Ft rfl rfl rfl rfl ?_
   refine As ?_
   refine Au (i:=4) (by kernel_rfl) rfl ?_
   obtain ⟨lA,mA,f0⟩:=bs f0
   replace hB:=(hB.st h1).st i1
   refine Bf (O:=y4) (A:=All d6) (R:=fun w' F v=>Vb w' F v lA) (DF (fun _ h=>h) rk252 (TabF.mono (TabF.bm hT' hB) Fr.lt) mA) rfl rfl fun kF lF nA t0 oA=>?_
   obtain ⟨rfl,mF⟩:=oA.str
   have hZ:=t0.lst [] (fun _ h=>h.elim)
   refine Ay [] hZ (by kernel_rfl) ?_
   refine Az (fuel:=1) [] [(5,true)] (by kernel_rfl) rfl ?_
   obtain ⟨nF,e6,f0⟩:=bs f0
   refine FL (he:=e6) rfl rfl rfl rfl ?_
   refine As ?_
   refine Au (i:=11) (by kernel_rfl) rfl ?_
   obtain ⟨oF,pA,f0⟩:=bs f0
   replace g2:=((g2.st h1).st i1).st t0
   replace h2:=((h2.st h1).st i1).st t0
   refine Jj (O:=nA) (Dz (IE e6) (Vb.ofAgg (cs:=[(.int .i64 s0.var),(.int .i64 s0.val)]) (x:=(⟨s0.var,s0.val⟩:Fct)) rfl ⟨rfl,gA,iA⟩) g2 h2 (by decide) pA) rfl rfl rfl rfl fun pF qF qA j1 rA=>?_
   obtain ⟨sA,tA⟩:=rA
   refine BK (by kernel_rfl) ?_
   refine AZ (by kernel_rfl) ?_
   refine Ab (Aa (AS rfl rfl ?_))
   replace n1:=(n1.st t0).st j1
   refine AJ (hc:=Blk.cell (i:=0) (n1.1) rfl) rfl rfl ?_
   refine AX rfl rfl ?_
   replace g1:=(((g1.st h1).st i1).st t0).st j1
   have z4:s0.cond.length≤9223372036854775807:=Nat.le_trans g1.len.2.1 g1.len.2.2
   have rF:inI64 (s0.cond.length:Int):=rngNat z4
   refine Aj rfl rfl (o_z ?_)
   obtain ⟨a5,f6,f0⟩:=bs f0
   refine Ax (aft a5 (fun (v1:BxM×(BxR 80 9 ByteArray)) (a4:Unit)=>[(0,(.pointer (some ⟨p0,0,none⟩))),(3,(.pointer (some ⟨o0,0,none⟩))),(4,(.pointer (some ⟨z0,0,none⟩))),(5,(.func (.func 65) #[] #[(.pointer (some ⟨o0,0,none⟩)),(.pointer (some ⟨z0,0,none⟩))])),(8,(.string f3)),(29,(.slice q2 y0.length r2)),(30,(.int .i64 (y0.length:Int))),(31,(.int .i64 (d2:Int))),(64,(.slice a1 a0.effs.length b1)),(65,(.int .i64 (a0.effs.length:Int))),(66,(.int .i64 (z3:Int)))]) (fun v1 a4 w'=>∃ O':Lab,Bm w O0 w' O'∧Ob 2 w' O' (.pointer (some ⟨p0,0,none⟩)) x0∧Ob 10 w' O' (.pointer (some ⟨o0,0,none⟩)) v1.1∧Ob 11 w' O' (.pointer (some ⟨z0,0,none⟩)) v1.2∧Rw 8 w' O' 35 (.slice q2 y0.length r2) n4∧Vb w' (Fr 0 w' O') (.slice a1 a0.effs.length b1) a0.effs)) ?_ ?_
   ·
    refine AG ?_
    replace hB:=(hB.st t0).st j1
    replace h0:=(((h0.st h1).st i1).st t0).st j1
    replace g0:=(((g0.st h1).st i1).st t0).st j1
    replace c0:=(((c0.st h1).st i1).st t0).st j1
    refine Bk (σ:=BxM×(BxR 80 9 ByteArray)) (X:=Unit) (s0.cond.length) f6 rfl z4 (fun (v1:BxM×(BxR 80 9 ByteArray)) (a4:Unit)=>[(0,(.pointer (some ⟨p0,0,none⟩))),(3,(.pointer (some ⟨o0,0,none⟩))),(4,(.pointer (some ⟨z0,0,none⟩))),(5,(.func (.func 65) #[] #[(.pointer (some ⟨o0,0,none⟩)),(.pointer (some ⟨z0,0,none⟩))])),(8,(.string f3)),(11,(.int .i64 (z3:Int))),(29,(.slice q2 y0.length r2)),(30,(.int .i64 (y0.length:Int))),(31,(.int .i64 (d2:Int))),(64,(.slice a1 a0.effs.length b1)),(65,(.int .i64 (a0.effs.length:Int))),(66,(.int .i64 (z3:Int))),(84,(.slice w4 s0.cond.length x4))]) _ (fun v1 a4 w'=>∃ O':Lab,Bm w O0 w' O'∧Ob 2 w' O' (.pointer (some ⟨p0,0,none⟩)) x0∧Ob 10 w' O' (.pointer (some ⟨o0,0,none⟩)) v1.1∧Ob 11 w' O' (.pointer (some ⟨z0,0,none⟩)) v1.2∧Rw 8 w' O' 35 (.slice q2 y0.length r2) n4∧Vb w' (Fr 0 w' O') (.slice a1 a0.effs.length b1) a0.effs∧Vb w' (Fr 0 w' O') (.slice w4 s0.cond.length x4) s0.cond) _ () ⟨qA,hB,g0,sA,tA,h0,c0,g1⟩ ⟨rfl,rfl,rfl,rfl,rfl,rfl,rfl,rfl,rfl,rfl,rfl,rfl,rfl,rfl,rfl,trivial⟩ (fun _ _=>⟨rfl,rfl⟩) (fun _ _=>⟨rfl,rfl,rfl,rfl,rfl,rfl,rfl,rfl,rfl,rfl,rfl,trivial⟩) (fun _ _ _ ⟨O',hB,g0,i2,j2,h0,c0,g1⟩=>⟨O',hB,g0,i2,j2,h0,c0⟩) ⟨rfl,rfl,rfl⟩ ⟨rfl,rfl⟩ ?_
    rintro uA i3 v1 a4 sF tC k4 ⟨vA,hB,g0,i2,j2,h0,c0,g1⟩ q0 i8 j8
    have rk314:inI64 (uA:Int):=rngK k4 z4
    refine Ab (Aa ?_)
    obtain ⟨tF,uF,uC,g6,h6,i6,rfl,wA,xA⟩:=g1.elem' k4
    refine Bv (hA:=g6) (hj:=rfl) (hlt:=h6) rfl rfl rfl ?_
    refine Ba (hl:=rfl) (hc:=i6) rfl rfl ?_
    refine Bd 16 vA rfl fun yA vF b5 k2 j3=>?_
    refine AD j3 rfl rfl rfl (AU rfl) (allOne rfl) fun j6 m2 j3=>?_
    replace j3:Lc 16 j6 b5 yA 26 [(.int .i64 i3.var),(.int .i64 i3.val)]:=j3
    refine o_z ?_
    refine Bc [] b5 ?_
    refine Az (fuel:=3) [] [(0,true),(1,true),(2,true),(3,true),(6,true)] (by kernel_rfl) rfl ?_
    refine AH rfl rfl rfl (AH rfl rfl rfl ?_)
    obtain ⟨wF,zA,q0⟩:=bs q0
    refine FL (he:=zA) rfl rfl rfl rfl ?_
    refine AH rfl rfl rfl (Cl (hl:=rfl) (hb:=fun w' ⟨O',hq⟩=>((j3.st hq (by decide)).1).cellsAt) rfl rfl rfl ?_)
    refine As ?_
    refine Au (i:=4) (by kernel_rfl) rfl ?_
    obtain ⟨aB,bB,q0⟩:=bs q0
    replace hB:=(hB.st k2).st m2
    refine Bf (O:=b5) (A:=All j6) (R:=fun w' F v=>Vb w' F v aB) (DF (fun _ h=>h) rk252 (TabF.mono (TabF.bm hT' hB) Fr.lt) bB) rfl rfl fun xF yF cB w1 dB=>?_
    obtain ⟨rfl,zF⟩:=dB.str
    have hZ:=w1.lst [] (fun _ h=>h.elim)
    refine Ay [] hZ (by kernel_rfl) ?_
    refine Az (fuel:=1) [] [(5,true)] (by kernel_rfl) rfl ?_
    obtain ⟨aG,k6,q0⟩:=bs q0
    refine FL (he:=k6) rfl rfl rfl rfl ?_
    refine As ?_
    refine Au (i:=7) (by kernel_rfl) rfl ?_
    obtain ⟨bG,eB,q0⟩:=bs q0
    replace i2:=((i2.st k2).st m2).st w1
    replace j2:=((j2.st k2).st m2).st w1
    refine Jj (O:=cB) (Dz (IE k6) (Vb.ofAgg (cs:=[(.int .i64 i3.var),(.int .i64 i3.val)]) (x:=i3) rfl ⟨rfl,wA,xA⟩) i2 j2 (by decide) eB) rfl rfl rfl rfl fun cG dG eG k3 fB=>?_
    obtain ⟨gB,iB⟩:=fB
    refine BK (by kernel_rfl) ?_
    refine AZ (by kernel_rfl) ?_
    obtain rfl:=sm q0
    exact show Exists _ from ⟨_,(),rfl,⟨rfl,rfl,rfl,rfl,rfl,rfl,rfl,rfl,rfl,rfl,rfl,rfl,rfl,rfl,rfl,trivial⟩,_,(hB.st w1).st k3,(((g0.st k2).st m2).st w1).st k3,gB,iB,(((h0.st k2).st m2).st w1).st k3,(((c0.st k2).st m2).st w1).st k3,(((g1.st k2).st m2).st w1).st k3⟩
   replace hB:=(hB.st t0).st j1
   replace h0:=(((h0.st h1).st i1).st t0).st j1
   replace g0:=(((g0.st h1).st i1).st t0).st j1
   replace c0:=(((c0.st h1).st i1).st t0).st j1
   rintro fG gG ⟨hG,iG,rfl,k0,jG,hB,g0,i2,j2,h0,c0⟩
   replace f0:=AV f0
   obtain rfl:=sm f0
   exact show Exists _ from ⟨_,(),rfl,⟨(Bj k0 _ _ rfl),(Bj k0 _ _ rfl),(Bj k0 _ _ rfl),(Bj k0 _ _ rfl),(Bj k0 _ _ rfl),(Bj k0 _ _ rfl),(Bj k0 _ _ rfl),(Bj k0 _ _ rfl),(Bj k0 _ _ rfl),(Bj k0 _ _ rfl),(Bj k0 _ _ rfl),trivial⟩,_,hB,g0,i2,j2,h0,c0⟩
  rintro kG lG ⟨mG,nG,rfl,c1,oG,hB,g0,g2,h2,h0⟩
  replace b0:=AV b0
  obtain rfl:=sm b0
  exact show Exists _ from ⟨_,(),rfl,⟨(Bj c1 _ _ rfl),(Bj c1 _ _ rfl),(Bj c1 _ _ rfl),(Bj c1 _ _ rfl),(Bj c1 _ _ rfl),(Bj c1 _ _ rfl),(Bj c1 _ _ rfl),trivial⟩,_,hB,g0,g2,h2,h0⟩
 replace hB:=(((((((((hB.st S3).st s2).st t2).st b2).st z1).st a2).st o1).st i5).st u2).st v2
 replace g0:=(g0.st u2).st v2
 rintro pG qG ⟨n0,rG,rfl,l6,sG,hB,g0,e0,c2⟩
 replace hm:=AV hm
 refine AE _ l6 ?_
 refine Ab (Aa ?_)
 obtain ⟨jB,tG,b4,vC,m3,m6⟩:=BxR.opn c2 11 17 (by decide)
 obtain ⟨z2,a3,rfl⟩:=m6.form
 refine AJ (hc:=Blk.cell (i:=0) (m3.1) rfl) rfl rfl ?_
 obtain ⟨c4,kB,hm⟩:=bs hm
 refine Cc (O:=jB) (FF m6 kB) rfl rfl fun uG vG wG n3 o3=>?_
 refine o_z ?_
 refine Ab (Aa ?_)
 replace m3:=m3.st n3
 refine AJ (hc:=Blk.cell (i:=0) (m3.1) rfl) rfl rfl ?_
 refine AX rfl rfl ?_
 have c5:n0.2.l.length≤9223372036854775807:=Nat.le_trans o3.len.2.1 o3.len.2.2
 have xG:inI64 (n0.2.l.length:Int):=rngNat c5
 refine Aj rfl rfl (o_z ?_)
 obtain ⟨lB,p3,n6,o6,yG⟩:=BxR.shut (x:=(⟨c4⟩:BxR 80 9 ByteArray)) (l0:=11) (l1:=17) (by decide) (by have q:=m3;rw [← o3.len.1.symm] at q;exact q) o3.relen
 have d0:=(o3.lend [17] (by decide)).shutS p3 n6 o6 [11] (by decide)
 obtain ⟨d5,p6,hm⟩:=bs hm
 refine Ax (aft d5 (fun (u0:Fnd) (d4:Unit)=>[]) (fun u0 d4 w'=>∃ O':Lab,Bm w O0 w' O'∧Ob 2 w' O' (.pointer (some ⟨p0,0,none⟩)) u0)) ?_ ?_
 ·
  refine AG ?_
  replace hB:=((hB.st b4).st n3).st p3
  replace g0:=((g0.st b4).st n3).st p3
  replace e0:=((e0.st b4).st n3).st p3
  refine Bk (σ:=Fnd) (X:=Unit) (n0.2.l.length) p6 rfl c5 (fun (u0:Fnd) (d4:Unit)=>[(0,(.pointer (some ⟨p0,0,none⟩))),(3,(.pointer (some ⟨o0,0,none⟩))),(103,(.slice z2 n0.2.l.length a3))]) _ (fun u0 d4 w'=>∃ O':Lab,Bm w O0 w' O'∧Ob 2 w' O' (.pointer (some ⟨p0,0,none⟩)) u0∧Ob 10 w' O' (.pointer (some ⟨o0,0,none⟩)) n0.1∧Vb w' (FrS [11] w' O') (.slice z2 n0.2.l.length a3) c4) _ () ⟨lB,hB,g0,e0,d0⟩ ⟨rfl,rfl,rfl,rfl,rfl,trivial⟩ (fun _ _=>⟨rfl,rfl⟩) (fun _ _=>trivial) (fun _ _ _ ⟨O',hB,q3,e0,d0⟩=>⟨O',hB,q3⟩) ⟨rfl,rfl,rfl⟩ ⟨rfl,rfl⟩ ?_
  rintro e5 zG u0 d4 aH wC q6 ⟨bH,hB,q3,e0,d0⟩ d1 k8 l8
  have rk413:inI64 (e5:Int):=rngK q6 c5
  refine Ab (Aa ?_)
  obtain ⟨f5,mB,d1⟩:=bs d1
  obtain ⟨cH,dH,xC,r6,s6,t6,rfl,eH⟩:=d0.elem' mB
  refine Bv (hA:=r6) (hj:=rfl) (hlt:=s6) rfl rfl rfl ?_
  refine AJ (hc:=cat0 t6) rfl rfl ?_
  refine Am rfl rfl (o_z ?_)
  refine Ab (Aa (Aj rfl rfl (Eg rfl rfl ?_)))
  obtain ⟨fH,gH,hH,iH,jH,kH,lH,mH,nH,oH,pH,qH,r3,yC,u6,w6,x6,y6,z6,e1,a7,b7,c7,d7,e7,f7,nB,oB⟩:=Fnd.opn q3 2 3 4 5 6 7 (by decide)
  obtain ⟨rH,sH,rfl⟩:=w6.form
  obtain ⟨tH,uH,rfl⟩:=x6.form
  obtain ⟨vH,wH,rfl⟩:=y6.form
  obtain ⟨xH,yH,rfl⟩:=z6.form
  obtain ⟨g7,i7,rfl⟩:=e1.form
  obtain ⟨zH,aI,rfl⟩:=a7.form
  obtain ⟨bI,cI,rfl⟩:=b7.form
  obtain ⟨dI,eI,rfl⟩:=c7.form
  obtain ⟨fI,gI,rfl⟩:=d7.form
  obtain ⟨hI,iI,rfl⟩:=e7.form
  obtain ⟨jI,kI,rfl⟩:=f7.form
  replace d0:=d0.stS r3 (by decide) (by decide)
  refine AS rfl rfl (AJ (hc:=Blk.cell (i:=4) (u6.1) rfl) rfl rfl ?_)
  refine AX rfl rfl ?_
  have g5:u0.list.length≤9223372036854775807:=Nat.le_trans e1.len.2.1 e1.len.2.2
  have lI:inI64 (u0.list.length:Int):=rngNat g5
  refine Aj rfl rfl (o_z ?_)
  obtain ⟨pB,b3,zC,aD,qB⟩:=Fnd.shut (x:=u0) (l0:=2) (l1:=3) (l2:=4) (l3:=5) (l4:=6) (l5:=7) (by decide) u6 w6 x6 y6 z6 e1 a7 b7 c7 d7 e7 f7 nB oB
  replace d0:=d0.stS b3 (by decide) (by decide)
  obtain ⟨h5,j7,d1⟩:=bs d1
  refine Ax (aft h5 (fun (c3:Fnd) (e4:Unit)=>[(0,(.pointer (some ⟨p0,0,none⟩))),(3,(.pointer (some ⟨o0,0,none⟩))),(103,(.slice z2 n0.2.l.length a3)),(104,(.int .i64 (n0.2.l.length:Int))),(105,(.int .i64 (e5:Int)))]) (fun c3 e4 w'=>∃ O':Lab,Bm w O0 w' O'∧Ob 2 w' O' (.pointer (some ⟨p0,0,none⟩)) c3∧Ob 10 w' O' (.pointer (some ⟨o0,0,none⟩)) n0.1∧Vb w' (FrS [11] w' O') (.slice z2 n0.2.l.length a3) c4)) ?_ ?_
  ·
   refine AG ?_
   replace hB:=(hB.st r3).st b3
   replace e0:=(e0.st r3).st b3
   replace e1:=e1.st b3
   refine Bk (σ:=Fnd) (X:=Unit) (u0.list.length) j7 rfl g5 (fun (c3:Fnd) (e4:Unit)=>[(0,(.pointer (some ⟨p0,0,none⟩))),(3,(.pointer (some ⟨o0,0,none⟩))),(16,(.string f5)),(103,(.slice z2 n0.2.l.length a3)),(104,(.int .i64 (n0.2.l.length:Int))),(105,(.int .i64 (e5:Int))),(112,(.slice g7 u0.list.length i7))]) _ (fun c3 e4 w'=>∃ O':Lab,Bm w O0 w' O'∧Ob 2 w' O' (.pointer (some ⟨p0,0,none⟩)) c3∧Ob 10 w' O' (.pointer (some ⟨o0,0,none⟩)) n0.1∧Vb w' (FrS [11] w' O') (.slice z2 n0.2.l.length a3) c4∧Vb w' (Fr 0 w' O') (.slice g7 u0.list.length i7) u0.list) _ () ⟨pB,hB,qB,e0,d0,e1⟩ ⟨rfl,rfl,rfl,rfl,rfl,rfl,rfl,rfl,rfl,trivial⟩ (fun _ _=>⟨rfl,rfl⟩) (fun _ _=>⟨rfl,rfl,rfl,rfl,rfl,trivial⟩) (fun _ _ _ ⟨O',hB,n2,e0,d0,e1⟩=>⟨O',hB,n2,e0,d0⟩) ⟨rfl,rfl,rfl⟩ ⟨rfl,rfl⟩ ?_
   rintro rB o2 c3 e4 mI bD m4 ⟨sB,hB,n2,e0,d0,e1⟩ f1 m8 n8
   have rk502:inI64 (rB:Int):=rngK m4 g5
   refine Ab (Aa ?_)
   obtain ⟨nI,oI,cD,k7,l7,m7,rfl,tB,uB⟩:=e1.elem' m4
   refine Bv (hA:=k7) (hj:=rfl) (hlt:=l7) rfl rfl rfl ?_
   refine Ba (hl:=rfl) (hc:=m7) rfl rfl ?_
   refine Bd 18 sB rfl fun vB pI wB s3 x1=>?_
   replace d0:=d0.stS s3 id (fun _ _=>id)
   refine AD x1 rfl rfl rfl (AU rfl) (allOne rfl) fun n7 t3 x1=>?_
   replace x1:Lc 18 n7 wB vB 26 [(.int .i64 o2.var),(.int .i64 o2.val)]:=x1
   replace d0:=d0.stS t3 (by decide) (by decide)
   refine o_z ?_
   replace e0:=(e0.st s3).st t3
   obtain ⟨o7,qI,u3,dD,f4,d3⟩:=BxM.opn e0 10 19 (by decide)
   obtain ⟨rI,rfl⟩:=d3.mptr
   replace d0:=d0.stS u3 (by decide) (by decide)
   refine Bc [] o7 ?_
   refine Az (fuel:=2) [] [(0,true),(1,true),(2,true),(3,true),(4,true),(5,true),(6,true)] (by kernel_rfl) rfl ?_
   refine AH rfl rfl rfl ?_
   replace x1:=x1.st u3
   refine Cl (hl:=rfl) (hb:=fun w' ⟨O',hq⟩=>((x1.st hq (by decide)).1).cellsAt) rfl rfl rfl ?_
   refine AK (hc:=fun w' ⟨O',hq⟩=>Blk.cell (i:=0) ((f4.st hq (by decide)).1) rfl) rfl rfl rfl ?_
   refine AH rfl rfl rfl ?_
   obtain ⟨sI,p7,q7⟩:=MapM.get d3 f5
   refine Ru f5 (fun w' ⟨O',hq⟩=>p7.keep (hq.agree (i:=19) (by decide) _ (MapM.at d3))) rfl rfl rfl rfl ?_
   obtain ⟨tI,xB,f1⟩:=bs f1
   obtain ⟨uI,rfl,r7,hI545⟩:=InnV.some q7 xB
   refine Cl (hl:=rfl) (hb:=fun w' ⟨O',hq⟩=>((x1.st hq (by decide)).1).cellsAt) rfl rfl rfl ?_
   obtain ⟨s7,yB⟩:=IM.get hI545 o2
   refine RT o2 (fun w' ⟨O',hq⟩=>s7.keep (hq.agree (i:=19) (by decide) _ r7)) rfl rfl rfl rfl ?_
   refine As ?_
   refine Au (i:=7) (by kernel_rfl) rfl ?_
   obtain ⟨zB,aC,f1⟩:=bs f1
   replace hB:=((hB.st s3).st t3).st u3
   refine Bf (O:=o7) (A:=All n7) (R:=fun w' F v=>Vb w' F v zB) (DF (fun _ h=>h) yB (TabF.mono (TabF.bm hT' hB) Fr.lt) aC) rfl rfl fun vI wI bC p2 cC=>?_
   obtain ⟨rfl,dC⟩:=cC.str
   have hZ:=p2.lst [] (fun _ h=>h.elim)
   replace d0:=d0.stS p2 id (fun _ _=>id)
   refine Ay [] hZ (by kernel_rfl) ?_
   refine Au (i:=8) (by kernel_rfl) rfl ?_
   obtain ⟨xI,eC,f1⟩:=bs f1
   replace n2:=(((n2.st s3).st t3).st u3).st p2
   refine Cc (O:=bC) (Fc n2 (Vb.ofAgg (cs:=[(.int .i64 o2.var),(.int .i64 o2.val)]) (x:=o2) rfl ⟨rfl,tB,uB⟩) dC eC) rfl rfl fun yI zI aJ v3 fC=>?_
   replace d0:=d0.stS v3 (by decide) (by decide)
   refine BK (by kernel_rfl) ?_
   refine AZ (by kernel_rfl) ?_
   replace f4:=(f4.st p2).st v3
   replace d3:=(d3.st p2).st v3
   obtain ⟨bJ,g4,eD,fD,gC⟩:=BxM.shut (x:=n0.1) (l0:=10) (l1:=19) (by decide) f4 d3
   replace d0:=d0.stS g4 (by decide) (by decide)
   obtain rfl:=sm f1
   exact show Exists _ from ⟨_,(),rfl,⟨rfl,rfl,rfl,rfl,rfl,rfl,rfl,rfl,rfl,trivial⟩,_,((hB.st p2).st v3).st g4,fC.st g4,gC,d0,(((((e1.st s3).st t3).st u3).st p2).st v3).st g4⟩
  replace hB:=(hB.st r3).st b3
  replace e0:=(e0.st r3).st b3
  rintro cJ dJ ⟨eJ,fJ,rfl,y1,gJ,hB,n2,e0,d0⟩
  replace d1:=AV d1
  obtain rfl:=sm d1
  exact show Exists _ from ⟨_,(),rfl,⟨(Bj y1 _ _ rfl),(Bj y1 _ _ rfl),(Bj y1 _ _ rfl),(Bj y1 _ _ rfl),(Bj y1 _ _ rfl),trivial⟩,_,hB,n2,e0,d0⟩
 replace hB:=((hB.st b4).st n3).st p3
 rintro hJ iJ ⟨jJ,kJ,rfl,gD,lJ,hB,q3⟩
 replace hm:=AV hm
 obtain rfl:=sm hm
 obtain ⟨O',hS',hz,hl⟩:=hE.leave (fun q=>if q=2 then i0 else 0) rfl hB
 exact ret0n rfl  ⟨O',hS',(Ob.leave q3 hz (hl 2 (by decide) (by decide)) j5.2)⟩
noncomputable def Cn (x0:Tsk) (x1:Int):Option (Option Fnd) :=
  bnd (mkI 1 (false:Bool) (x0.vars.length:Int)) fun u27=>bnd (rng (ρ:=(Option Fnd)) (fun (k51:Nat) (a52:Int) (s49:(List Fct)×(List (List ByteArray))×(List Int)×(List (List Int))×(List (List Bool)))=>bnd (mkI 16 ((⟨#[]⟩:ByteArray):ByteArray) a52) fun u90=>bnd (appI 24 s49.2.1 ([u90]:List (List ByteArray))) fun u92=>bnd (mkI 1 (false:Bool) a52) fun u94=>bnd (appI 24 s49.2.2.2.2 ([u94]:List (List Bool))) fun u96=>bnd (some (u92,u96):Option ((List (List ByteArray))×(List (List Bool)))) fun y98=>bnd (appI 8 s49.2.2.1 ([(-1)]:List Int)) fun u503=>bnd (Cy ([(-1)]:List Int) a52) fun q505=>bnd (appI 24 s49.2.2.2.1 ([q505]:List (List Int))) fun u507=>bnd (some (u503,u507):Option ((List Int)×(List (List Int)))) fun y509=>bnd (natI a52) fun N678=>bnd (rngN (ρ:=Ctl ((List Fct)×(List (List ByteArray))×(List Int)×(List (List Int))×(List (List Bool))) (Option Fnd)) (fun (k669:Nat) (s667:(List Fct))=>bnd (appI 16 s667 [(⟨(k51:Int),(k669:Int)⟩:Fct)]) fun u684=>some (.next u684)) N678 s49.1) fun res665=>fin res665 fun (s702:(List Fct))=>some (.next (s702,y98.1,y509.1,y509.2,y98.2))) x0.vars 0 (([]:List Fct),([]:List (List ByteArray)),([]:List Int),([]:List (List Int)),([]:List (List Bool)))) fun res47=>fin res47 fun (s708:(List Fct)×(List (List ByteArray))×(List Int)×(List (List Int))×(List (List Bool)))=>bnd (rng (ρ:=(Option Fnd)) (fun (k716:Nat) (a717:Fct) (s714:Fnd)=>bnd (BH s714 a717 (⟨#[103,111,97,108]⟩:ByteArray)) fun q752=>some (.next q752)) x0.goal 0 (⟨(⟨x0.vars,x0.init,x0.goal,x0.ops⟩:Tsk),s708.1,s708.2.1,(⟨s708.2.2.1,s708.2.2.2.1,([]:List Int)⟩:Swp),s708.2.2.2.2,u27,0,x1,false⟩:Fnd)) fun res712=>fin res712 fun (s764:Fnd)=>bnd (BZ s764) fun q766=>some (some q766)
set_option maxHeartbeats 1000000 in
theorem HC {w:World} {O:Lab} {vx0:Value} {x0:Tsk} (eC:Vb w (Fr 0 w O) vx0 x0) {x1:Int} (rx1:inI64 x1) (j0:Nat) (hj0:j0≠0) (hT:TabF w (Fr 0 w O)) {r:(Option Fnd)} (hm:Cn x0 x1=some r) :
    Fn Tryz.prog 20 [vx0,(.int .i64 x1)] w fun v w'=>∃ O',St nT w O w' O'∧Obo j0 w' O' v r:=by
 obtain ⟨O0,hE,mI⟩:=ent0 (w:=w) (O:=O)
 have hB:Bm w O0 w O0:=Bm.refl
 have hT':=hT.mono mI
 replace eC:=eC.mono mI
 obtain ⟨bQ,rfl,v4,v5,v6,v7,rfl,h8,j1,b1,k1⟩:=eC
 obtain ⟨A9,q0,rfl⟩:=h8.form
 obtain ⟨u0,v0,rfl⟩:=j1.form
 obtain ⟨s0,t0,rfl⟩:=b1.form
 obtain ⟨w0,y0,rfl⟩:=k1.form
 refine AP Tryz.func20 rfl Tryz.ntmps20 rfl ?_
 unfold Cn at hm
 refine Ab (Aa (BC 2 O0 rfl rfl fun w5 uI fC o6 m1=>?_))
 replace m1:Lc 2 uI fC w5 30 [(.slice A9 x0.vars.length q0),(.slice u0 x0.init.length v0),(.slice s0 x0.goal.length t0),(.slice w0 x0.ops.length y0)]:=m1
 refine Am rfl rfl (o_z ?_)
 refine Ab (Bc [] fC ?_)
 refine Az (fuel:=4) [] [(0,true),(1,true),(2,true),(3,true),(4,true)] (by kernel_rfl) rfl ?_
 refine Cl (hl:=rfl) (hb:=fun w' ⟨O',hq⟩=>((m1.st hq (by decide)).1).cellsAt) rfl rfl rfl ?_
 refine AH rfl rfl rfl (AM rfl rfl rfl (AK (hc:=fun w' ⟨O',hq⟩=>Blk.cell (i:=0) ((m1.st hq (by decide)).1) rfl) rfl rfl rfl ?_))
 refine Hx rfl rfl rfl ?_
 replace h8:=h8.st o6
 have vI:x0.vars.length≤9223372036854775807:=Nat.le_trans h8.len.2.1 h8.len.2.2
 have cQ:inI64 (x0.vars.length:Int):=rngNat vI
 refine As ?_
 refine Au (i:=5) (by kernel_rfl) rfl ?_
 obtain ⟨a1,wI,hm⟩:=bs hm
 obtain ⟨e1,xI,yI,zI,aJ⟩:=CL wI
 refine DG 3 (by decide) fC (z0:=(false:Bool)) rfl rfl rfl rfl rfl xI vBool yI zI rfl fun f1 dQ bJ a6 n1=>?_
 rw [← aJ] at n1 ⊢
 have hZ:=a6.lst [] (fun _ h=>h.elim)
 refine Ay [] hZ (by kernel_rfl) ?_
 refine Az (fuel:=2) [] [(6,true)] (by kernel_rfl) rfl ?_
 refine Ft rfl rfl rfl rfl ?_
 refine As ?_
 refine Au (i:=7) (by kernel_rfl) rfl ?_
 refine BC 4 bJ rfl rfl fun c1 cJ nI x5 b0=>?_
 replace b0:Lc 4 cJ nI c1 67 [(.slice A9 x0.vars.length q0),(.slice u0 x0.init.length v0),(.slice s0 x0.goal.length t0),(.slice w0 x0.ops.length y0),(.slice none 0 0),(.slice none 0 0),(.slice none 0 0),(.slice none 0 0),(.slice none 0 0),(.slice none 0 0),(.slice (some ⟨f1,0,none⟩) a1.length e1),(.int .i64 0),(.int .i64 x1),(.bool false)]:=b0
 have hZ:=x5.lst [] (fun _ h=>h.elim)
 refine Ay [] hZ (by kernel_rfl) ?_
 refine Az (fuel:=0) [] [(8,true)] (by kernel_rfl) rfl ?_
 refine Eh rfl rfl rfl (As ?_)
 refine AZ (by kernel_rfl) ?_
 refine Ab (Ab (Aa (AS rfl rfl ?_)))
 replace m1:=(m1.st a6).st x5
 refine AJ (hc:=Blk.cell (i:=0) (m1.1) rfl) rfl rfl ?_
 refine AX rfl rfl ?_
 replace h8:=(h8.st a6).st x5
 have gC:x0.vars.length≤9223372036854775807:=Nat.le_trans h8.len.2.1 h8.len.2.2
 have eQ:inI64 (x0.vars.length:Int):=rngNat gC
 refine Aj rfl rfl (o_z ?_)
 obtain ⟨p8,hC,hm⟩:=bs hm
 refine Ax (aft p8 (fun (e0:(List Fct)×(List (List ByteArray))×(List Int)×(List (List Int))×(List (List Bool))) (a0:(Option Addr×Nat)×(Option Addr×Nat)×(Option Addr×Nat)×(Option Addr×Nat)×(Option Addr×Nat))=>[(2,(.pointer (some ⟨w5,0,none⟩))),(5,(.pointer (some ⟨c1,0,none⟩)))]) (fun e0 a0 w'=>∃ O':Lab,Bm w O0 w' O'∧Lc 2 w' O' w5 30 [(.slice A9 x0.vars.length q0),(.slice u0 x0.init.length v0),(.slice s0 x0.goal.length t0),(.slice w0 x0.ops.length y0)]∧Vb w' (Fr 0 w' O') (.slice A9 x0.vars.length q0) x0.vars∧Vb w' (Fr 0 w' O') (.slice u0 x0.init.length v0) x0.init∧Vb w' (Fr 0 w' O') (.slice s0 x0.goal.length t0) x0.goal∧Vb w' (Fr 0 w' O') (.slice w0 x0.ops.length y0) x0.ops∧Lc 4 w' O' c1 67 [(.slice A9 x0.vars.length q0),(.slice u0 x0.init.length v0),(.slice s0 x0.goal.length t0),(.slice w0 x0.ops.length y0),(.slice a0.1.1 e0.1.length a0.1.2),(.slice a0.2.1.1 e0.2.1.length a0.2.1.2),(.slice a0.2.2.1.1 e0.2.2.1.length a0.2.2.1.2),(.slice a0.2.2.2.1.1 e0.2.2.2.1.length a0.2.2.2.1.2),(.slice none 0 0),(.slice a0.2.2.2.2.1 e0.2.2.2.2.length a0.2.2.2.2.2),(.slice (some ⟨f1,0,none⟩) a1.length e1),(.int .i64 0),(.int .i64 x1),(.bool false)]∧Rw 17 w' O' 26 (.slice a0.1.1 e0.1.length a0.1.2) e0.1∧NR ByteArray 7 w' O' 80 9 (.slice a0.2.1.1 e0.2.1.length a0.2.1.2) e0.2.1 none∧Rw 12 w' O' 3 (.slice a0.2.2.1.1 e0.2.2.1.length a0.2.2.1.2) e0.2.2.1∧NR Int 16 w' O' 24 3 (.slice a0.2.2.2.1.1 e0.2.2.2.1.length a0.2.2.2.1.2) e0.2.2.2.1 none∧NR Bool 10 w' O' 65 4 (.slice a0.2.2.2.2.1 e0.2.2.2.2.length a0.2.2.2.2.2) e0.2.2.2.2 none∧Rw 3 w' O' 4 (.slice (some ⟨f1,0,none⟩) a1.length e1) a1)) ?_ ?_
 ·
  refine AG ?_
  replace hB:=((hB.st o6).st a6).st x5
  replace j1:=((j1.st o6).st a6).st x5
  replace b1:=((b1.st o6).st a6).st x5
  replace k1:=((k1.st o6).st a6).st x5
  replace n1:=n1.st x5
  refine Bk (σ:=(List Fct)×(List (List ByteArray))×(List Int)×(List (List Int))×(List (List Bool))) (X:=(Option Addr×Nat)×(Option Addr×Nat)×(Option Addr×Nat)×(Option Addr×Nat)×(Option Addr×Nat)) (x0.vars.length) hC rfl gC (fun (e0:(List Fct)×(List (List ByteArray))×(List Int)×(List (List Int))×(List (List Bool))) (a0:(Option Addr×Nat)×(Option Addr×Nat)×(Option Addr×Nat)×(Option Addr×Nat)×(Option Addr×Nat))=>[(2,(.pointer (some ⟨w5,0,none⟩))),(5,(.pointer (some ⟨c1,0,none⟩))),(20,(.slice A9 x0.vars.length q0))]) _ (fun e0 a0 w'=>∃ O':Lab,Bm w O0 w' O'∧Lc 2 w' O' w5 30 [(.slice A9 x0.vars.length q0),(.slice u0 x0.init.length v0),(.slice s0 x0.goal.length t0),(.slice w0 x0.ops.length y0)]∧Vb w' (Fr 0 w' O') (.slice A9 x0.vars.length q0) x0.vars∧Vb w' (Fr 0 w' O') (.slice u0 x0.init.length v0) x0.init∧Vb w' (Fr 0 w' O') (.slice s0 x0.goal.length t0) x0.goal∧Vb w' (Fr 0 w' O') (.slice w0 x0.ops.length y0) x0.ops∧Lc 4 w' O' c1 67 [(.slice A9 x0.vars.length q0),(.slice u0 x0.init.length v0),(.slice s0 x0.goal.length t0),(.slice w0 x0.ops.length y0),(.slice a0.1.1 e0.1.length a0.1.2),(.slice a0.2.1.1 e0.2.1.length a0.2.1.2),(.slice a0.2.2.1.1 e0.2.2.1.length a0.2.2.1.2),(.slice a0.2.2.2.1.1 e0.2.2.2.1.length a0.2.2.2.1.2),(.slice none 0 0),(.slice a0.2.2.2.2.1 e0.2.2.2.2.length a0.2.2.2.2.2),(.slice (some ⟨f1,0,none⟩) a1.length e1),(.int .i64 0),(.int .i64 x1),(.bool false)]∧Rw 17 w' O' 26 (.slice a0.1.1 e0.1.length a0.1.2) e0.1∧NR ByteArray 7 w' O' 80 9 (.slice a0.2.1.1 e0.2.1.length a0.2.1.2) e0.2.1 none∧Rw 12 w' O' 3 (.slice a0.2.2.1.1 e0.2.2.1.length a0.2.2.1.2) e0.2.2.1∧NR Int 16 w' O' 24 3 (.slice a0.2.2.2.1.1 e0.2.2.2.1.length a0.2.2.2.1.2) e0.2.2.2.1 none∧NR Bool 10 w' O' 65 4 (.slice a0.2.2.2.2.1 e0.2.2.2.2.length a0.2.2.2.2.2) e0.2.2.2.2 none∧Rw 3 w' O' 4 (.slice (some ⟨f1,0,none⟩) a1.length e1) a1) _ ((none,0),(none,0),(none,0),(none,0),(none,0)) ⟨nI,hB,m1,h8,j1,b1,k1,b0,(Rw.nil 17 (by decide)),(NR.nil 7 (by decide)),(Rw.nil 12 (by decide)),(NR.nil 16 (by decide)),(NR.nil 10 (by decide)),n1⟩ ⟨rfl,rfl,rfl,rfl,rfl,trivial⟩ (fun _ _=>⟨rfl,rfl⟩) (fun _ _=>⟨rfl,rfl,trivial⟩) (fun _ _ _ ⟨O',hB,m1,h8,j1,b1,k1,b0,g5,h1,i4,j4,i1,n1⟩=>⟨O',hB,m1,h8,j1,b1,k1,b0,g5,h1,i4,j4,i1,n1⟩) ⟨rfl,rfl,rfl⟩ ⟨rfl,rfl⟩ ?_
  rintro b6 oI e0 a0 fQ dJ q8 ⟨iC,hB,m1,h8,j1,b1,k1,b0,g5,h1,i4,j4,i1,n1⟩ r0 jC kC
  have rk51:inI64 (b6:Int):=rngK q8 gC
  refine Ab (Aa (Aj rfl rfl ?_))
  obtain ⟨gQ,hQ,eJ,lC,mC,nC,rfl,r8⟩:=h8.elem' q8
  refine Bv (hA:=lC) (hj:=rfl) (hlt:=mC) rfl rfl rfl ?_
  refine AJ (hc:=cat0 nC) rfl rfl ?_
  refine Am rfl rfl (Am rfl rfl (o_z ?_))
  refine Ab ?_
  obtain ⟨iQ,oC,r0⟩:=bs r0
  obtain ⟨j5,a2,r0⟩:=bs r0
  obtain ⟨jQ,zB,r0⟩:=bs r0
  obtain ⟨n6,b2,r0⟩:=bs r0
  obtain ⟨g1,h5,r0⟩:=bs r0
  refine Ax (fun l' w'=>∃ (d0:(Option Addr×Nat)×(Option Addr×Nat)) (O':Lab),subs l' [(2,(.pointer (some ⟨w5,0,none⟩))),(5,(.pointer (some ⟨c1,0,none⟩))),(6,(.int .i64 (b6:Int))),(7,(.int .i64 oI)),(20,(.slice A9 x0.vars.length q0)),(21,(.int .i64 (x0.vars.length:Int))),(22,(.int .i64 (b6:Int)))]∧Bm w O0 w' O'∧Lc 2 w' O' w5 30 [(.slice A9 x0.vars.length q0),(.slice u0 x0.init.length v0),(.slice s0 x0.goal.length t0),(.slice w0 x0.ops.length y0)]∧Vb w' (Fr 0 w' O') (.slice A9 x0.vars.length q0) x0.vars∧Vb w' (Fr 0 w' O') (.slice u0 x0.init.length v0) x0.init∧Vb w' (Fr 0 w' O') (.slice s0 x0.goal.length t0) x0.goal∧Vb w' (Fr 0 w' O') (.slice w0 x0.ops.length y0) x0.ops∧Lc 4 w' O' c1 67 [(.slice A9 x0.vars.length q0),(.slice u0 x0.init.length v0),(.slice s0 x0.goal.length t0),(.slice w0 x0.ops.length y0),(.slice a0.1.1 e0.1.length a0.1.2),(.slice d0.1.1 g1.1.length d0.1.2),(.slice a0.2.2.1.1 e0.2.2.1.length a0.2.2.1.2),(.slice a0.2.2.2.1.1 e0.2.2.2.1.length a0.2.2.2.1.2),(.slice none 0 0),(.slice d0.2.1 g1.2.length d0.2.2),(.slice (some ⟨f1,0,none⟩) a1.length e1),(.int .i64 0),(.int .i64 x1),(.bool false)]∧Rw 17 w' O' 26 (.slice a0.1.1 e0.1.length a0.1.2) e0.1∧NR ByteArray 7 w' O' 80 9 (.slice d0.1.1 g1.1.length d0.1.2) g1.1 none∧Rw 12 w' O' 3 (.slice a0.2.2.1.1 e0.2.2.1.length a0.2.2.1.2) e0.2.2.1∧NR Int 16 w' O' 24 3 (.slice a0.2.2.2.1.1 e0.2.2.2.1.length a0.2.2.2.1.2) e0.2.2.2.1 none∧NR Bool 10 w' O' 65 4 (.slice d0.2.1 g1.2.length d0.2.2) g1.2 none∧Rw 3 w' O' 4 (.slice (some ⟨f1,0,none⟩) a1.length e1) a1) ?_ ?_
  ·
   refine Bc [(8,[5]),(9,[6,7]),(16,[8]),(17,[9,10]),(20,[4])] iC ?_
   refine Az (fuel:=23) [8] [(6,true)] (by kernel_rfl) rfl ?_
   refine AH rfl rfl rfl (As ?_)
   refine Az (fuel:=19) [5,8] [(2,true),(3,true),(4,true),(5,true)] (by kernel_rfl) rfl ?_
   refine AH rfl rfl rfl (BR rfl rfl rfl (AM rfl rfl rfl (AK (hc:=fun w' ⟨O',hq⟩=>Blk.cell (i:=5) ((b0.st hq (by decide)).1) rfl) rfl rfl rfl ?_)))
   refine As ?_
   refine Az (fuel:=18) [5,6,7] [(14,true)] (by kernel_rfl) rfl ?_
   refine AH rfl rfl rfl (As ?_)
   refine Az (fuel:=14) [5,6,7,8] [(10,true),(11,true),(12,true),(13,true)] (by kernel_rfl) rfl ?_
   refine AH rfl rfl rfl (BR rfl rfl rfl (AM rfl rfl rfl (AK (hc:=fun w' ⟨O',hq⟩=>Blk.cell (i:=9) ((b0.st hq (by decide)).1) rfl) rfl rfl rfl ?_)))
   refine As ?_
   refine Az (fuel:=13) [5,6,7,8,9,10] [(0,true)] (by kernel_rfl) rfl ?_
   refine AH rfl rfl rfl (As ?_)
   refine Az (fuel:=12) [4,5,6,7,8,9,10] [(1,true)] (by kernel_rfl) rfl ?_
   refine AH rfl rfl rfl (As ?_)
   refine Dk (i:=7) (j:=15) (by kernel_rfl) rfl rfl ?_ ?_
   ·
    obtain ⟨fJ,pC,qC,rC,sC⟩:=CL oC
    refine DG 5 (by decide) iC (z0:=((⟨#[]⟩:ByteArray):ByteArray)) rfl rfl rfl rfl rfl pC (vStr (show (⟨#[]⟩:ByteArray).size≤9223372036854775807 from by decide)) qC rC rfl fun gJ hJ tC c0 n5=>?_
    rw [← sC] at n5 ⊢
    have hZ:=c0.lst [] (fun _ h=>h.elim)
    refine Ay [(8,[5]),(9,[6,7]),(16,[8]),(17,[9,10]),(20,[4])] hZ (by kernel_rfl) ?_
    refine Dk (i:=8) (j:=15) (by kernel_rfl) rfl rfl ?_ ?_
    ·
     refine BT (β:=ByteArray) 6 (by decide) rfl n5 (by decide) rfl (by decide) fun iJ jJ uC i0 r5=>?_
     have hZ:=i0.lst [5] (fun _ h=>by cases h;decide)
     refine Ay [(9,[6,7]),(16,[8]),(17,[9,10]),(20,[4])] hZ (by kernel_rfl) ?_
     refine Dk (i:=9) (j:=15) (by kernel_rfl) rfl rfl ?_ ?_
     ·
      obtain ⟨a2,vC,wC⟩:=AT a2
      replace h1:=(h1.st c0).st i0
      refine BI rfl h1 r5 (by decide) rfl rfl (by decide) vC wC rfl fun w6 x6 kJ xC f3 s8=>?_
      rw [← a2] at s8 ⊢
      have hZ:=f3.lst [6,7] (by rintro _ (h|h)<;>cases h<;>decide)
      refine Ay [(16,[8]),(17,[9,10]),(20,[4])] hZ (by kernel_rfl) ?_
      refine Au (i:=15) (by kernel_rfl) rfl ?_
      obtain ⟨lJ,yC,zC,aD,bD⟩:=CL zB
      refine DG 8 (by decide) xC (z0:=(false:Bool)) rfl rfl rfl rfl rfl yC vBool zC aD rfl fun mJ nJ oJ c2 t8=>?_
      rw [← bD] at t8 ⊢
      have hZ:=c2.lst [] (fun _ h=>h.elim)
      refine Ay [(16,[8]),(17,[9,10]),(20,[4])] hZ (by kernel_rfl) ?_
      refine Au (i:=16) (by kernel_rfl) rfl ?_
      refine BT (β:=Bool) 9 (by decide) rfl t8 (by decide) rfl (by decide) fun pJ qJ rJ d2 cD=>?_
      have hZ:=d2.lst [8] (fun _ h=>by cases h;decide)
      refine Ay [(17,[9,10]),(20,[4])] hZ (by kernel_rfl) ?_
      refine Au (i:=17) (by kernel_rfl) rfl ?_
      obtain ⟨b2,dD,eD⟩:=AT b2
      replace i1:=((((i1.st c0).st i0).st f3).st c2).st d2
      refine BI rfl i1 cD (by decide) rfl rfl (by decide) dD eD rfl fun u8 v8 sJ w8 g3 x8=>?_
      rw [← b2] at x8 ⊢
      have hZ:=g3.lst [9,10] (by rintro _ (h|h)<;>cases h<;>decide)
      refine Ay [(20,[4])] hZ (by kernel_rfl) ?_
      refine Az (fuel:=4) [] [(18,true),(19,true)] (by kernel_rfl) rfl ?_
      refine BR rfl rfl rfl (AM rfl rfl rfl (As ?_))
      refine Au (i:=20) (by kernel_rfl) rfl ?_
      replace b0:=(((((b0.st c0).st i0).st f3).st c2).st d2).st g3
      refine AD b0 rfl rfl rfl (AU rfl) (allOne rfl) fun fD h3 b0=>?_
      replace b0:Lc 4 fD w8 c1 67 [(.slice A9 x0.vars.length q0),(.slice u0 x0.init.length v0),(.slice s0 x0.goal.length t0),(.slice w0 x0.ops.length y0),(.slice a0.1.1 e0.1.length a0.1.2),(.slice w6 j5.length x6),(.slice a0.2.2.1.1 e0.2.2.1.length a0.2.2.1.2),(.slice a0.2.2.2.1.1 e0.2.2.2.1.length a0.2.2.2.1.2),(.slice none 0 0),(.slice a0.2.2.2.2.1 e0.2.2.2.2.length a0.2.2.2.2.2),(.slice (some ⟨f1,0,none⟩) a1.length e1),(.int .i64 0),(.int .i64 x1),(.bool false)]:=b0
      have hZ:=h3.lst [4] (fun _ h=>by cases h;decide)
      refine Ay [] hZ (by kernel_rfl) ?_
      refine Az (fuel:=1) [] [(21,true),(22,true)] (by kernel_rfl) rfl ?_
      refine BR rfl rfl rfl (AM rfl rfl rfl (As ?_))
      refine Au (i:=23) (by kernel_rfl) rfl ?_
      refine AD b0 rfl rfl rfl (AU rfl) (allOne rfl) fun gD k4 b0=>?_
      replace b0:Lc 4 gD w8 c1 67 [(.slice A9 x0.vars.length q0),(.slice u0 x0.init.length v0),(.slice s0 x0.goal.length t0),(.slice w0 x0.ops.length y0),(.slice a0.1.1 e0.1.length a0.1.2),(.slice w6 j5.length x6),(.slice a0.2.2.1.1 e0.2.2.1.length a0.2.2.1.2),(.slice a0.2.2.2.1.1 e0.2.2.2.1.length a0.2.2.2.1.2),(.slice none 0 0),(.slice u8 n6.length v8),(.slice (some ⟨f1,0,none⟩) a1.length e1),(.int .i64 0),(.int .i64 x1),(.bool false)]:=b0
      refine BK (by kernel_rfl) ?_
      refine AZ (by kernel_rfl) ?_
      obtain rfl:=sm h5
      exact ⟨((w6,x6),(u8,v8)),_,⟨rfl,rfl,rfl,rfl,rfl,rfl,rfl,trivial⟩,(((((((hB.st c0).st i0).st f3).st c2).st d2).st g3).st h3).st k4,(((((((m1.st c0).st i0).st f3).st c2).st d2).st g3).st h3).st k4,(((((((h8.st c0).st i0).st f3).st c2).st d2).st g3).st h3).st k4,(((((((j1.st c0).st i0).st f3).st c2).st d2).st g3).st h3).st k4,(((((((b1.st c0).st i0).st f3).st c2).st d2).st g3).st h3).st k4,(((((((k1.st c0).st i0).st f3).st c2).st d2).st g3).st h3).st k4,b0,(((((((g5.st c0).st i0).st f3).st c2).st d2).st g3).st h3).st k4,((((s8.st c2).st d2).st g3).st h3).st k4,(((((((i4.st c0).st i0).st f3).st c2).st d2).st g3).st h3).st k4,(((((((j4.st c0).st i0).st f3).st c2).st d2).st g3).st h3).st k4,(x8.st h3).st k4,(((((((n1.st c0).st i0).st f3).st c2).st d2).st g3).st h3).st k4⟩
     obtain ⟨tJ,hD,iD,jD,kD⟩:=CL zB
     refine DG 8 (by decide) uC (z0:=(false:Bool)) rfl rfl rfl rfl rfl hD vBool iD jD rfl fun uJ vJ wJ m0 c6=>?_
     rw [← kD] at c6 ⊢
     have hZ:=m0.lst [] (fun _ h=>h.elim)
     refine Ay [(9,[6,7]),(16,[8]),(17,[9,10]),(20,[4])] hZ (by kernel_rfl) ?_
     refine Dk (i:=9) (j:=16) (by kernel_rfl) rfl rfl ?_ ?_
     ·
      obtain ⟨a2,lD,mD⟩:=AT a2
      replace h1:=((h1.st c0).st i0).st m0
      replace r5:=r5.st m0
      refine BI rfl h1 r5 (by decide) rfl rfl (by decide) lD mD rfl fun y6 z6 xJ yJ e2 y8=>?_
      rw [← a2] at y8 ⊢
      have hZ:=e2.lst [6,7] (by rintro _ (h|h)<;>cases h<;>decide)
      refine Ay [(16,[8]),(17,[9,10]),(20,[4])] hZ (by kernel_rfl) ?_
      refine Au (i:=16) (by kernel_rfl) rfl ?_
      replace c6:=c6.st e2
      refine BT (β:=Bool) 9 (by decide) rfl c6 (by decide) rfl (by decide) fun zJ aK bK f2 nD=>?_
      have hZ:=f2.lst [8] (fun _ h=>by cases h;decide)
      refine Ay [(17,[9,10]),(20,[4])] hZ (by kernel_rfl) ?_
      refine Au (i:=17) (by kernel_rfl) rfl ?_
      obtain ⟨b2,oD,pD⟩:=AT b2
      replace i1:=((((i1.st c0).st i0).st m0).st e2).st f2
      refine BI rfl i1 nD (by decide) rfl rfl (by decide) oD pD rfl fun z8 a9 cK b9 i3 c9=>?_
      rw [← b2] at c9 ⊢
      have hZ:=i3.lst [9,10] (by rintro _ (h|h)<;>cases h<;>decide)
      refine Ay [(20,[4])] hZ (by kernel_rfl) ?_
      refine Az (fuel:=4) [] [(18,true),(19,true)] (by kernel_rfl) rfl ?_
      refine BR rfl rfl rfl (AM rfl rfl rfl (As ?_))
      refine Au (i:=20) (by kernel_rfl) rfl ?_
      replace b0:=(((((b0.st c0).st i0).st m0).st e2).st f2).st i3
      refine AD b0 rfl rfl rfl (AU rfl) (allOne rfl) fun qD j3 b0=>?_
      replace b0:Lc 4 qD b9 c1 67 [(.slice A9 x0.vars.length q0),(.slice u0 x0.init.length v0),(.slice s0 x0.goal.length t0),(.slice w0 x0.ops.length y0),(.slice a0.1.1 e0.1.length a0.1.2),(.slice y6 j5.length z6),(.slice a0.2.2.1.1 e0.2.2.1.length a0.2.2.1.2),(.slice a0.2.2.2.1.1 e0.2.2.2.1.length a0.2.2.2.1.2),(.slice none 0 0),(.slice a0.2.2.2.2.1 e0.2.2.2.2.length a0.2.2.2.2.2),(.slice (some ⟨f1,0,none⟩) a1.length e1),(.int .i64 0),(.int .i64 x1),(.bool false)]:=b0
      have hZ:=j3.lst [4] (fun _ h=>by cases h;decide)
      refine Ay [] hZ (by kernel_rfl) ?_
      refine Az (fuel:=1) [] [(21,true),(22,true)] (by kernel_rfl) rfl ?_
      refine BR rfl rfl rfl (AM rfl rfl rfl (As ?_))
      refine Au (i:=23) (by kernel_rfl) rfl ?_
      refine AD b0 rfl rfl rfl (AU rfl) (allOne rfl) fun rD m4 b0=>?_
      replace b0:Lc 4 rD b9 c1 67 [(.slice A9 x0.vars.length q0),(.slice u0 x0.init.length v0),(.slice s0 x0.goal.length t0),(.slice w0 x0.ops.length y0),(.slice a0.1.1 e0.1.length a0.1.2),(.slice y6 j5.length z6),(.slice a0.2.2.1.1 e0.2.2.1.length a0.2.2.1.2),(.slice a0.2.2.2.1.1 e0.2.2.2.1.length a0.2.2.2.1.2),(.slice none 0 0),(.slice z8 n6.length a9),(.slice (some ⟨f1,0,none⟩) a1.length e1),(.int .i64 0),(.int .i64 x1),(.bool false)]:=b0
      refine BK (by kernel_rfl) ?_
      refine AZ (by kernel_rfl) ?_
      obtain rfl:=sm h5
      exact ⟨((y6,z6),(z8,a9)),_,⟨rfl,rfl,rfl,rfl,rfl,rfl,rfl,trivial⟩,(((((((hB.st c0).st i0).st m0).st e2).st f2).st i3).st j3).st m4,(((((((m1.st c0).st i0).st m0).st e2).st f2).st i3).st j3).st m4,(((((((h8.st c0).st i0).st m0).st e2).st f2).st i3).st j3).st m4,(((((((j1.st c0).st i0).st m0).st e2).st f2).st i3).st j3).st m4,(((((((b1.st c0).st i0).st m0).st e2).st f2).st i3).st j3).st m4,(((((((k1.st c0).st i0).st m0).st e2).st f2).st i3).st j3).st m4,b0,(((((((g5.st c0).st i0).st m0).st e2).st f2).st i3).st j3).st m4,(((y8.st f2).st i3).st j3).st m4,(((((((i4.st c0).st i0).st m0).st e2).st f2).st i3).st j3).st m4,(((((((j4.st c0).st i0).st m0).st e2).st f2).st i3).st j3).st m4,(c9.st j3).st m4,(((((((n1.st c0).st i0).st m0).st e2).st f2).st i3).st j3).st m4⟩
     refine BT (β:=Bool) 9 (by decide) rfl c6 (by decide) rfl (by decide) fun dK eK fK o1 a7=>?_
     have hZ:=o1.lst [8] (fun _ h=>by cases h;decide)
     refine Ay [(9,[6,7]),(17,[9,10]),(20,[4])] hZ (by kernel_rfl) ?_
     refine Au (i:=9) (by kernel_rfl) rfl ?_
     obtain ⟨a2,sD,tD⟩:=AT a2
     replace h1:=(((h1.st c0).st i0).st m0).st o1
     replace r5:=(r5.st m0).st o1
     refine BI rfl h1 r5 (by decide) rfl rfl (by decide) sD tD rfl fun b7 c7 gK hK g2 d9=>?_
     rw [← a2] at d9 ⊢
     have hZ:=g2.lst [6,7] (by rintro _ (h|h)<;>cases h<;>decide)
     refine Ay [(17,[9,10]),(20,[4])] hZ (by kernel_rfl) ?_
     refine Au (i:=17) (by kernel_rfl) rfl ?_
     obtain ⟨b2,uD,vD⟩:=AT b2
     replace i1:=((((i1.st c0).st i0).st m0).st o1).st g2
     replace a7:=a7.st g2
     refine BI rfl i1 a7 (by decide) rfl rfl (by decide) uD vD rfl fun e9 f9 iK g9 k3 h9=>?_
     rw [← b2] at h9 ⊢
     have hZ:=k3.lst [9,10] (by rintro _ (h|h)<;>cases h<;>decide)
     refine Ay [(20,[4])] hZ (by kernel_rfl) ?_
     refine Az (fuel:=4) [] [(18,true),(19,true)] (by kernel_rfl) rfl ?_
     refine BR rfl rfl rfl (AM rfl rfl rfl (As ?_))
     refine Au (i:=20) (by kernel_rfl) rfl ?_
     replace b0:=(((((b0.st c0).st i0).st m0).st o1).st g2).st k3
     refine AD b0 rfl rfl rfl (AU rfl) (allOne rfl) fun wD m3 b0=>?_
     replace b0:Lc 4 wD g9 c1 67 [(.slice A9 x0.vars.length q0),(.slice u0 x0.init.length v0),(.slice s0 x0.goal.length t0),(.slice w0 x0.ops.length y0),(.slice a0.1.1 e0.1.length a0.1.2),(.slice b7 j5.length c7),(.slice a0.2.2.1.1 e0.2.2.1.length a0.2.2.1.2),(.slice a0.2.2.2.1.1 e0.2.2.2.1.length a0.2.2.2.1.2),(.slice none 0 0),(.slice a0.2.2.2.2.1 e0.2.2.2.2.length a0.2.2.2.2.2),(.slice (some ⟨f1,0,none⟩) a1.length e1),(.int .i64 0),(.int .i64 x1),(.bool false)]:=b0
     have hZ:=m3.lst [4] (fun _ h=>by cases h;decide)
     refine Ay [] hZ (by kernel_rfl) ?_
     refine Az (fuel:=1) [] [(21,true),(22,true)] (by kernel_rfl) rfl ?_
     refine BR rfl rfl rfl (AM rfl rfl rfl (As ?_))
     refine Au (i:=23) (by kernel_rfl) rfl ?_
     refine AD b0 rfl rfl rfl (AU rfl) (allOne rfl) fun xD n4 b0=>?_
     replace b0:Lc 4 xD g9 c1 67 [(.slice A9 x0.vars.length q0),(.slice u0 x0.init.length v0),(.slice s0 x0.goal.length t0),(.slice w0 x0.ops.length y0),(.slice a0.1.1 e0.1.length a0.1.2),(.slice b7 j5.length c7),(.slice a0.2.2.1.1 e0.2.2.1.length a0.2.2.1.2),(.slice a0.2.2.2.1.1 e0.2.2.2.1.length a0.2.2.2.1.2),(.slice none 0 0),(.slice e9 n6.length f9),(.slice (some ⟨f1,0,none⟩) a1.length e1),(.int .i64 0),(.int .i64 x1),(.bool false)]:=b0
     refine BK (by kernel_rfl) ?_
     refine AZ (by kernel_rfl) ?_
     obtain rfl:=sm h5
     exact ⟨((b7,c7),(e9,f9)),_,⟨rfl,rfl,rfl,rfl,rfl,rfl,rfl,trivial⟩,(((((((hB.st c0).st i0).st m0).st o1).st g2).st k3).st m3).st n4,(((((((m1.st c0).st i0).st m0).st o1).st g2).st k3).st m3).st n4,(((((((h8.st c0).st i0).st m0).st o1).st g2).st k3).st m3).st n4,(((((((j1.st c0).st i0).st m0).st o1).st g2).st k3).st m3).st n4,(((((((b1.st c0).st i0).st m0).st o1).st g2).st k3).st m3).st n4,(((((((k1.st c0).st i0).st m0).st o1).st g2).st k3).st m3).st n4,b0,(((((((g5.st c0).st i0).st m0).st o1).st g2).st k3).st m3).st n4,((d9.st k3).st m3).st n4,(((((((i4.st c0).st i0).st m0).st o1).st g2).st k3).st m3).st n4,(((((((j4.st c0).st i0).st m0).st o1).st g2).st k3).st m3).st n4,(h9.st m3).st n4,(((((((n1.st c0).st i0).st m0).st o1).st g2).st k3).st m3).st n4⟩
    obtain ⟨jK,yD,zD,aE,bE⟩:=CL zB
    refine DG 8 (by decide) tC (z0:=(false:Bool)) rfl rfl rfl rfl rfl yD vBool zD aE rfl fun kK lK mK h0 o5=>?_
    rw [← bE] at o5 ⊢
    have hZ:=h0.lst [] (fun _ h=>h.elim)
    refine Ay [(8,[5]),(9,[6,7]),(16,[8]),(17,[9,10]),(20,[4])] hZ (by kernel_rfl) ?_
    refine Dk (i:=8) (j:=16) (by kernel_rfl) rfl rfl ?_ ?_
    ·
     replace n5:=n5.st h0
     refine BT (β:=ByteArray) 6 (by decide) rfl n5 (by decide) rfl (by decide) fun nK oK pK n0 p6=>?_
     have hZ:=n0.lst [5] (fun _ h=>by cases h;decide)
     refine Ay [(9,[6,7]),(16,[8]),(17,[9,10]),(20,[4])] hZ (by kernel_rfl) ?_
     refine Dk (i:=9) (j:=16) (by kernel_rfl) rfl rfl ?_ ?_
     ·
      obtain ⟨a2,cE,dE⟩:=AT a2
      replace h1:=((h1.st c0).st h0).st n0
      refine BI rfl h1 p6 (by decide) rfl rfl (by decide) cE dE rfl fun d7 e7 qK rK h2 i9=>?_
      rw [← a2] at i9 ⊢
      have hZ:=h2.lst [6,7] (by rintro _ (h|h)<;>cases h<;>decide)
      refine Ay [(16,[8]),(17,[9,10]),(20,[4])] hZ (by kernel_rfl) ?_
      refine Au (i:=16) (by kernel_rfl) rfl ?_
      replace o5:=(o5.st n0).st h2
      refine BT (β:=Bool) 9 (by decide) rfl o5 (by decide) rfl (by decide) fun sK tK uK i2 eE=>?_
      have hZ:=i2.lst [8] (fun _ h=>by cases h;decide)
      refine Ay [(17,[9,10]),(20,[4])] hZ (by kernel_rfl) ?_
      refine Au (i:=17) (by kernel_rfl) rfl ?_
      obtain ⟨b2,fE,gE⟩:=AT b2
      replace i1:=((((i1.st c0).st h0).st n0).st h2).st i2
      refine BI rfl i1 eE (by decide) rfl rfl (by decide) fE gE rfl fun j9 k9 vK l9 n3 m9=>?_
      rw [← b2] at m9 ⊢
      have hZ:=n3.lst [9,10] (by rintro _ (h|h)<;>cases h<;>decide)
      refine Ay [(20,[4])] hZ (by kernel_rfl) ?_
      refine Az (fuel:=4) [] [(18,true),(19,true)] (by kernel_rfl) rfl ?_
      refine BR rfl rfl rfl (AM rfl rfl rfl (As ?_))
      refine Au (i:=20) (by kernel_rfl) rfl ?_
      replace b0:=(((((b0.st c0).st h0).st n0).st h2).st i2).st n3
      refine AD b0 rfl rfl rfl (AU rfl) (allOne rfl) fun iE o3 b0=>?_
      replace b0:Lc 4 iE l9 c1 67 [(.slice A9 x0.vars.length q0),(.slice u0 x0.init.length v0),(.slice s0 x0.goal.length t0),(.slice w0 x0.ops.length y0),(.slice a0.1.1 e0.1.length a0.1.2),(.slice d7 j5.length e7),(.slice a0.2.2.1.1 e0.2.2.1.length a0.2.2.1.2),(.slice a0.2.2.2.1.1 e0.2.2.2.1.length a0.2.2.2.1.2),(.slice none 0 0),(.slice a0.2.2.2.2.1 e0.2.2.2.2.length a0.2.2.2.2.2),(.slice (some ⟨f1,0,none⟩) a1.length e1),(.int .i64 0),(.int .i64 x1),(.bool false)]:=b0
      have hZ:=o3.lst [4] (fun _ h=>by cases h;decide)
      refine Ay [] hZ (by kernel_rfl) ?_
      refine Az (fuel:=1) [] [(21,true),(22,true)] (by kernel_rfl) rfl ?_
      refine BR rfl rfl rfl (AM rfl rfl rfl (As ?_))
      refine Au (i:=23) (by kernel_rfl) rfl ?_
      refine AD b0 rfl rfl rfl (AU rfl) (allOne rfl) fun jE o4 b0=>?_
      replace b0:Lc 4 jE l9 c1 67 [(.slice A9 x0.vars.length q0),(.slice u0 x0.init.length v0),(.slice s0 x0.goal.length t0),(.slice w0 x0.ops.length y0),(.slice a0.1.1 e0.1.length a0.1.2),(.slice d7 j5.length e7),(.slice a0.2.2.1.1 e0.2.2.1.length a0.2.2.1.2),(.slice a0.2.2.2.1.1 e0.2.2.2.1.length a0.2.2.2.1.2),(.slice none 0 0),(.slice j9 n6.length k9),(.slice (some ⟨f1,0,none⟩) a1.length e1),(.int .i64 0),(.int .i64 x1),(.bool false)]:=b0
      refine BK (by kernel_rfl) ?_
      refine AZ (by kernel_rfl) ?_
      obtain rfl:=sm h5
      exact ⟨((d7,e7),(j9,k9)),_,⟨rfl,rfl,rfl,rfl,rfl,rfl,rfl,trivial⟩,(((((((hB.st c0).st h0).st n0).st h2).st i2).st n3).st o3).st o4,(((((((m1.st c0).st h0).st n0).st h2).st i2).st n3).st o3).st o4,(((((((h8.st c0).st h0).st n0).st h2).st i2).st n3).st o3).st o4,(((((((j1.st c0).st h0).st n0).st h2).st i2).st n3).st o3).st o4,(((((((b1.st c0).st h0).st n0).st h2).st i2).st n3).st o3).st o4,(((((((k1.st c0).st h0).st n0).st h2).st i2).st n3).st o3).st o4,b0,(((((((g5.st c0).st h0).st n0).st h2).st i2).st n3).st o3).st o4,(((i9.st i2).st n3).st o3).st o4,(((((((i4.st c0).st h0).st n0).st h2).st i2).st n3).st o3).st o4,(((((((j4.st c0).st h0).st n0).st h2).st i2).st n3).st o3).st o4,(m9.st o3).st o4,(((((((n1.st c0).st h0).st n0).st h2).st i2).st n3).st o3).st o4⟩
     replace o5:=o5.st n0
     refine BT (β:=Bool) 9 (by decide) rfl o5 (by decide) rfl (by decide) fun wK xK yK p1 f7=>?_
     have hZ:=p1.lst [8] (fun _ h=>by cases h;decide)
     refine Ay [(9,[6,7]),(17,[9,10]),(20,[4])] hZ (by kernel_rfl) ?_
     refine Au (i:=9) (by kernel_rfl) rfl ?_
     obtain ⟨a2,kE,lE⟩:=AT a2
     replace h1:=(((h1.st c0).st h0).st n0).st p1
     replace p6:=p6.st p1
     refine BI rfl h1 p6 (by decide) rfl rfl (by decide) kE lE rfl fun g7 h7 zK aL j2 n9=>?_
     rw [← a2] at n9 ⊢
     have hZ:=j2.lst [6,7] (by rintro _ (h|h)<;>cases h<;>decide)
     refine Ay [(17,[9,10]),(20,[4])] hZ (by kernel_rfl) ?_
     refine Au (i:=17) (by kernel_rfl) rfl ?_
     obtain ⟨b2,mE,nE⟩:=AT b2
     replace i1:=((((i1.st c0).st h0).st n0).st p1).st j2
     replace f7:=f7.st j2
     refine BI rfl i1 f7 (by decide) rfl rfl (by decide) mE nE rfl fun o9 p9 bL q9 p3 r9=>?_
     rw [← b2] at r9 ⊢
     have hZ:=p3.lst [9,10] (by rintro _ (h|h)<;>cases h<;>decide)
     refine Ay [(20,[4])] hZ (by kernel_rfl) ?_
     refine Az (fuel:=4) [] [(18,true),(19,true)] (by kernel_rfl) rfl ?_
     refine BR rfl rfl rfl (AM rfl rfl rfl (As ?_))
     refine Au (i:=20) (by kernel_rfl) rfl ?_
     replace b0:=(((((b0.st c0).st h0).st n0).st p1).st j2).st p3
     refine AD b0 rfl rfl rfl (AU rfl) (allOne rfl) fun oE q3 b0=>?_
     replace b0:Lc 4 oE q9 c1 67 [(.slice A9 x0.vars.length q0),(.slice u0 x0.init.length v0),(.slice s0 x0.goal.length t0),(.slice w0 x0.ops.length y0),(.slice a0.1.1 e0.1.length a0.1.2),(.slice g7 j5.length h7),(.slice a0.2.2.1.1 e0.2.2.1.length a0.2.2.1.2),(.slice a0.2.2.2.1.1 e0.2.2.2.1.length a0.2.2.2.1.2),(.slice none 0 0),(.slice a0.2.2.2.2.1 e0.2.2.2.2.length a0.2.2.2.2.2),(.slice (some ⟨f1,0,none⟩) a1.length e1),(.int .i64 0),(.int .i64 x1),(.bool false)]:=b0
     have hZ:=q3.lst [4] (fun _ h=>by cases h;decide)
     refine Ay [] hZ (by kernel_rfl) ?_
     refine Az (fuel:=1) [] [(21,true),(22,true)] (by kernel_rfl) rfl ?_
     refine BR rfl rfl rfl (AM rfl rfl rfl (As ?_))
     refine Au (i:=23) (by kernel_rfl) rfl ?_
     refine AD b0 rfl rfl rfl (AU rfl) (allOne rfl) fun pE p4 b0=>?_
     replace b0:Lc 4 pE q9 c1 67 [(.slice A9 x0.vars.length q0),(.slice u0 x0.init.length v0),(.slice s0 x0.goal.length t0),(.slice w0 x0.ops.length y0),(.slice a0.1.1 e0.1.length a0.1.2),(.slice g7 j5.length h7),(.slice a0.2.2.1.1 e0.2.2.1.length a0.2.2.1.2),(.slice a0.2.2.2.1.1 e0.2.2.2.1.length a0.2.2.2.1.2),(.slice none 0 0),(.slice o9 n6.length p9),(.slice (some ⟨f1,0,none⟩) a1.length e1),(.int .i64 0),(.int .i64 x1),(.bool false)]:=b0
     refine BK (by kernel_rfl) ?_
     refine AZ (by kernel_rfl) ?_
     obtain rfl:=sm h5
     exact ⟨((g7,h7),(o9,p9)),_,⟨rfl,rfl,rfl,rfl,rfl,rfl,rfl,trivial⟩,(((((((hB.st c0).st h0).st n0).st p1).st j2).st p3).st q3).st p4,(((((((m1.st c0).st h0).st n0).st p1).st j2).st p3).st q3).st p4,(((((((h8.st c0).st h0).st n0).st p1).st j2).st p3).st q3).st p4,(((((((j1.st c0).st h0).st n0).st p1).st j2).st p3).st q3).st p4,(((((((b1.st c0).st h0).st n0).st p1).st j2).st p3).st q3).st p4,(((((((k1.st c0).st h0).st n0).st p1).st j2).st p3).st q3).st p4,b0,(((((((g5.st c0).st h0).st n0).st p1).st j2).st p3).st q3).st p4,((n9.st p3).st q3).st p4,(((((((i4.st c0).st h0).st n0).st p1).st j2).st p3).st q3).st p4,(((((((j4.st c0).st h0).st n0).st p1).st j2).st p3).st q3).st p4,(r9.st q3).st p4,(((((((n1.st c0).st h0).st n0).st p1).st j2).st p3).st q3).st p4⟩
    refine BT (β:=Bool) 9 (by decide) rfl o5 (by decide) rfl (by decide) fun cL dL eL q1 i7=>?_
    have hZ:=q1.lst [8] (fun _ h=>by cases h;decide)
    refine Ay [(8,[5]),(9,[6,7]),(17,[9,10]),(20,[4])] hZ (by kernel_rfl) ?_
    refine Au (i:=8) (by kernel_rfl) rfl ?_
    replace n5:=(n5.st h0).st q1
    refine BT (β:=ByteArray) 6 (by decide) rfl n5 (by decide) rfl (by decide) fun fL gL hL r1 qE=>?_
    have hZ:=r1.lst [5] (fun _ h=>by cases h;decide)
    refine Ay [(9,[6,7]),(17,[9,10]),(20,[4])] hZ (by kernel_rfl) ?_
    refine Au (i:=9) (by kernel_rfl) rfl ?_
    obtain ⟨a2,rE,sE⟩:=AT a2
    replace h1:=(((h1.st c0).st h0).st q1).st r1
    refine BI rfl h1 qE (by decide) rfl rfl (by decide) rE sE rfl fun j7 k7 iL jL k2 s9=>?_
    rw [← a2] at s9 ⊢
    have hZ:=k2.lst [6,7] (by rintro _ (h|h)<;>cases h<;>decide)
    refine Ay [(17,[9,10]),(20,[4])] hZ (by kernel_rfl) ?_
    refine Au (i:=17) (by kernel_rfl) rfl ?_
    obtain ⟨b2,tE,uE⟩:=AT b2
    replace i1:=((((i1.st c0).st h0).st q1).st r1).st k2
    replace i7:=(i7.st r1).st k2
    refine BI rfl i1 i7 (by decide) rfl rfl (by decide) tE uE rfl fun t9 u9 kL v9 r3 w9=>?_
    rw [← b2] at w9 ⊢
    have hZ:=r3.lst [9,10] (by rintro _ (h|h)<;>cases h<;>decide)
    refine Ay [(20,[4])] hZ (by kernel_rfl) ?_
    refine Az (fuel:=4) [] [(18,true),(19,true)] (by kernel_rfl) rfl ?_
    refine BR rfl rfl rfl (AM rfl rfl rfl (As ?_))
    refine Au (i:=20) (by kernel_rfl) rfl ?_
    replace b0:=(((((b0.st c0).st h0).st q1).st r1).st k2).st r3
    refine AD b0 rfl rfl rfl (AU rfl) (allOne rfl) fun vE s3 b0=>?_
    replace b0:Lc 4 vE v9 c1 67 [(.slice A9 x0.vars.length q0),(.slice u0 x0.init.length v0),(.slice s0 x0.goal.length t0),(.slice w0 x0.ops.length y0),(.slice a0.1.1 e0.1.length a0.1.2),(.slice j7 j5.length k7),(.slice a0.2.2.1.1 e0.2.2.1.length a0.2.2.1.2),(.slice a0.2.2.2.1.1 e0.2.2.2.1.length a0.2.2.2.1.2),(.slice none 0 0),(.slice a0.2.2.2.2.1 e0.2.2.2.2.length a0.2.2.2.2.2),(.slice (some ⟨f1,0,none⟩) a1.length e1),(.int .i64 0),(.int .i64 x1),(.bool false)]:=b0
    have hZ:=s3.lst [4] (fun _ h=>by cases h;decide)
    refine Ay [] hZ (by kernel_rfl) ?_
    refine Az (fuel:=1) [] [(21,true),(22,true)] (by kernel_rfl) rfl ?_
    refine BR rfl rfl rfl (AM rfl rfl rfl (As ?_))
    refine Au (i:=23) (by kernel_rfl) rfl ?_
    refine AD b0 rfl rfl rfl (AU rfl) (allOne rfl) fun wE q4 b0=>?_
    replace b0:Lc 4 wE v9 c1 67 [(.slice A9 x0.vars.length q0),(.slice u0 x0.init.length v0),(.slice s0 x0.goal.length t0),(.slice w0 x0.ops.length y0),(.slice a0.1.1 e0.1.length a0.1.2),(.slice j7 j5.length k7),(.slice a0.2.2.1.1 e0.2.2.1.length a0.2.2.1.2),(.slice a0.2.2.2.1.1 e0.2.2.2.1.length a0.2.2.2.1.2),(.slice none 0 0),(.slice t9 n6.length u9),(.slice (some ⟨f1,0,none⟩) a1.length e1),(.int .i64 0),(.int .i64 x1),(.bool false)]:=b0
    refine BK (by kernel_rfl) ?_
    refine AZ (by kernel_rfl) ?_
    obtain rfl:=sm h5
    exact ⟨((j7,k7),(t9,u9)),_,⟨rfl,rfl,rfl,rfl,rfl,rfl,rfl,trivial⟩,(((((((hB.st c0).st h0).st q1).st r1).st k2).st r3).st s3).st q4,(((((((m1.st c0).st h0).st q1).st r1).st k2).st r3).st s3).st q4,(((((((h8.st c0).st h0).st q1).st r1).st k2).st r3).st s3).st q4,(((((((j1.st c0).st h0).st q1).st r1).st k2).st r3).st s3).st q4,(((((((b1.st c0).st h0).st q1).st r1).st k2).st r3).st s3).st q4,(((((((k1.st c0).st h0).st q1).st r1).st k2).st r3).st s3).st q4,b0,(((((((g5.st c0).st h0).st q1).st r1).st k2).st r3).st s3).st q4,((s9.st r3).st s3).st q4,(((((((i4.st c0).st h0).st q1).st r1).st k2).st r3).st s3).st q4,(((((((j4.st c0).st h0).st q1).st r1).st k2).st r3).st s3).st q4,(w9.st s3).st q4,(((((((n1.st c0).st h0).st q1).st r1).st k2).st r3).st s3).st q4⟩
   obtain ⟨lL,xE,yE,zE,aF⟩:=CL zB
   refine DG 8 (by decide) iC (z0:=(false:Bool)) rfl rfl rfl rfl rfl xE vBool yE zE rfl fun mL nL bF f0 d5=>?_
   rw [← aF] at d5 ⊢
   have hZ:=f0.lst [] (fun _ h=>h.elim)
   refine Ay [(8,[5]),(9,[6,7]),(16,[8]),(17,[9,10]),(20,[4])] hZ (by kernel_rfl) ?_
   refine Dk (i:=7) (j:=16) (by kernel_rfl) rfl rfl ?_ ?_
   ·
    obtain ⟨oL,cF,dF,eF,fF⟩:=CL oC
    refine DG 5 (by decide) bF (z0:=((⟨#[]⟩:ByteArray):ByteArray)) rfl rfl rfl rfl rfl cF (vStr (show (⟨#[]⟩:ByteArray).size≤9223372036854775807 from by decide)) dF eF rfl fun pL qL rL g0 d6=>?_
    rw [← fF] at d6 ⊢
    have hZ:=g0.lst [] (fun _ h=>h.elim)
    refine Ay [(8,[5]),(9,[6,7]),(16,[8]),(17,[9,10]),(20,[4])] hZ (by kernel_rfl) ?_
    refine Dk (i:=8) (j:=16) (by kernel_rfl) rfl rfl ?_ ?_
    ·
     refine BT (β:=ByteArray) 6 (by decide) rfl d6 (by decide) rfl (by decide) fun sL tL uL o0 q6=>?_
     have hZ:=o0.lst [5] (fun _ h=>by cases h;decide)
     refine Ay [(9,[6,7]),(16,[8]),(17,[9,10]),(20,[4])] hZ (by kernel_rfl) ?_
     refine Dk (i:=9) (j:=16) (by kernel_rfl) rfl rfl ?_ ?_
     ·
      obtain ⟨a2,gF,hF⟩:=AT a2
      replace h1:=((h1.st f0).st g0).st o0
      refine BI rfl h1 q6 (by decide) rfl rfl (by decide) gF hF rfl fun l7 m7 vL wL m2 x9=>?_
      rw [← a2] at x9 ⊢
      have hZ:=m2.lst [6,7] (by rintro _ (h|h)<;>cases h<;>decide)
      refine Ay [(16,[8]),(17,[9,10]),(20,[4])] hZ (by kernel_rfl) ?_
      refine Au (i:=16) (by kernel_rfl) rfl ?_
      replace d5:=((d5.st g0).st o0).st m2
      refine BT (β:=Bool) 9 (by decide) rfl d5 (by decide) rfl (by decide) fun xL yL zL n2 iF=>?_
      have hZ:=n2.lst [8] (fun _ h=>by cases h;decide)
      refine Ay [(17,[9,10]),(20,[4])] hZ (by kernel_rfl) ?_
      refine Au (i:=17) (by kernel_rfl) rfl ?_
      obtain ⟨b2,jF,kF⟩:=AT b2
      replace i1:=((((i1.st f0).st g0).st o0).st m2).st n2
      refine BI rfl i1 iF (by decide) rfl rfl (by decide) jF kF rfl fun y9 z9 aM aA t3 bA=>?_
      rw [← b2] at bA ⊢
      have hZ:=t3.lst [9,10] (by rintro _ (h|h)<;>cases h<;>decide)
      refine Ay [(20,[4])] hZ (by kernel_rfl) ?_
      refine Az (fuel:=4) [] [(18,true),(19,true)] (by kernel_rfl) rfl ?_
      refine BR rfl rfl rfl (AM rfl rfl rfl (As ?_))
      refine Au (i:=20) (by kernel_rfl) rfl ?_
      replace b0:=(((((b0.st f0).st g0).st o0).st m2).st n2).st t3
      refine AD b0 rfl rfl rfl (AU rfl) (allOne rfl) fun lF u3 b0=>?_
      replace b0:Lc 4 lF aA c1 67 [(.slice A9 x0.vars.length q0),(.slice u0 x0.init.length v0),(.slice s0 x0.goal.length t0),(.slice w0 x0.ops.length y0),(.slice a0.1.1 e0.1.length a0.1.2),(.slice l7 j5.length m7),(.slice a0.2.2.1.1 e0.2.2.1.length a0.2.2.1.2),(.slice a0.2.2.2.1.1 e0.2.2.2.1.length a0.2.2.2.1.2),(.slice none 0 0),(.slice a0.2.2.2.2.1 e0.2.2.2.2.length a0.2.2.2.2.2),(.slice (some ⟨f1,0,none⟩) a1.length e1),(.int .i64 0),(.int .i64 x1),(.bool false)]:=b0
      have hZ:=u3.lst [4] (fun _ h=>by cases h;decide)
      refine Ay [] hZ (by kernel_rfl) ?_
      refine Az (fuel:=1) [] [(21,true),(22,true)] (by kernel_rfl) rfl ?_
      refine BR rfl rfl rfl (AM rfl rfl rfl (As ?_))
      refine Au (i:=23) (by kernel_rfl) rfl ?_
      refine AD b0 rfl rfl rfl (AU rfl) (allOne rfl) fun mF r4 b0=>?_
      replace b0:Lc 4 mF aA c1 67 [(.slice A9 x0.vars.length q0),(.slice u0 x0.init.length v0),(.slice s0 x0.goal.length t0),(.slice w0 x0.ops.length y0),(.slice a0.1.1 e0.1.length a0.1.2),(.slice l7 j5.length m7),(.slice a0.2.2.1.1 e0.2.2.1.length a0.2.2.1.2),(.slice a0.2.2.2.1.1 e0.2.2.2.1.length a0.2.2.2.1.2),(.slice none 0 0),(.slice y9 n6.length z9),(.slice (some ⟨f1,0,none⟩) a1.length e1),(.int .i64 0),(.int .i64 x1),(.bool false)]:=b0
      refine BK (by kernel_rfl) ?_
      refine AZ (by kernel_rfl) ?_
      obtain rfl:=sm h5
      exact ⟨((l7,m7),(y9,z9)),_,⟨rfl,rfl,rfl,rfl,rfl,rfl,rfl,trivial⟩,(((((((hB.st f0).st g0).st o0).st m2).st n2).st t3).st u3).st r4,(((((((m1.st f0).st g0).st o0).st m2).st n2).st t3).st u3).st r4,(((((((h8.st f0).st g0).st o0).st m2).st n2).st t3).st u3).st r4,(((((((j1.st f0).st g0).st o0).st m2).st n2).st t3).st u3).st r4,(((((((b1.st f0).st g0).st o0).st m2).st n2).st t3).st u3).st r4,(((((((k1.st f0).st g0).st o0).st m2).st n2).st t3).st u3).st r4,b0,(((((((g5.st f0).st g0).st o0).st m2).st n2).st t3).st u3).st r4,(((x9.st n2).st t3).st u3).st r4,(((((((i4.st f0).st g0).st o0).st m2).st n2).st t3).st u3).st r4,(((((((j4.st f0).st g0).st o0).st m2).st n2).st t3).st u3).st r4,(bA.st u3).st r4,(((((((n1.st f0).st g0).st o0).st m2).st n2).st t3).st u3).st r4⟩
     replace d5:=(d5.st g0).st o0
     refine BT (β:=Bool) 9 (by decide) rfl d5 (by decide) rfl (by decide) fun bM cM dM s1 n7=>?_
     have hZ:=s1.lst [8] (fun _ h=>by cases h;decide)
     refine Ay [(9,[6,7]),(17,[9,10]),(20,[4])] hZ (by kernel_rfl) ?_
     refine Au (i:=9) (by kernel_rfl) rfl ?_
     obtain ⟨a2,nF,oF⟩:=AT a2
     replace h1:=(((h1.st f0).st g0).st o0).st s1
     replace q6:=q6.st s1
     refine BI rfl h1 q6 (by decide) rfl rfl (by decide) nF oF rfl fun o7 p7 eM fM o2 cA=>?_
     rw [← a2] at cA ⊢
     have hZ:=o2.lst [6,7] (by rintro _ (h|h)<;>cases h<;>decide)
     refine Ay [(17,[9,10]),(20,[4])] hZ (by kernel_rfl) ?_
     refine Au (i:=17) (by kernel_rfl) rfl ?_
     obtain ⟨b2,pF,qF⟩:=AT b2
     replace i1:=((((i1.st f0).st g0).st o0).st s1).st o2
     replace n7:=n7.st o2
     refine BI rfl i1 n7 (by decide) rfl rfl (by decide) pF qF rfl fun dA eA gM fA v3 gA=>?_
     rw [← b2] at gA ⊢
     have hZ:=v3.lst [9,10] (by rintro _ (h|h)<;>cases h<;>decide)
     refine Ay [(20,[4])] hZ (by kernel_rfl) ?_
     refine Az (fuel:=4) [] [(18,true),(19,true)] (by kernel_rfl) rfl ?_
     refine BR rfl rfl rfl (AM rfl rfl rfl (As ?_))
     refine Au (i:=20) (by kernel_rfl) rfl ?_
     replace b0:=(((((b0.st f0).st g0).st o0).st s1).st o2).st v3
     refine AD b0 rfl rfl rfl (AU rfl) (allOne rfl) fun rF w3 b0=>?_
     replace b0:Lc 4 rF fA c1 67 [(.slice A9 x0.vars.length q0),(.slice u0 x0.init.length v0),(.slice s0 x0.goal.length t0),(.slice w0 x0.ops.length y0),(.slice a0.1.1 e0.1.length a0.1.2),(.slice o7 j5.length p7),(.slice a0.2.2.1.1 e0.2.2.1.length a0.2.2.1.2),(.slice a0.2.2.2.1.1 e0.2.2.2.1.length a0.2.2.2.1.2),(.slice none 0 0),(.slice a0.2.2.2.2.1 e0.2.2.2.2.length a0.2.2.2.2.2),(.slice (some ⟨f1,0,none⟩) a1.length e1),(.int .i64 0),(.int .i64 x1),(.bool false)]:=b0
     have hZ:=w3.lst [4] (fun _ h=>by cases h;decide)
     refine Ay [] hZ (by kernel_rfl) ?_
     refine Az (fuel:=1) [] [(21,true),(22,true)] (by kernel_rfl) rfl ?_
     refine BR rfl rfl rfl (AM rfl rfl rfl (As ?_))
     refine Au (i:=23) (by kernel_rfl) rfl ?_
     refine AD b0 rfl rfl rfl (AU rfl) (allOne rfl) fun sF s4 b0=>?_
     replace b0:Lc 4 sF fA c1 67 [(.slice A9 x0.vars.length q0),(.slice u0 x0.init.length v0),(.slice s0 x0.goal.length t0),(.slice w0 x0.ops.length y0),(.slice a0.1.1 e0.1.length a0.1.2),(.slice o7 j5.length p7),(.slice a0.2.2.1.1 e0.2.2.1.length a0.2.2.1.2),(.slice a0.2.2.2.1.1 e0.2.2.2.1.length a0.2.2.2.1.2),(.slice none 0 0),(.slice dA n6.length eA),(.slice (some ⟨f1,0,none⟩) a1.length e1),(.int .i64 0),(.int .i64 x1),(.bool false)]:=b0
     refine BK (by kernel_rfl) ?_
     refine AZ (by kernel_rfl) ?_
     obtain rfl:=sm h5
     exact ⟨((o7,p7),(dA,eA)),_,⟨rfl,rfl,rfl,rfl,rfl,rfl,rfl,trivial⟩,(((((((hB.st f0).st g0).st o0).st s1).st o2).st v3).st w3).st s4,(((((((m1.st f0).st g0).st o0).st s1).st o2).st v3).st w3).st s4,(((((((h8.st f0).st g0).st o0).st s1).st o2).st v3).st w3).st s4,(((((((j1.st f0).st g0).st o0).st s1).st o2).st v3).st w3).st s4,(((((((b1.st f0).st g0).st o0).st s1).st o2).st v3).st w3).st s4,(((((((k1.st f0).st g0).st o0).st s1).st o2).st v3).st w3).st s4,b0,(((((((g5.st f0).st g0).st o0).st s1).st o2).st v3).st w3).st s4,((cA.st v3).st w3).st s4,(((((((i4.st f0).st g0).st o0).st s1).st o2).st v3).st w3).st s4,(((((((j4.st f0).st g0).st o0).st s1).st o2).st v3).st w3).st s4,(gA.st w3).st s4,(((((((n1.st f0).st g0).st o0).st s1).st o2).st v3).st w3).st s4⟩
    replace d5:=d5.st g0
    refine BT (β:=Bool) 9 (by decide) rfl d5 (by decide) rfl (by decide) fun hM iM jM t1 q7=>?_
    have hZ:=t1.lst [8] (fun _ h=>by cases h;decide)
    refine Ay [(8,[5]),(9,[6,7]),(17,[9,10]),(20,[4])] hZ (by kernel_rfl) ?_
    refine Au (i:=8) (by kernel_rfl) rfl ?_
    replace d6:=d6.st t1
    refine BT (β:=ByteArray) 6 (by decide) rfl d6 (by decide) rfl (by decide) fun kM lM mM u1 tF=>?_
    have hZ:=u1.lst [5] (fun _ h=>by cases h;decide)
    refine Ay [(9,[6,7]),(17,[9,10]),(20,[4])] hZ (by kernel_rfl) ?_
    refine Au (i:=9) (by kernel_rfl) rfl ?_
    obtain ⟨a2,uF,vF⟩:=AT a2
    replace h1:=(((h1.st f0).st g0).st t1).st u1
    refine BI rfl h1 tF (by decide) rfl rfl (by decide) uF vF rfl fun r7 s7 nM oM p2 iA=>?_
    rw [← a2] at iA ⊢
    have hZ:=p2.lst [6,7] (by rintro _ (h|h)<;>cases h<;>decide)
    refine Ay [(17,[9,10]),(20,[4])] hZ (by kernel_rfl) ?_
    refine Au (i:=17) (by kernel_rfl) rfl ?_
    obtain ⟨b2,wF,xF⟩:=AT b2
    replace i1:=((((i1.st f0).st g0).st t1).st u1).st p2
    replace q7:=(q7.st u1).st p2
    refine BI rfl i1 q7 (by decide) rfl rfl (by decide) wF xF rfl fun jA kA pM lA x3 mA=>?_
    rw [← b2] at mA ⊢
    have hZ:=x3.lst [9,10] (by rintro _ (h|h)<;>cases h<;>decide)
    refine Ay [(20,[4])] hZ (by kernel_rfl) ?_
    refine Az (fuel:=4) [] [(18,true),(19,true)] (by kernel_rfl) rfl ?_
    refine BR rfl rfl rfl (AM rfl rfl rfl (As ?_))
    refine Au (i:=20) (by kernel_rfl) rfl ?_
    replace b0:=(((((b0.st f0).st g0).st t1).st u1).st p2).st x3
    refine AD b0 rfl rfl rfl (AU rfl) (allOne rfl) fun yF y3 b0=>?_
    replace b0:Lc 4 yF lA c1 67 [(.slice A9 x0.vars.length q0),(.slice u0 x0.init.length v0),(.slice s0 x0.goal.length t0),(.slice w0 x0.ops.length y0),(.slice a0.1.1 e0.1.length a0.1.2),(.slice r7 j5.length s7),(.slice a0.2.2.1.1 e0.2.2.1.length a0.2.2.1.2),(.slice a0.2.2.2.1.1 e0.2.2.2.1.length a0.2.2.2.1.2),(.slice none 0 0),(.slice a0.2.2.2.2.1 e0.2.2.2.2.length a0.2.2.2.2.2),(.slice (some ⟨f1,0,none⟩) a1.length e1),(.int .i64 0),(.int .i64 x1),(.bool false)]:=b0
    have hZ:=y3.lst [4] (fun _ h=>by cases h;decide)
    refine Ay [] hZ (by kernel_rfl) ?_
    refine Az (fuel:=1) [] [(21,true),(22,true)] (by kernel_rfl) rfl ?_
    refine BR rfl rfl rfl (AM rfl rfl rfl (As ?_))
    refine Au (i:=23) (by kernel_rfl) rfl ?_
    refine AD b0 rfl rfl rfl (AU rfl) (allOne rfl) fun zF t4 b0=>?_
    replace b0:Lc 4 zF lA c1 67 [(.slice A9 x0.vars.length q0),(.slice u0 x0.init.length v0),(.slice s0 x0.goal.length t0),(.slice w0 x0.ops.length y0),(.slice a0.1.1 e0.1.length a0.1.2),(.slice r7 j5.length s7),(.slice a0.2.2.1.1 e0.2.2.1.length a0.2.2.1.2),(.slice a0.2.2.2.1.1 e0.2.2.2.1.length a0.2.2.2.1.2),(.slice none 0 0),(.slice jA n6.length kA),(.slice (some ⟨f1,0,none⟩) a1.length e1),(.int .i64 0),(.int .i64 x1),(.bool false)]:=b0
    refine BK (by kernel_rfl) ?_
    refine AZ (by kernel_rfl) ?_
    obtain rfl:=sm h5
    exact ⟨((r7,s7),(jA,kA)),_,⟨rfl,rfl,rfl,rfl,rfl,rfl,rfl,trivial⟩,(((((((hB.st f0).st g0).st t1).st u1).st p2).st x3).st y3).st t4,(((((((m1.st f0).st g0).st t1).st u1).st p2).st x3).st y3).st t4,(((((((h8.st f0).st g0).st t1).st u1).st p2).st x3).st y3).st t4,(((((((j1.st f0).st g0).st t1).st u1).st p2).st x3).st y3).st t4,(((((((b1.st f0).st g0).st t1).st u1).st p2).st x3).st y3).st t4,(((((((k1.st f0).st g0).st t1).st u1).st p2).st x3).st y3).st t4,b0,(((((((g5.st f0).st g0).st t1).st u1).st p2).st x3).st y3).st t4,((iA.st x3).st y3).st t4,(((((((i4.st f0).st g0).st t1).st u1).st p2).st x3).st y3).st t4,(((((((j4.st f0).st g0).st t1).st u1).st p2).st x3).st y3).st t4,(mA.st y3).st t4,(((((((n1.st f0).st g0).st t1).st u1).st p2).st x3).st y3).st t4⟩
   refine BT (β:=Bool) 9 (by decide) rfl d5 (by decide) rfl (by decide) fun qM rM aG q2 t7=>?_
   have hZ:=q2.lst [8] (fun _ h=>by cases h;decide)
   refine Ay [(8,[5]),(9,[6,7]),(17,[9,10]),(20,[4])] hZ (by kernel_rfl) ?_
   refine Au (i:=7) (by kernel_rfl) rfl ?_
   obtain ⟨sM,bG,cG,dG,eG⟩:=CL oC
   refine DG 5 (by decide) aG (z0:=((⟨#[]⟩:ByteArray):ByteArray)) rfl rfl rfl rfl rfl bG (vStr (show (⟨#[]⟩:ByteArray).size≤9223372036854775807 from by decide)) cG dG rfl fun tM uM vM v1 nA=>?_
   rw [← eG] at nA ⊢
   have hZ:=v1.lst [] (fun _ h=>h.elim)
   refine Ay [(8,[5]),(9,[6,7]),(17,[9,10]),(20,[4])] hZ (by kernel_rfl) ?_
   refine Au (i:=8) (by kernel_rfl) rfl ?_
   refine BT (β:=ByteArray) 6 (by decide) rfl nA (by decide) rfl (by decide) fun wM xM yM w1 fG=>?_
   have hZ:=w1.lst [5] (fun _ h=>by cases h;decide)
   refine Ay [(9,[6,7]),(17,[9,10]),(20,[4])] hZ (by kernel_rfl) ?_
   refine Au (i:=9) (by kernel_rfl) rfl ?_
   obtain ⟨a2,gG,hG⟩:=AT a2
   replace h1:=(((h1.st f0).st q2).st v1).st w1
   refine BI rfl h1 fG (by decide) rfl rfl (by decide) gG hG rfl fun u7 w7 zM aN r2 oA=>?_
   rw [← a2] at oA ⊢
   have hZ:=r2.lst [6,7] (by rintro _ (h|h)<;>cases h<;>decide)
   refine Ay [(17,[9,10]),(20,[4])] hZ (by kernel_rfl) ?_
   refine Au (i:=17) (by kernel_rfl) rfl ?_
   obtain ⟨b2,iG,jG⟩:=AT b2
   replace i1:=((((i1.st f0).st q2).st v1).st w1).st r2
   replace t7:=((t7.st v1).st w1).st r2
   refine BI rfl i1 t7 (by decide) rfl rfl (by decide) iG jG rfl fun pA qA bN rA z3 sA=>?_
   rw [← b2] at sA ⊢
   have hZ:=z3.lst [9,10] (by rintro _ (h|h)<;>cases h<;>decide)
   refine Ay [(20,[4])] hZ (by kernel_rfl) ?_
   refine Az (fuel:=4) [] [(18,true),(19,true)] (by kernel_rfl) rfl ?_
   refine BR rfl rfl rfl (AM rfl rfl rfl (As ?_))
   refine Au (i:=20) (by kernel_rfl) rfl ?_
   replace b0:=(((((b0.st f0).st q2).st v1).st w1).st r2).st z3
   refine AD b0 rfl rfl rfl (AU rfl) (allOne rfl) fun kG a4 b0=>?_
   replace b0:Lc 4 kG rA c1 67 [(.slice A9 x0.vars.length q0),(.slice u0 x0.init.length v0),(.slice s0 x0.goal.length t0),(.slice w0 x0.ops.length y0),(.slice a0.1.1 e0.1.length a0.1.2),(.slice u7 j5.length w7),(.slice a0.2.2.1.1 e0.2.2.1.length a0.2.2.1.2),(.slice a0.2.2.2.1.1 e0.2.2.2.1.length a0.2.2.2.1.2),(.slice none 0 0),(.slice a0.2.2.2.2.1 e0.2.2.2.2.length a0.2.2.2.2.2),(.slice (some ⟨f1,0,none⟩) a1.length e1),(.int .i64 0),(.int .i64 x1),(.bool false)]:=b0
   have hZ:=a4.lst [4] (fun _ h=>by cases h;decide)
   refine Ay [] hZ (by kernel_rfl) ?_
   refine Az (fuel:=1) [] [(21,true),(22,true)] (by kernel_rfl) rfl ?_
   refine BR rfl rfl rfl (AM rfl rfl rfl (As ?_))
   refine Au (i:=23) (by kernel_rfl) rfl ?_
   refine AD b0 rfl rfl rfl (AU rfl) (allOne rfl) fun lG u4 b0=>?_
   replace b0:Lc 4 lG rA c1 67 [(.slice A9 x0.vars.length q0),(.slice u0 x0.init.length v0),(.slice s0 x0.goal.length t0),(.slice w0 x0.ops.length y0),(.slice a0.1.1 e0.1.length a0.1.2),(.slice u7 j5.length w7),(.slice a0.2.2.1.1 e0.2.2.1.length a0.2.2.1.2),(.slice a0.2.2.2.1.1 e0.2.2.2.1.length a0.2.2.2.1.2),(.slice none 0 0),(.slice pA n6.length qA),(.slice (some ⟨f1,0,none⟩) a1.length e1),(.int .i64 0),(.int .i64 x1),(.bool false)]:=b0
   refine BK (by kernel_rfl) ?_
   refine AZ (by kernel_rfl) ?_
   obtain rfl:=sm h5
   exact ⟨((u7,w7),(pA,qA)),_,⟨rfl,rfl,rfl,rfl,rfl,rfl,rfl,trivial⟩,(((((((hB.st f0).st q2).st v1).st w1).st r2).st z3).st a4).st u4,(((((((m1.st f0).st q2).st v1).st w1).st r2).st z3).st a4).st u4,(((((((h8.st f0).st q2).st v1).st w1).st r2).st z3).st a4).st u4,(((((((j1.st f0).st q2).st v1).st w1).st r2).st z3).st a4).st u4,(((((((b1.st f0).st q2).st v1).st w1).st r2).st z3).st a4).st u4,(((((((k1.st f0).st q2).st v1).st w1).st r2).st z3).st a4).st u4,b0,(((((((g5.st f0).st q2).st v1).st w1).st r2).st z3).st a4).st u4,((oA.st z3).st a4).st u4,(((((((i4.st f0).st q2).st v1).st w1).st r2).st z3).st a4).st u4,(((((((j4.st f0).st q2).st v1).st w1).st r2).st z3).st a4).st u4,(sA.st a4).st u4,(((((((n1.st f0).st q2).st v1).st w1).st r2).st z3).st a4).st u4⟩
  rintro cN dN ⟨d0,x7,tA,hB,m1,h8,j1,b1,k1,b0,g5,e5,i4,j4,f5,n1⟩
  refine AE _ tA ?_
  refine Ab ?_
  obtain ⟨y5,k5,r0⟩:=bs r0
  obtain ⟨eN,y7,r0⟩:=bs r0
  obtain ⟨z7,m5,r0⟩:=bs r0
  obtain ⟨d1,e6,r0⟩:=bs r0
  refine Ax (fun l' w'=>∃ (k0:(Option Addr×Nat)×(Option Addr×Nat)) (O':Lab),subs l' [(2,(.pointer (some ⟨w5,0,none⟩))),(5,(.pointer (some ⟨c1,0,none⟩))),(6,(.int .i64 (b6:Int))),(7,(.int .i64 oI)),(20,(.slice A9 x0.vars.length q0)),(21,(.int .i64 (x0.vars.length:Int))),(22,(.int .i64 (b6:Int)))]∧Bm w O0 w' O'∧Lc 2 w' O' w5 30 [(.slice A9 x0.vars.length q0),(.slice u0 x0.init.length v0),(.slice s0 x0.goal.length t0),(.slice w0 x0.ops.length y0)]∧Vb w' (Fr 0 w' O') (.slice A9 x0.vars.length q0) x0.vars∧Vb w' (Fr 0 w' O') (.slice u0 x0.init.length v0) x0.init∧Vb w' (Fr 0 w' O') (.slice s0 x0.goal.length t0) x0.goal∧Vb w' (Fr 0 w' O') (.slice w0 x0.ops.length y0) x0.ops∧Lc 4 w' O' c1 67 [(.slice A9 x0.vars.length q0),(.slice u0 x0.init.length v0),(.slice s0 x0.goal.length t0),(.slice w0 x0.ops.length y0),(.slice a0.1.1 e0.1.length a0.1.2),(.slice d0.1.1 g1.1.length d0.1.2),(.slice k0.1.1 d1.1.length k0.1.2),(.slice k0.2.1 d1.2.length k0.2.2),(.slice none 0 0),(.slice d0.2.1 g1.2.length d0.2.2),(.slice (some ⟨f1,0,none⟩) a1.length e1),(.int .i64 0),(.int .i64 x1),(.bool false)]∧Rw 17 w' O' 26 (.slice a0.1.1 e0.1.length a0.1.2) e0.1∧NR ByteArray 7 w' O' 80 9 (.slice d0.1.1 g1.1.length d0.1.2) g1.1 none∧Rw 12 w' O' 3 (.slice k0.1.1 d1.1.length k0.1.2) d1.1∧NR Int 16 w' O' 24 3 (.slice k0.2.1 d1.2.length k0.2.2) d1.2 none∧NR Bool 10 w' O' 65 4 (.slice d0.2.1 g1.2.length d0.2.2) g1.2 none∧Rw 3 w' O' 4 (.slice (some ⟨f1,0,none⟩) a1.length e1) a1) ?_ ?_
  ·
   refine Bc [(8,[12]),(16,[13]),(17,[14]),(18,[15,16]),(22,[4])] x7 ?_
   refine Az (fuel:=22) [] [(2,true),(3,true),(4,true),(5,true),(6,true)] (by kernel_rfl) rfl ?_
   refine AH rfl rfl rfl (BR rfl rfl rfl (AM rfl rfl rfl (AM rfl rfl rfl (AK (hc:=fun w' ⟨O',hq⟩=>Blk.cell (i:=6) ((b0.st hq (by decide)).1) rfl) rfl rfl rfl ?_))))
   refine As ?_
   refine Az (fuel:=21) [12] [(15,true)] (by kernel_rfl) rfl ?_
   refine AH rfl rfl rfl (As ?_)
   refine Az (fuel:=16) [12,13,14] [(9,true),(10,true),(11,true),(12,true),(13,true)] (by kernel_rfl) rfl ?_
   refine AH rfl rfl rfl (BR rfl rfl rfl (AM rfl rfl rfl (AM rfl rfl rfl (AK (hc:=fun w' ⟨O',hq⟩=>Blk.cell (i:=7) ((b0.st hq (by decide)).1) rfl) rfl rfl rfl ?_))))
   refine As ?_
   refine Az (fuel:=15) [12,13,14,15,16] [(0,true)] (by kernel_rfl) rfl ?_
   refine AH rfl rfl rfl (As ?_)
   refine Az (fuel:=14) [4,12,13,14,15,16] [(1,true)] (by kernel_rfl) rfl ?_
   refine AH rfl rfl rfl (As ?_)
   refine Dk (i:=7) (j:=14) (by kernel_rfl) rfl rfl ?_ ?_
   ·
    refine Bi 11 (by decide) x7 (xs:=(([(-1)]:List Int):List Int)) rfl rfl rfl rfl ⟨(vInt (show inI64 (-1) from by decide)),trivial⟩ (by decide) (by decide) rfl fun fN gN mG p0 r6=>?_
    have hZ:=p0.lst [] (fun _ h=>h.elim)
    refine Ay [(8,[12]),(16,[13]),(17,[14]),(18,[15,16]),(22,[4])] hZ (by kernel_rfl) ?_
    refine Dk (i:=8) (j:=14) (by kernel_rfl) rfl rfl ?_ ?_
    ·
     obtain ⟨k5,nG,oG⟩:=AT k5
     replace i4:=i4.st p0
     refine BP rfl i4 (r6.rd) rfl rfl (by decide) nG oG rfl fun a8 b8 hN pG b4 uA=>?_
     rw [← k5] at uA ⊢
     have hZ:=b4.lst [12] (fun _ h=>by cases h;decide)
     refine Ay [(16,[13]),(17,[14]),(18,[15,16]),(22,[4])] hZ (by kernel_rfl) ?_
     refine Au (i:=14) (by kernel_rfl) rfl ?_
     refine Bi 13 (by decide) pG (xs:=(([(-1)]:List Int):List Int)) rfl rfl rfl rfl ⟨(vInt (show inI64 (-1) from by decide)),trivial⟩ (by decide) (by decide) rfl fun iN jN kN s2 c8=>?_
     have hZ:=s2.lst [] (fun _ h=>h.elim)
     refine Ay [(16,[13]),(17,[14]),(18,[15,16]),(22,[4])] hZ (by kernel_rfl) ?_
     refine Au (i:=16) (by kernel_rfl) rfl ?_
     obtain ⟨qG,t2,c8⟩:=c8.freeze
     have hZ:=t2.lst [13] (fun _ h=>by cases h;decide)
     refine Fl 14 (by decide) (O:=qG) (DK Fr.lt c8 r8 y7) rfl rfl fun lN mN nN oN u2 rG=>?_
     replace hZ:=hZ.cmp u2 [13] (fun _ h=>h.elim) rfl
     refine Ay [(17,[14]),(18,[15,16]),(22,[4])] hZ (by kernel_rfl) ?_
     refine Au (i:=17) (by kernel_rfl) rfl ?_
     refine BT (β:=Int) 15 (by decide) rfl rG (by decide) rfl (by decide) fun pN qN rN v2 sG=>?_
     have hZ:=v2.lst [14] (fun _ h=>by cases h;decide)
     refine Ay [(18,[15,16]),(22,[4])] hZ (by kernel_rfl) ?_
     refine Au (i:=18) (by kernel_rfl) rfl ?_
     obtain ⟨m5,tG,uG⟩:=AT m5
     replace j4:=(((((j4.st p0).st b4).st s2).st t2).st u2).st v2
     refine BI rfl j4 sG (by decide) rfl rfl (by decide) tG uG rfl fun vA wA sN xA c4 yA=>?_
     rw [← m5] at yA ⊢
     have hZ:=c4.lst [15,16] (by rintro _ (h|h)<;>cases h<;>decide)
     refine Ay [(22,[4])] hZ (by kernel_rfl) ?_
     refine Az (fuel:=5) [] [(19,true),(20,true),(21,true)] (by kernel_rfl) rfl ?_
     refine BR rfl rfl rfl (AM rfl rfl rfl (AM rfl rfl rfl (As ?_)))
     refine Au (i:=22) (by kernel_rfl) rfl ?_
     replace b0:=((((((b0.st p0).st b4).st s2).st t2).st u2).st v2).st c4
     refine AD b0 rfl rfl rfl (AU rfl) (allOne rfl) fun vG d4 b0=>?_
     replace b0:Lc 4 vG xA c1 67 [(.slice A9 x0.vars.length q0),(.slice u0 x0.init.length v0),(.slice s0 x0.goal.length t0),(.slice w0 x0.ops.length y0),(.slice a0.1.1 e0.1.length a0.1.2),(.slice d0.1.1 g1.1.length d0.1.2),(.slice a8 y5.length b8),(.slice a0.2.2.2.1.1 e0.2.2.2.1.length a0.2.2.2.1.2),(.slice none 0 0),(.slice d0.2.1 g1.2.length d0.2.2),(.slice (some ⟨f1,0,none⟩) a1.length e1),(.int .i64 0),(.int .i64 x1),(.bool false)]:=b0
     have hZ:=d4.lst [4] (fun _ h=>by cases h;decide)
     refine Ay [] hZ (by kernel_rfl) ?_
     refine Az (fuel:=1) [] [(23,true),(24,true),(25,true)] (by kernel_rfl) rfl ?_
     refine BR rfl rfl rfl (AM rfl rfl rfl (AM rfl rfl rfl (As ?_)))
     refine Au (i:=26) (by kernel_rfl) rfl ?_
     refine AD b0 rfl rfl rfl (AU rfl) (allOne rfl) fun wG w4 b0=>?_
     replace b0:Lc 4 wG xA c1 67 [(.slice A9 x0.vars.length q0),(.slice u0 x0.init.length v0),(.slice s0 x0.goal.length t0),(.slice w0 x0.ops.length y0),(.slice a0.1.1 e0.1.length a0.1.2),(.slice d0.1.1 g1.1.length d0.1.2),(.slice a8 y5.length b8),(.slice vA z7.length wA),(.slice none 0 0),(.slice d0.2.1 g1.2.length d0.2.2),(.slice (some ⟨f1,0,none⟩) a1.length e1),(.int .i64 0),(.int .i64 x1),(.bool false)]:=b0
     refine BK (by kernel_rfl) ?_
     refine AZ (by kernel_rfl) ?_
     obtain rfl:=sm e6
     exact ⟨((a8,b8),(vA,wA)),_,⟨rfl,rfl,rfl,rfl,rfl,rfl,rfl,trivial⟩,((((((((hB.st p0).st b4).st s2).st t2).st u2).st v2).st c4).st d4).st w4,((((((((m1.st p0).st b4).st s2).st t2).st u2).st v2).st c4).st d4).st w4,((((((((h8.st p0).st b4).st s2).st t2).st u2).st v2).st c4).st d4).st w4,((((((((j1.st p0).st b4).st s2).st t2).st u2).st v2).st c4).st d4).st w4,((((((((b1.st p0).st b4).st s2).st t2).st u2).st v2).st c4).st d4).st w4,((((((((k1.st p0).st b4).st s2).st t2).st u2).st v2).st c4).st d4).st w4,b0,((((((((g5.st p0).st b4).st s2).st t2).st u2).st v2).st c4).st d4).st w4,((((((((e5.st p0).st b4).st s2).st t2).st u2).st v2).st c4).st d4).st w4,((((((uA.st s2).st t2).st u2).st v2).st c4).st d4).st w4,(yA.st d4).st w4,((((((((f5.st p0).st b4).st s2).st t2).st u2).st v2).st c4).st d4).st w4,((((((((n1.st p0).st b4).st s2).st t2).st u2).st v2).st c4).st d4).st w4⟩
    refine Bi 13 (by decide) mG (xs:=(([(-1)]:List Int):List Int)) rfl rfl rfl rfl ⟨(vInt (show inI64 (-1) from by decide)),trivial⟩ (by decide) (by decide) rfl fun tN uN vN y1 f6=>?_
    have hZ:=y1.lst [] (fun _ h=>h.elim)
    refine Ay [(8,[12]),(16,[13]),(17,[14]),(18,[15,16]),(22,[4])] hZ (by kernel_rfl) ?_
    refine Au (i:=8) (by kernel_rfl) rfl ?_
    obtain ⟨k5,xG,yG⟩:=AT k5
    replace i4:=(i4.st p0).st y1
    replace r6:=r6.st y1
    refine BP rfl i4 (r6.rd) rfl rfl (by decide) xG yG rfl fun d8 e8 wN xN w2 zA=>?_
    rw [← k5] at zA ⊢
    have hZ:=w2.lst [12] (fun _ h=>by cases h;decide)
    refine Ay [(16,[13]),(17,[14]),(18,[15,16]),(22,[4])] hZ (by kernel_rfl) ?_
    refine Au (i:=16) (by kernel_rfl) rfl ?_
    replace f6:=f6.st w2
    obtain ⟨zG,x2,f6⟩:=f6.freeze
    have hZ:=x2.lst [13] (fun _ h=>by cases h;decide)
    refine Fl 14 (by decide) (O:=zG) (DK Fr.lt f6 r8 y7) rfl rfl fun yN zN aO bO y2 aH=>?_
    replace hZ:=hZ.cmp y2 [13] (fun _ h=>h.elim) rfl
    refine Ay [(17,[14]),(18,[15,16]),(22,[4])] hZ (by kernel_rfl) ?_
    refine Au (i:=17) (by kernel_rfl) rfl ?_
    refine BT (β:=Int) 15 (by decide) rfl aH (by decide) rfl (by decide) fun cO dO eO z2 bH=>?_
    have hZ:=z2.lst [14] (fun _ h=>by cases h;decide)
    refine Ay [(18,[15,16]),(22,[4])] hZ (by kernel_rfl) ?_
    refine Au (i:=18) (by kernel_rfl) rfl ?_
    obtain ⟨m5,cH,dH⟩:=AT m5
    replace j4:=(((((j4.st p0).st y1).st w2).st x2).st y2).st z2
    refine BI rfl j4 bH (by decide) rfl rfl (by decide) cH dH rfl fun aB bB fO cB e4 dB=>?_
    rw [← m5] at dB ⊢
    have hZ:=e4.lst [15,16] (by rintro _ (h|h)<;>cases h<;>decide)
    refine Ay [(22,[4])] hZ (by kernel_rfl) ?_
    refine Az (fuel:=5) [] [(19,true),(20,true),(21,true)] (by kernel_rfl) rfl ?_
    refine BR rfl rfl rfl (AM rfl rfl rfl (AM rfl rfl rfl (As ?_)))
    refine Au (i:=22) (by kernel_rfl) rfl ?_
    replace b0:=((((((b0.st p0).st y1).st w2).st x2).st y2).st z2).st e4
    refine AD b0 rfl rfl rfl (AU rfl) (allOne rfl) fun eH f4 b0=>?_
    replace b0:Lc 4 eH cB c1 67 [(.slice A9 x0.vars.length q0),(.slice u0 x0.init.length v0),(.slice s0 x0.goal.length t0),(.slice w0 x0.ops.length y0),(.slice a0.1.1 e0.1.length a0.1.2),(.slice d0.1.1 g1.1.length d0.1.2),(.slice d8 y5.length e8),(.slice a0.2.2.2.1.1 e0.2.2.2.1.length a0.2.2.2.1.2),(.slice none 0 0),(.slice d0.2.1 g1.2.length d0.2.2),(.slice (some ⟨f1,0,none⟩) a1.length e1),(.int .i64 0),(.int .i64 x1),(.bool false)]:=b0
    have hZ:=f4.lst [4] (fun _ h=>by cases h;decide)
    refine Ay [] hZ (by kernel_rfl) ?_
    refine Az (fuel:=1) [] [(23,true),(24,true),(25,true)] (by kernel_rfl) rfl ?_
    refine BR rfl rfl rfl (AM rfl rfl rfl (AM rfl rfl rfl (As ?_)))
    refine Au (i:=26) (by kernel_rfl) rfl ?_
    refine AD b0 rfl rfl rfl (AU rfl) (allOne rfl) fun fH x4 b0=>?_
    replace b0:Lc 4 fH cB c1 67 [(.slice A9 x0.vars.length q0),(.slice u0 x0.init.length v0),(.slice s0 x0.goal.length t0),(.slice w0 x0.ops.length y0),(.slice a0.1.1 e0.1.length a0.1.2),(.slice d0.1.1 g1.1.length d0.1.2),(.slice d8 y5.length e8),(.slice aB z7.length bB),(.slice none 0 0),(.slice d0.2.1 g1.2.length d0.2.2),(.slice (some ⟨f1,0,none⟩) a1.length e1),(.int .i64 0),(.int .i64 x1),(.bool false)]:=b0
    refine BK (by kernel_rfl) ?_
    refine AZ (by kernel_rfl) ?_
    obtain rfl:=sm e6
    exact ⟨((d8,e8),(aB,bB)),_,⟨rfl,rfl,rfl,rfl,rfl,rfl,rfl,trivial⟩,((((((((hB.st p0).st y1).st w2).st x2).st y2).st z2).st e4).st f4).st x4,((((((((m1.st p0).st y1).st w2).st x2).st y2).st z2).st e4).st f4).st x4,((((((((h8.st p0).st y1).st w2).st x2).st y2).st z2).st e4).st f4).st x4,((((((((j1.st p0).st y1).st w2).st x2).st y2).st z2).st e4).st f4).st x4,((((((((b1.st p0).st y1).st w2).st x2).st y2).st z2).st e4).st f4).st x4,((((((((k1.st p0).st y1).st w2).st x2).st y2).st z2).st e4).st f4).st x4,b0,((((((((g5.st p0).st y1).st w2).st x2).st y2).st z2).st e4).st f4).st x4,((((((((e5.st p0).st y1).st w2).st x2).st y2).st z2).st e4).st f4).st x4,(((((zA.st x2).st y2).st z2).st e4).st f4).st x4,(dB.st f4).st x4,((((((((f5.st p0).st y1).st w2).st x2).st y2).st z2).st e4).st f4).st x4,((((((((n1.st p0).st y1).st w2).st x2).st y2).st z2).st e4).st f4).st x4⟩
   refine Bi 13 (by decide) x7 (xs:=(([(-1)]:List Int):List Int)) rfl rfl rfl rfl ⟨(vInt (show inI64 (-1) from by decide)),trivial⟩ (by decide) (by decide) rfl fun gO hO gH a3 g6=>?_
   have hZ:=a3.lst [] (fun _ h=>h.elim)
   refine Ay [(8,[12]),(16,[13]),(17,[14]),(18,[15,16]),(22,[4])] hZ (by kernel_rfl) ?_
   refine Au (i:=7) (by kernel_rfl) rfl ?_
   refine Bi 11 (by decide) gH (xs:=(([(-1)]:List Int):List Int)) rfl rfl rfl rfl ⟨(vInt (show inI64 (-1) from by decide)),trivial⟩ (by decide) (by decide) rfl fun iO jO kO z1 hH=>?_
   have hZ:=z1.lst [] (fun _ h=>h.elim)
   refine Ay [(8,[12]),(16,[13]),(17,[14]),(18,[15,16]),(22,[4])] hZ (by kernel_rfl) ?_
   refine Au (i:=8) (by kernel_rfl) rfl ?_
   obtain ⟨k5,iH,jH⟩:=AT k5
   replace i4:=(i4.st a3).st z1
   refine BP rfl i4 (hH.rd) rfl rfl (by decide) iH jH rfl fun f8 g8 lO mO b3 eB=>?_
   rw [← k5] at eB ⊢
   have hZ:=b3.lst [12] (fun _ h=>by cases h;decide)
   refine Ay [(16,[13]),(17,[14]),(18,[15,16]),(22,[4])] hZ (by kernel_rfl) ?_
   refine Au (i:=16) (by kernel_rfl) rfl ?_
   replace g6:=(g6.st z1).st b3
   obtain ⟨kH,c3,g6⟩:=g6.freeze
   have hZ:=c3.lst [13] (fun _ h=>by cases h;decide)
   refine Fl 14 (by decide) (O:=kH) (DK Fr.lt g6 r8 y7) rfl rfl fun nO oO pO qO d3 lH=>?_
   replace hZ:=hZ.cmp d3 [13] (fun _ h=>h.elim) rfl
   refine Ay [(17,[14]),(18,[15,16]),(22,[4])] hZ (by kernel_rfl) ?_
   refine Au (i:=17) (by kernel_rfl) rfl ?_
   refine BT (β:=Int) 15 (by decide) rfl lH (by decide) rfl (by decide) fun rO sO tO e3 mH=>?_
   have hZ:=e3.lst [14] (fun _ h=>by cases h;decide)
   refine Ay [(18,[15,16]),(22,[4])] hZ (by kernel_rfl) ?_
   refine Au (i:=18) (by kernel_rfl) rfl ?_
   obtain ⟨m5,nH,oH⟩:=AT m5
   replace j4:=(((((j4.st a3).st z1).st b3).st c3).st d3).st e3
   refine BI rfl j4 mH (by decide) rfl rfl (by decide) nH oH rfl fun fB gB uO iB g4 jB=>?_
   rw [← m5] at jB ⊢
   have hZ:=g4.lst [15,16] (by rintro _ (h|h)<;>cases h<;>decide)
   refine Ay [(22,[4])] hZ (by kernel_rfl) ?_
   refine Az (fuel:=5) [] [(19,true),(20,true),(21,true)] (by kernel_rfl) rfl ?_
   refine BR rfl rfl rfl (AM rfl rfl rfl (AM rfl rfl rfl (As ?_)))
   refine Au (i:=22) (by kernel_rfl) rfl ?_
   replace b0:=((((((b0.st a3).st z1).st b3).st c3).st d3).st e3).st g4
   refine AD b0 rfl rfl rfl (AU rfl) (allOne rfl) fun pH h4 b0=>?_
   replace b0:Lc 4 pH iB c1 67 [(.slice A9 x0.vars.length q0),(.slice u0 x0.init.length v0),(.slice s0 x0.goal.length t0),(.slice w0 x0.ops.length y0),(.slice a0.1.1 e0.1.length a0.1.2),(.slice d0.1.1 g1.1.length d0.1.2),(.slice f8 y5.length g8),(.slice a0.2.2.2.1.1 e0.2.2.2.1.length a0.2.2.2.1.2),(.slice none 0 0),(.slice d0.2.1 g1.2.length d0.2.2),(.slice (some ⟨f1,0,none⟩) a1.length e1),(.int .i64 0),(.int .i64 x1),(.bool false)]:=b0
   have hZ:=h4.lst [4] (fun _ h=>by cases h;decide)
   refine Ay [] hZ (by kernel_rfl) ?_
   refine Az (fuel:=1) [] [(23,true),(24,true),(25,true)] (by kernel_rfl) rfl ?_
   refine BR rfl rfl rfl (AM rfl rfl rfl (AM rfl rfl rfl (As ?_)))
   refine Au (i:=26) (by kernel_rfl) rfl ?_
   refine AD b0 rfl rfl rfl (AU rfl) (allOne rfl) fun qH y4 b0=>?_
   replace b0:Lc 4 qH iB c1 67 [(.slice A9 x0.vars.length q0),(.slice u0 x0.init.length v0),(.slice s0 x0.goal.length t0),(.slice w0 x0.ops.length y0),(.slice a0.1.1 e0.1.length a0.1.2),(.slice d0.1.1 g1.1.length d0.1.2),(.slice f8 y5.length g8),(.slice fB z7.length gB),(.slice none 0 0),(.slice d0.2.1 g1.2.length d0.2.2),(.slice (some ⟨f1,0,none⟩) a1.length e1),(.int .i64 0),(.int .i64 x1),(.bool false)]:=b0
   refine BK (by kernel_rfl) ?_
   refine AZ (by kernel_rfl) ?_
   obtain rfl:=sm e6
   exact ⟨((f8,g8),(fB,gB)),_,⟨rfl,rfl,rfl,rfl,rfl,rfl,rfl,trivial⟩,((((((((hB.st a3).st z1).st b3).st c3).st d3).st e3).st g4).st h4).st y4,((((((((m1.st a3).st z1).st b3).st c3).st d3).st e3).st g4).st h4).st y4,((((((((h8.st a3).st z1).st b3).st c3).st d3).st e3).st g4).st h4).st y4,((((((((j1.st a3).st z1).st b3).st c3).st d3).st e3).st g4).st h4).st y4,((((((((b1.st a3).st z1).st b3).st c3).st d3).st e3).st g4).st h4).st y4,((((((((k1.st a3).st z1).st b3).st c3).st d3).st e3).st g4).st h4).st y4,b0,((((((((g5.st a3).st z1).st b3).st c3).st d3).st e3).st g4).st h4).st y4,((((((((e5.st a3).st z1).st b3).st c3).st d3).st e3).st g4).st h4).st y4,(((((eB.st c3).st d3).st e3).st g4).st h4).st y4,(jB.st h4).st y4,((((((((f5.st a3).st z1).st b3).st c3).st d3).st e3).st g4).st h4).st y4,((((((((n1.st a3).st z1).st b3).st c3).st d3).st e3).st g4).st h4).st y4⟩
  rintro vO wO ⟨k0,rH,kB,hB,m1,h8,j1,b1,k1,b0,g5,e5,s5,t5,f5,n1⟩
  refine AE _ kB ?_
  refine Ab (Aa (Aj rfl rfl (Aj rfl rfl (o_z ?_))))
  obtain ⟨sH,p5,r0⟩:=bs r0
  replace p5:=KH p5
  obtain ⟨i8,lB,r0⟩:=bs r0
  refine Ax (aft i8 (fun (i5:(List Fct)) (z4:(Option Addr×Nat))=>[(2,(.pointer (some ⟨w5,0,none⟩))),(5,(.pointer (some ⟨c1,0,none⟩))),(20,(.slice A9 x0.vars.length q0)),(21,(.int .i64 (x0.vars.length:Int))),(22,(.int .i64 (b6:Int)))]) (fun i5 z4 w'=>∃ O':Lab,Bm w O0 w' O'∧Lc 2 w' O' w5 30 [(.slice A9 x0.vars.length q0),(.slice u0 x0.init.length v0),(.slice s0 x0.goal.length t0),(.slice w0 x0.ops.length y0)]∧Vb w' (Fr 0 w' O') (.slice A9 x0.vars.length q0) x0.vars∧Vb w' (Fr 0 w' O') (.slice u0 x0.init.length v0) x0.init∧Vb w' (Fr 0 w' O') (.slice s0 x0.goal.length t0) x0.goal∧Vb w' (Fr 0 w' O') (.slice w0 x0.ops.length y0) x0.ops∧Lc 4 w' O' c1 67 [(.slice A9 x0.vars.length q0),(.slice u0 x0.init.length v0),(.slice s0 x0.goal.length t0),(.slice w0 x0.ops.length y0),(.slice z4.1 i5.length z4.2),(.slice d0.1.1 g1.1.length d0.1.2),(.slice k0.1.1 d1.1.length k0.1.2),(.slice k0.2.1 d1.2.length k0.2.2),(.slice none 0 0),(.slice d0.2.1 g1.2.length d0.2.2),(.slice (some ⟨f1,0,none⟩) a1.length e1),(.int .i64 0),(.int .i64 x1),(.bool false)]∧Rw 17 w' O' 26 (.slice z4.1 i5.length z4.2) i5∧NR ByteArray 7 w' O' 80 9 (.slice d0.1.1 g1.1.length d0.1.2) g1.1 none∧Rw 12 w' O' 3 (.slice k0.1.1 d1.1.length k0.1.2) d1.1∧NR Int 16 w' O' 24 3 (.slice k0.2.1 d1.2.length k0.2.2) d1.2 none∧NR Bool 10 w' O' 65 4 (.slice d0.2.1 g1.2.length d0.2.2) g1.2 none∧Rw 3 w' O' 4 (.slice (some ⟨f1,0,none⟩) a1.length e1) a1)) ?_ ?_
  ·
   refine AG (Jg (σ:=(List Fct)) (X:=(Option Addr×Nat)) sH lB (ID p5 r8) (fun (i5:(List Fct)) (z4:(Option Addr×Nat))=>[(2,(.pointer (some ⟨w5,0,none⟩))),(5,(.pointer (some ⟨c1,0,none⟩))),(6,(.int .i64 (b6:Int))),(20,(.slice A9 x0.vars.length q0)),(21,(.int .i64 (x0.vars.length:Int))),(22,(.int .i64 (b6:Int)))]) _ (fun i5 z4 w'=>∃ O':Lab,Bm w O0 w' O'∧Lc 2 w' O' w5 30 [(.slice A9 x0.vars.length q0),(.slice u0 x0.init.length v0),(.slice s0 x0.goal.length t0),(.slice w0 x0.ops.length y0)]∧Vb w' (Fr 0 w' O') (.slice A9 x0.vars.length q0) x0.vars∧Vb w' (Fr 0 w' O') (.slice u0 x0.init.length v0) x0.init∧Vb w' (Fr 0 w' O') (.slice s0 x0.goal.length t0) x0.goal∧Vb w' (Fr 0 w' O') (.slice w0 x0.ops.length y0) x0.ops∧Lc 4 w' O' c1 67 [(.slice A9 x0.vars.length q0),(.slice u0 x0.init.length v0),(.slice s0 x0.goal.length t0),(.slice w0 x0.ops.length y0),(.slice z4.1 i5.length z4.2),(.slice d0.1.1 g1.1.length d0.1.2),(.slice k0.1.1 d1.1.length k0.1.2),(.slice k0.2.1 d1.2.length k0.2.2),(.slice none 0 0),(.slice d0.2.1 g1.2.length d0.2.2),(.slice (some ⟨f1,0,none⟩) a1.length e1),(.int .i64 0),(.int .i64 x1),(.bool false)]∧Rw 17 w' O' 26 (.slice z4.1 i5.length z4.2) i5∧NR ByteArray 7 w' O' 80 9 (.slice d0.1.1 g1.1.length d0.1.2) g1.1 none∧Rw 12 w' O' 3 (.slice k0.1.1 d1.1.length k0.1.2) d1.1∧NR Int 16 w' O' 24 3 (.slice k0.2.1 d1.2.length k0.2.2) d1.2 none∧NR Bool 10 w' O' 65 4 (.slice d0.2.1 g1.2.length d0.2.2) g1.2 none∧Rw 3 w' O' 4 (.slice (some ⟨f1,0,none⟩) a1.length e1) a1) _ (a0.1.1,a0.1.2) ⟨rH,hB,m1,h8,j1,b1,k1,b0,g5,e5,s5,t5,f5,n1⟩ ⟨rfl,(congrArg (fun z=>some (Value.int .i64 z)) p5),rfl,rfl,rfl,rfl,rfl,rfl,trivial⟩ (fun _ _=>⟨rfl,rfl⟩) (fun _ _=>⟨rfl,rfl,rfl,rfl,rfl,trivial⟩) (fun _ _ _ ⟨O',hB,m1,h8,j1,b1,k1,b0,h6,e5,s5,t5,f5,n1⟩=>⟨O',hB,m1,h8,j1,b1,k1,b0,h6,e5,s5,t5,f5,n1⟩) ⟨rfl,rfl,rfl⟩ ⟨rfl,rfl⟩ ?_)
   rintro s6 i5 z4 xO pI mB ⟨yO,hB,m1,h8,j1,b1,k1,b0,h6,e5,s5,t5,f5,n1⟩ i6 aC bC
   have rk669:inI64 (s6:Int):=rngKN mB (ID p5 r8)
   refine Ab (Aa (Aj rfl rfl (Am rfl rfl (o_z ?_))))
   refine Aa (Aj rfl rfl (Aj rfl rfl (Eg rfl rfl (AS rfl rfl (AJ (hc:=Blk.cell (i:=4) (b0.1) rfl) rfl rfl ?_)))))
   refine Aj rfl rfl (Aj rfl rfl (EH rfl rfl rfl ?_))
   obtain ⟨tH,j8,i6⟩:=bs i6
   obtain ⟨j8,uH,vH⟩:=AT j8
   refine CF rfl (a:=(⟨(b6:Int),(s6:Int)⟩:Fct)) h6 (Vb.ofAgg (cs:=[(.int .i64 (b6:Int)),(.int .i64 (s6:Int))]) (x:=(⟨(b6:Int),(s6:Int)⟩:Fct)) rfl ⟨rfl,rk51,rk669⟩) (fun _=>rfl) rfl (by decide) (by decide) uH vH ⟨rfl,rfl⟩ fun zO nB oB aP wH a5 pB=>?_
   rw [← j8] at pB ⊢
   refine Eg rfl rfl (AS rfl rfl ?_)
   replace b0:=b0.st a5
   refine AD b0 rfl rfl rfl (AU rfl) (allOne rfl) fun xH b5 b0=>?_
   replace b0:Lc 4 xH wH c1 67 [(.slice A9 x0.vars.length q0),(.slice u0 x0.init.length v0),(.slice s0 x0.goal.length t0),(.slice w0 x0.ops.length y0),(.slice nB tH.length oB),(.slice d0.1.1 g1.1.length d0.1.2),(.slice k0.1.1 d1.1.length k0.1.2),(.slice k0.2.1 d1.2.length k0.2.2),(.slice none 0 0),(.slice d0.2.1 g1.2.length d0.2.2),(.slice (some ⟨f1,0,none⟩) a1.length e1),(.int .i64 0),(.int .i64 x1),(.bool false)]:=b0
   refine o_z ?_
   obtain rfl:=sm i6
   exact show Exists _ from ⟨_,(nB,oB),rfl,⟨rfl,rfl,rfl,rfl,rfl,rfl,rfl,rfl,trivial⟩,_,(hB.st a5).st b5,(m1.st a5).st b5,(h8.st a5).st b5,(j1.st a5).st b5,(b1.st a5).st b5,(k1.st a5).st b5,b0,pB.st b5,(e5.st a5).st b5,(s5.st a5).st b5,(t5.st a5).st b5,(f5.st a5).st b5,(n1.st a5).st b5⟩
  rintro bP cP ⟨dP,qB,rfl,q5,eP,hB,m1,h8,j1,b1,k1,b0,h6,e5,s5,t5,f5,n1⟩
  replace r0:=AV r0
  obtain rfl:=sm r0
  exact show Exists _ from ⟨_,((qB.1,qB.2),(d0.1.1,d0.1.2),(k0.1.1,k0.1.2),(k0.2.1,k0.2.2),(d0.2.1,d0.2.2)),rfl,⟨(Bj q5 _ _ rfl),(Bj q5 _ _ rfl),(Bj q5 _ _ rfl),(Bj q5 _ _ rfl),(Bj q5 _ _ rfl),trivial⟩,_,hB,m1,h8,j1,b1,k1,b0,h6,e5,s5,t5,f5,n1⟩
 replace hB:=((hB.st o6).st a6).st x5
 replace j1:=((j1.st o6).st a6).st x5
 replace b1:=((b1.st o6).st a6).st x5
 replace k1:=((k1.st o6).st a6).st x5
 replace n1:=n1.st x5
 rintro fP gP ⟨j6,hP,rfl,rB,iP,hB,m1,h8,j1,b1,k1,b0,g5,h1,i4,j4,i1,n1⟩
 replace hm:=AV hm
 refine AE _ rB ?_
 refine Ab (Ab (Aa (AS rfl rfl (AJ (hc:=Blk.cell (i:=2) (m1.1) rfl) rfl rfl ?_))))
 refine AX rfl rfl ?_
 have k8:x0.goal.length≤9223372036854775807:=Nat.le_trans b1.len.2.1 b1.len.2.2
 have jP:inI64 (x0.goal.length:Int):=rngNat k8
 refine Aj rfl rfl (o_z ?_)
 obtain ⟨kP,c5,g5⟩:=g5.freeze
 replace h8:=h8.st c5
 replace j1:=j1.st c5
 replace b1:=b1.st c5
 replace k1:=k1.st c5
 replace n1:=n1.st c5
 replace b0:=b0.st c5
 replace h1:=h1.st c5
 replace i4:=i4.st c5
 replace j4:=j4.st c5
 replace i1:=i1.st c5
 obtain ⟨yH,l8,qI,rI,zH⟩:=Fnd.shut (x:=(⟨(⟨x0.vars,x0.init,x0.goal,x0.ops⟩:Tsk),j6.1,j6.2.1,(⟨j6.2.2.1,j6.2.2.2.1,([]:List Int)⟩:Swp),j6.2.2.2.2,a1,0,x1,false⟩:Fnd)) (l0:=4) (l1:=7) (l2:=12) (l3:=16) (l4:=10) (l5:=3) (by decide) b0 h8 j1 b1 k1 g5 h1 i4 j4 (Vb.nil _ _) i1 n1 (show inI64 0 from by decide) rx1
 obtain ⟨m8,sB,hm⟩:=bs hm
 refine Ax (aft m8 (fun (z5:Fnd) (t6:Unit)=>[(5,(.pointer (some ⟨c1,0,none⟩)))]) (fun z5 t6 w'=>∃ O':Lab,Bm w O0 w' O'∧Ob 4 w' O' (.pointer (some ⟨c1,0,none⟩)) z5)) ?_ ?_
 ·
  refine AG ?_
  replace hB:=(hB.st c5).st l8
  replace b1:=b1.st l8
  refine Bk (σ:=Fnd) (X:=Unit) (x0.goal.length) sB rfl k8 (fun (z5:Fnd) (t6:Unit)=>[(5,(.pointer (some ⟨c1,0,none⟩))),(93,(.slice s0 x0.goal.length t0))]) _ (fun z5 t6 w'=>∃ O':Lab,Bm w O0 w' O'∧Ob 4 w' O' (.pointer (some ⟨c1,0,none⟩)) z5∧Vb w' (Fr 0 w' O') (.slice s0 x0.goal.length t0) x0.goal) _ () ⟨yH,hB,zH,b1⟩ ⟨rfl,rfl,rfl,rfl,trivial⟩ (fun _ _=>⟨rfl,rfl⟩) (fun _ _=>⟨rfl,trivial⟩) (fun _ _ _ ⟨O',hB,u5,b1⟩=>⟨O',hB,u5⟩) ⟨rfl,rfl,rfl⟩ ⟨rfl,rfl⟩ ?_
  rintro aI k6 z5 t6 lP sI u6 ⟨bI,hB,u5,b1⟩ l6 cC dC
  have rk716:inI64 (aI:Int):=rngK u6 k8
  refine Ab (Aa ?_)
  obtain ⟨mP,nP,tI,tB,uB,vB,rfl,cI,dI⟩:=b1.elem' u6
  refine Bv (hA:=tB) (hj:=rfl) (hlt:=uB) rfl rfl rfl ?_
  refine Ba (hl:=rfl) (hc:=vB) rfl rfl ?_
  refine Bd 18 bI rfl fun eI oP wB n8 m6=>?_
  refine AD m6 rfl rfl rfl (AU rfl) (allOne rfl) fun fI o8 m6=>?_
  replace m6:Lc 18 fI wB eI 26 [(.int .i64 k6.var),(.int .i64 k6.val)]:=m6
  refine o_z ?_
  refine Aa (Aj rfl rfl (Ba (hl:=rfl) (hc:=(m6.1).cellsAt) rfl rfl ?_))
  obtain ⟨pP,gI,l6⟩:=bs l6
  replace u5:=(u5.st n8).st o8
  refine Cc (O:=wB) (Fc u5 (Vb.ofAgg (cs:=[(.int .i64 k6.var),(.int .i64 k6.val)]) (x:=k6) rfl ⟨rfl,cI,dI⟩) (show (⟨#[103,111,97,108]⟩:ByteArray).size≤9223372036854775807 from by decide) gI) rfl rfl fun qP rP sP xB hI=>?_
  refine o_z ?_
  obtain rfl:=sm l6
  exact show Exists _ from ⟨_,(),rfl,⟨rfl,rfl,rfl,rfl,trivial⟩,_,((hB.st n8).st o8).st xB,hI,((b1.st n8).st o8).st xB⟩
 replace hB:=(hB.st c5).st l8
 rintro tP uP ⟨vP,wP,rfl,yB,iI,hB,u5⟩
 replace hm:=AV hm
 refine AE _ yB ?_
 refine Ab (Aa (Aj rfl rfl ?_))
 obtain ⟨xP,jI,hm⟩:=bs hm
 refine Cc (O:=iI) (GO u5 (TabF.bm hT' hB) jI) rfl rfl fun yP zP aQ kI lI=>?_
 refine o_z ?_
 refine Ab (Aa (Aj rfl rfl (Am rfl rfl (o_z ?_))))
 refine AF ?_
 obtain rfl:=sm hm
 replace hB:=hB.st kI
 obtain ⟨O',hS',hz,hl⟩:=hE.leave (fun q=>if q=4 then j0 else 0) rfl hB
 exact ret1v rfl (AC rfl) ⟨O',hS',(Ob.leave lI hz (hl 4 (by decide) (by decide)) hj0)⟩
noncomputable def CH (x0:Tsk) (x1:Int):Option ((List Swp)×Err) :=
  bnd (BE x0 ([]:List Swp)) fun q25=>if q25.n≠0 then (some (([]:List Swp),(⟨q25.n⟩:Err))) else (bnd (Cn x0 (max 0 (min x1 1048576))) fun q34=>bnd q34 fun o42=>bnd (chkI ((o42.list.length:Int) - 1)) fun n102=>bnd (lop (ρ:=(List Swp)×Err) (fun (s112:(List Swp)×Int×Fnd)=>if 0≤s112.2.1 then (bnd (Cj s112.2.2 s112.2.1 s112.1) fun q134=>if q134.2.full=true then (some (.ret (([]:List Swp),(⟨10⟩:Err)))) else (bnd (chkI (s112.2.1 - 1)) fun n202=>some (.next (q134.1,n202,q134.2)))) else (some (.brk (s112.1,s112.2.1,s112.2.2)))) (([]:List Swp),n102,o42)) fun res110=>fin res110 fun (s214:(List Swp)×Int×Fnd)=>some (s214.1,(⟨0⟩:Err)))
theorem JX {w:World} {A:Nat→Prop} (hA:∀ k,A k→k < w.heap.size) {vx0:Value} {x0:Tsk} (p1:Vb w A vx0 x0) {x1:Int} (rx1:inI64 x1) (hT:TabF w A) {r:(List Swp)×Err} (hm:CH x0 x1=some r) :
    Fn Tryz.prog 6 [vx0,(.int .i64 x1)] w fun v w'=>Ext w w'∧T2 w' (upA A w w') v r:=by
 obtain ⟨O,hB,v3⟩:=enter hA
 replace p1:=p1.mono v3
 obtain ⟨d6,rfl,v4,v5,v6,v7,rfl,h8,g0,h0,i0⟩:=p1
 obtain ⟨A9,q1,rfl⟩:=h8.form
 obtain ⟨r1,s1,rfl⟩:=g0.form
 obtain ⟨t1,u1,rfl⟩:=h0.form
 obtain ⟨v1,w1,rfl⟩:=i0.form
 refine AP Tryz.func6 rfl Tryz.ntmps6 rfl ?_
 unfold CH at hm
 refine Ab (Aa (BC 2 O rfl rfl fun w3 y1 z1 q0 r0=>?_))
 replace r0:Lc 2 y1 z1 w3 30 [(.slice A9 x0.vars.length q1),(.slice r1 x0.init.length s1),(.slice t1 x0.goal.length u1),(.slice v1 x0.ops.length w1)]:=r0
 refine Am rfl rfl (Am rfl rfl (o_z ?_))
 refine Ab (Ab (Aa (Ba (hl:=rfl) (hc:=(r0.1).cellsAt) rfl rfl ?_)))
 obtain ⟨x3,y3,hm⟩:=bs hm
 replace h8:=h8.st q0
 replace g0:=g0.st q0
 replace h0:=h0.st q0
 replace i0:=i0.st q0
 refine Bf (O:=z1) (A:=All y1) (R:=fun w' F v=>Vb w' F v x3) (Ec (fun _ h=>h) (Vb.mono (F:=Fr 0 y1 z1) (Vb.ofAgg (cs:=[(.slice A9 x0.vars.length q1),(.slice r1 x0.init.length s1),(.slice t1 x0.goal.length u1),(.slice v1 x0.ops.length w1)]) (x:=x0) rfl ⟨_,_,_,_,rfl,h8,g0,h0,i0⟩) Fr.lt) (Vb.nil _ _) y3) rfl rfl fun e6 z3 z2 j0 a4=>?_
 obtain ⟨rfl,b4⟩:=a4.err
 refine Am rfl rfl (o_z ?_)
 refine Ab (Aa (Aj rfl rfl (GS rfl rfl (fun a2=>?_) fun a2=>?_)))
 ·
  replace hm:=ip hm a2
  refine o_z ?_
  refine Ah rfl (Ab (Aa (Aj rfl rfl (Am rfl rfl (Am rfl rfl (o_z ?_))))))
  refine AF ?_
  obtain rfl:=sm hm
  replace hB:=(hB.st q0).st j0
  exact ret2 rfl (AC rfl) (AC rfl) ⟨hB.ext,_,_,rfl,(Vb.mono (F:=Fr 0 z3 z2) (Vb.nil _ _) hB.out),(vErr b4)⟩
 replace hm:=im hm a2
 refine o_z ?_
 refine Ae rfl (AI (Ab (Aa ?_)))
 replace r0:=r0.st j0
 refine Ba (hl:=rfl) (hc:=(r0.1).cellsAt) rfl rfl ?_
 refine Aj rfl rfl (Nv rfl rfl rfl ?_)
 refine Qf rfl rfl rfl ?_
 obtain ⟨f6,c4,hm⟩:=bs hm
 replace hB:=(hB.st q0).st j0
 replace h8:=h8.st j0
 replace g0:=g0.st j0
 replace h0:=h0.st j0
 replace i0:=i0.st j0
 refine Cc (O:=z2) (HC (Vb.ofAgg (cs:=[(.slice A9 x0.vars.length q1),(.slice r1 x0.init.length s1),(.slice t1 x0.goal.length u1),(.slice v1 x0.ops.length w1)]) (x:=x0) rfl ⟨_,_,_,_,rfl,h8,g0,h0,i0⟩) (rngMax (show inI64 (0) from by decide) (rngMin rx1 (show inI64 (1048576) from by decide))) 3 (by decide) (TabF.bs hA hT hB) c4) rfl rfl fun g6 h6 i6 a3 b2=>?_
 refine Am rfl rfl (o_z ?_)
 refine Ab (Aa (Am rfl rfl (o_z ?_)))
 refine Ab (Ab (Aa (Aj rfl rfl ?_)))
 obtain ⟨c2,d4,hm⟩:=bs hm
 rw [d4] at b2
 obtain ⟨b3,rfl⟩:=Ob.ptr b2
 refine Eg rfl rfl ?_
 obtain ⟨j6,k6,l6,m6,n6,o6,p6,q6,r6,s6,t6,u6,c3,e4,d3,e3,f3,g3,h3,o1,i3,j3,k3,m3,n3,o3,f4,g4⟩:=Fnd.opn b2 3 4 5 6 7 8 (by decide)
 obtain ⟨w6,x6,rfl⟩:=e3.form
 obtain ⟨y6,z6,rfl⟩:=f3.form
 obtain ⟨a7,b7,rfl⟩:=g3.form
 obtain ⟨c7,d7,rfl⟩:=h3.form
 obtain ⟨e7,f7,rfl⟩:=o1.form
 obtain ⟨g7,h7,rfl⟩:=i3.form
 obtain ⟨i7,j7,rfl⟩:=j3.form
 obtain ⟨k7,l7,rfl⟩:=k3.form
 obtain ⟨m7,n7,rfl⟩:=m3.form
 obtain ⟨o7,p7,rfl⟩:=n3.form
 obtain ⟨q7,r7,rfl⟩:=o3.form
 refine AS rfl rfl (AJ (hc:=Blk.cell (i:=4) (d3.1) rfl) rfl rfl ?_)
 refine AX rfl rfl ?_
 have d2:c2.list.length≤9223372036854775807:=Nat.le_trans o1.len.2.1 o1.len.2.2
 have h4:inI64 (c2.list.length:Int):=rngNat d2
 obtain ⟨i4,s0,hm⟩:=bs hm
 have e2:=(BG s0)
 refine IH (he:=s0) rfl rfl rfl ?_
 refine Am rfl rfl (o_z ?_)
 obtain ⟨f2,t0,p3,q3,g2⟩:=Fnd.shut (x:=c2) (l0:=3) (l1:=4) (l2:=5) (l3:=6) (l4:=7) (l5:=8) (by decide) d3 e3 f3 g3 h3 o1 i3 j3 k3 m3 n3 o3 f4 g4
 obtain ⟨k0,u0,hm⟩:=bs hm
 refine Ax (aft k0 (fun (b0:(List Swp)×Int×Fnd) (c0:(Option Addr×Nat))=>[(8,(.slice c0.1 b0.1.length c0.2))]) (fun b0 c0 w'=>∃ O':Lab,Bs w A w' O'∧Rw 9 w' O' 43 (.slice c0.1 b0.1.length c0.2) b0.1∧inI64 b0.2.1)) ?_ ?_
 ·
  refine AG ?_
  replace hB:=((hB.st a3).st c3).st t0
  refine DQ (σ:=(List Swp)×Int×Fnd) (X:=(Option Addr×Nat)) u0 (fun (b0:(List Swp)×Int×Fnd) (c0:(Option Addr×Nat))=>[(7,(.pointer (some ⟨b3,0,none⟩))),(8,(.slice c0.1 b0.1.length c0.2)),(9,(.int .i64 b0.2.1))]) _ (fun b0 c0 w'=>∃ O':Lab,Bs w A w' O'∧Ob 3 w' O' (.pointer (some ⟨b3,0,none⟩)) b0.2.2∧Rw 9 w' O' 43 (.slice c0.1 b0.1.length c0.2) b0.1∧inI64 b0.2.1) _ (none,0) ⟨f2,hB,g2,(Rw.nil 9 (by decide)),e2⟩ ⟨rfl,rfl,rfl,trivial⟩ ?_
  rintro b0 c0 j4 r3 ⟨h2,hB,i2,d0,m0⟩ a0 e0 f0
  refine Ab (Ab (Aa (Aj rfl rfl (IA rfl rfl rfl (fun n0=>?_) fun n0=>?_))))
  ·
   replace a0:=ip a0 n0
   refine o_z ?_
   refine Ah rfl (AI (Ab (AG (Ab (Aa (Aj rfl rfl (Aj rfl rfl (Aj rfl rfl ?_))))))))
   obtain ⟨j2,k2,a0⟩:=bs a0
   refine Cc (O:=h2) (GN i2 m0 d0 (by decide) k2) rfl rfl fun k4 m2 m4 v0 n2=>?_
   obtain ⟨o2,w0⟩:=n2
   obtain ⟨p2,q2,rfl⟩:=w0.form
   refine Am rfl rfl (o_z ?_)
   refine Ab (Aa (Aj rfl rfl (Eg rfl rfl ?_)))
   obtain ⟨r2,n4,o4,p4,q4,r4,s4,t4,u4,w4,x4,y4,o0,s3,y0,z0,a1,b1,c1,d1,e1,f1,g1,h1,i1,j1,s2,t2⟩:=Fnd.opn o2 3 4 5 6 7 8 (by decide)
   obtain ⟨z4,a5,rfl⟩:=z0.form
   obtain ⟨b5,c5,rfl⟩:=a1.form
   obtain ⟨d5,e5,rfl⟩:=b1.form
   obtain ⟨f5,g5,rfl⟩:=c1.form
   obtain ⟨h5,i5,rfl⟩:=d1.form
   obtain ⟨j5,k5,rfl⟩:=e1.form
   obtain ⟨m5,n5,rfl⟩:=f1.form
   obtain ⟨o5,p5,rfl⟩:=g1.form
   obtain ⟨q5,r5,rfl⟩:=h1.form
   obtain ⟨s5,t5,rfl⟩:=i1.form
   obtain ⟨u5,w5,rfl⟩:=j1.form
   refine AS rfl rfl (AJ (hc:=Blk.cell (i:=13) (y0.1) rfl) rfl rfl ?_)
   refine o_z ?_
   refine Bp rfl (fun p0=>?_) (fun p0=>?_)
   ·
    replace a0:=ip a0 p0
    refine Ab (Aa (ND rfl rfl ?_))
    refine Am rfl rfl (Am rfl rfl (o_z ?_))
    refine AF ?_
    obtain rfl:=sm a0
    obtain rfl:=e0 _ rfl
    obtain rfl:=sm (Cq hm)
    replace hB:=(hB.st v0).st o0
    exact ret2 rfl (AC rfl) (AC rfl) ⟨hB.ext,_,_,rfl,(Vb.mono (F:=Fr 0 m2 r2) (Vb.nil _ _) hB.out),(vErr (by decide))⟩
   replace a0:=im' a0 p0
   refine AI (Aa (Aj rfl rfl ?_))
   obtain ⟨x5,k1,a0⟩:=bs a0
   have u2:=(BG k1)
   refine IH (he:=k1) rfl rfl rfl ?_
   refine Am rfl rfl (o_z ?_)
   obtain ⟨y5,m1,t3,u3,v2⟩:=Fnd.shut (x:=j2.2) (l0:=3) (l1:=4) (l2:=5) (l3:=6) (l4:=7) (l5:=8) (by decide) y0 z0 a1 b1 c1 d1 e1 f1 g1 h1 i1 j1 s2 t2
   obtain rfl:=sm a0
   exact show Exists _ from ⟨_,(p2,q2),rfl,⟨rfl,rfl,rfl,trivial⟩,_,((hB.st v0).st o0).st m1,v2,(w0.st o0).st m1,u2⟩
  replace a0:=im a0 n0
  refine o_z ?_
  refine Ae rfl (Ck ?_)
  obtain rfl:=sm a0
  exact show Exists _ from ⟨_,(c0.1,c0.2),f0 _ rfl,⟨rfl,trivial⟩,_,hB,d0,m0⟩
 replace hB:=((hB.st a3).st c3).st t0
 rintro z5 w2 ⟨a6,b6,rfl,n1,c6,hB,d0,m0⟩
 replace hm:=AV hm
 refine AE _ n1 ?_
 refine Ab (Aa (Aj rfl rfl (Am rfl rfl (Am rfl rfl (o_z ?_)))))
 refine AF ?_
 obtain ⟨x2,y2,d0⟩:=d0.freeze
 obtain rfl:=sm hm
 replace hB:=hB.st y2
 exact ret2 rfl (AC rfl) (AC rfl) ⟨hB.ext,_,_,rfl,(Vb.mono (F:=Fr 0 w2 x2) d0 hB.out),(vErr (show inI64 0 from by decide))⟩
end
section
open Go Go.RowKit Go.ChangeShapes Go.WideShapes Go.Deep
section
variable {H : Type} {enc : TypeId × Value → H} {P : Program} {w : World}
class Reads (P:Program) (t:TypeId) (α:Type) [Rp α]:Prop where
  of:∀ {H:Type} {enc:TypeId×Value→H} {w:World} {n:Nat} {cs:List Value} {x:DataW H×List MemPlace},DataW.trod enc P w 0 (fun _=>true) true n t cs=some x→∃ a:α,Rp.R w (All w) cs a
theorem wf64 {z:Int} (h:(Lit.int .i64 z).wf=true):inI64 z:=by
  simpa [Lit.wf,IntKind.min,IntKind.max,IntKind.signed,IntKind.bits,inI64] using h
theorem readsInt {t:TypeId} (ht:P.underlying t=some (.int .i64)):Reads P t Int:=⟨fun h=>by
  obtain ⟨z,rfl,_,hw⟩:=DataW.trod_int ht h
  exact ⟨z,rfl,wf64 hw⟩⟩
theorem QK {a:Addr} {v:Value} (h:w.cell? a=some v):a.block < w.heap.size∧a.spot=none:=by
  unfold World.cell? at h
  split at h
  · next hb =>
    refine ⟨(Array.getElem?_eq_some_iff.1 hb).1,?_⟩
    cases hs:a.spot with
    | none=>rfl
    | some k=>rw [hs] at h;simp at h
  · cases h
theorem readsSlice {t e:TypeId} {α:Type} [Rp α] [hr:Reads P e α] (ht:P.underlying t=some (.slice e)) (hc:P.cellsOf e=Rp.size α) (hp:0 < Rp.size α):Reads P t (List α):=⟨fun {H enc w n cs x} h=>by
  rcases open_slice ht h with ⟨rfl,_⟩|⟨a,len,cap,m,n',D,Pl,rfl,_,hl,hm,hmm,_,hi⟩
  · exact ⟨[],_,rfl,none,0,[],rfl,Nat.le_refl _,by omega,rfl,fun h=>by simp at h⟩
  · have hlm:len≤m:=by rw [hmm];simpa using hl
    have key:∀ k,k≤len→∃ (xs:List α) (cells:List Value),xs.length=k∧Chunks w (All w) cells xs∧(0 < k→a.spot=none∧a.block < w.heap.size)∧∀ (j:Nat) v,cells[j]?=some v→w.cell? ⟨a.block,a.off + j,none⟩=some v:=by
      intro k
      induction k with
      | zero=>intro _;exact ⟨[],[],rfl,rfl,fun h=>by omega,fun j v h=>by simp at h⟩
      | succ k ih =>
        intro hk
        obtain ⟨xs,cells,h1,h2,h3,h4⟩:=ih (by omega)
        obtain ⟨cs',hcs,hel⟩:=hi k (by omega)
        obtain ⟨y,hy⟩:=hr.of hel
        obtain ⟨_,hlen,hat⟩:=World.cells?_some hcs
        rw [hc] at hlen hat
        have hcl:=h2.length
        have hadd:∀ j,j < Rp.size α→((a.add (k * Rp.size α)).add j).block=a.block∧((a.add (k * Rp.size α)).add j).off=a.off + (cells.length + j):=fun j hj=>by
          rw [hcl,h1]
          unfold Addr.add
          by_cases e1:k * Rp.size α=0
          · by_cases e2:j=0
            · simp [e1,e2]
            · simp [e1,e2]
          · by_cases e2:j=0
            · simp [e1,e2]
            · simp [e1,e2];omega
        have hcell:∀ (j:Nat) v,cs'[j]?=some v→w.cell? ⟨a.block,a.off + (cells.length + j),none⟩=some v∧a.block < w.heap.size∧((a.add (k * Rp.size α)).add j).spot=none:=fun j v hv=>by
          have hj:j < Rp.size α:=by rw [← hlen];exact (List.getElem?_eq_some_iff.1 hv).1
          have hw:=hat j hj
          rw [hv] at hw
          obtain ⟨q1,q2⟩:=QK hw
          obtain ⟨e1,e2⟩:=hadd j hj
          have:(a.add (k * Rp.size α)).add j=⟨a.block,a.off + (cells.length + j),none⟩:=by
            cases hx:(a.add (k * Rp.size α)).add j with
            | mk b o s=>rw [hx] at e1 e2 q2;simp only at e1 e2 q2;subst e1;subst e2;subst q2;rfl
          rw [this] at hw q1
          exact ⟨hw,q1,q2⟩
        obtain ⟨v0,hv0⟩:∃ v,cs'[0]?=some v:=⟨cs'[0]'(by omega),List.getElem?_eq_getElem (by omega)⟩
        refine ⟨xs ++ [y],cells ++ cs',by simp [h1],h2.append (.single hy),fun _=>⟨?_,(hcell 0 v0 hv0).2.1⟩,fun j v hv=>?_⟩
        · by_cases hk0:k=0
          · subst hk0
            have:=(hcell 0 v0 hv0).2.2
            simpa [Addr.add] using this
          · exact (h3 (by omega)).1
        · by_cases hj:j < cells.length
          · rw [List.getElem?_append_left hj] at hv;exact h4 j v hv
          · rw [List.getElem?_append_right (by omega)] at hv
            have:=(hcell _ v hv).1
            rwa [show cells.length + (j - cells.length)=j from by omega] at this
    obtain ⟨xs,cells,h1,h2,h3,h4⟩:=key len (Nat.le_refl _)
    refine ⟨xs,_,rfl,some a,cap,cells,by rw [h1],by omega,by simpa [maxLen] using hm,h2,fun hpos=>?_⟩
    obtain ⟨q1,q2⟩:=h3 (by omega)
    refine ⟨a.block,a.off,?_,q2,Ex h4⟩
    cases a;simp only at q1;subst q1;rfl⟩
end
end
section
open Go Go.RowKit
theorem QL {laid : List (String × DataW Unit)} {W : World} (h2 : ((laid.filter fun x => x.2.handleName?.isNone).filter fun x => x.1 == "internal/strconv.uint64pow10") = [("internal/strconv.uint64pow10", Lib.tabData .u64 Lib.pow10Tab)]) (h : laidMetH Tryz.prog laid W) : TabF W (All W) := by
  have h3 := (laidMetH_iff.1 h).1.filter fun x => x.1 == "internal/strconv.uint64pow10"
  rw [h2] at h3
  obtain ⟨g, hg⟩ := Option.isSome_iff_exists.1 (show (Tryz.prog.globalNamed "internal/strconv.uint64pow10").isSome = true by kernel_rfl)
  have ht : Lib.TabIs Tryz.prog W "internal/strconv.uint64pow10" .u64 Lib.pow10Tab := by
    have hgt : (Tryz.prog.globalNamed "internal/strconv.uint64pow10").bind (fun g => (Tryz.prog.globals[g]?).map (·.type)) = some 172 := by kernel_rfl
    rw [hg,Option.bind_some] at hgt
    exact Lib.tabIs_of_head hg hgt Tryz.underlying172 Tryz.underlying125 (by kernel_rfl) (by kernel_rfl) h3
  intro W' ha
  unfold Lib.TabIs World.var? at ht ⊢
  rw [hg] at ht ⊢
  have hb:W'.heap[g]?=W.heap[g]?:=ha g (by
    show g < W.heap.size
    refine Classical.byContradiction fun hn=>?_
    rw [Option.bind_some,Array.getElem?_eq_none (by omega)] at ht
    cases ht)
  rw [Option.bind_some,hb]
  exact ht
end
section
open Go Go.RowKit Go.ChangeShapes Go.WideShapes Go.Deep
theorem len2 {cs:List Value} (h:cs.length=2):∃ a b,cs=[a,b]:=by
  match cs,h with
  | [a,b],_=>exact ⟨a,b,rfl⟩
theorem len3 {cs:List Value} (h:cs.length=3):∃ a b c,cs=[a,b,c]:=by
  match cs,h with
  | [a,b,c],_=>exact ⟨a,b,c,rfl⟩
theorem len4 {cs:List Value} (h:cs.length=4):∃ a b c d,cs=[a,b,c,d]:=by
  match cs,h with
  | [a,b,c,d],_=>exact ⟨a,b,c,d,rfl⟩
theorem II:Tryz.prog.cellsOf 3=1:=by kernel_rfl
theorem RX:Tryz.prog.cellsOf 9=1:=by kernel_rfl
theorem Oz:Tryz.prog.cellsOf 24=1:=by kernel_rfl
theorem Ks:Tryz.prog.cellsOf 27=1:=by kernel_rfl
theorem RC:Tryz.prog.cellsOf 33=1:=by kernel_rfl
theorem RY:Tryz.prog.cellsOf 28=1:=by kernel_rfl
theorem OA:Tryz.prog.cellsOf 26=2:=by kernel_rfl
theorem Qr:Tryz.prog.cellsOf 32=3:=by kernel_rfl
theorem RD:Tryz.prog.cellsOf 35=4:=by kernel_rfl
theorem RE:Tryz.prog.cellsOf 30=4:=by kernel_rfl
theorem readsField {H:Type} {enc:TypeId×Value→H} {P:Program} {w:World} {t:TypeId} {fs:Array Field} {n:Nat} {cs:List Value} {x:DataW H×List MemPlace} (ht:P.underlying t=some (.struct fs)) (h:DataW.trod enc P w 0 (fun _=>true) true n t cs=some x) :
    cs.length=P.cellsOf t∧∃ m,∀ (j ty off c:Nat),(fs[j]?).map (fun f=>(f.type,f.offset))=some (ty,off)→P.cellsOf ty=c→∃ y,DataW.trod enc P w 0 (fun _=>true) true m ty ((cs.drop off).take c)=some y:=by
  obtain ⟨xs,m,_,_,hl,hx,hf⟩:=DataW.trod_struct ht h
  refine ⟨hl,m,fun j ty off c hj hc=>?_⟩
  obtain ⟨fd,h1,h2⟩:=Option.map_eq_some_iff.1 hj
  injection h2 with h3 h4
  subst h3;subst h4;subst hc
  have hj':j < xs.length:=by rw [hx];exact (Array.getElem?_eq_some_iff.1 h1).1
  exact ⟨xs[j],(hf j fd h1).trans (List.getElem?_eq_getElem hj')⟩
instance:Reads Tryz.prog 3 Int:=readsInt Tryz.underlying3
instance:Reads Tryz.prog 24 (List Int):=readsSlice Tryz.underlying24 II (by decide)
instance:Reads Tryz.prog 26 Fct:=⟨fun {H enc w n cs x} h=>by
  obtain ⟨hl,m,hf⟩:=readsField Tryz.underlying26 h
  obtain ⟨v0,v1,rfl⟩:=len2 (hl.trans OA)
  obtain ⟨x0,g0⟩:=hf 0 3 0 1 rfl II
  replace g0:DataW.trod enc Tryz.prog w 0 (fun _=>true) true m 3 [v0]=some x0:=g0
  obtain ⟨x1,g1⟩:=hf 1 3 1 1 rfl II
  replace g1:DataW.trod enc Tryz.prog w 0 (fun _=>true) true m 3 [v1]=some x1:=g1
  obtain ⟨z0,e0,q0⟩:=(inferInstance:Reads Tryz.prog 3 Int).of g0
  obtain rfl:v0=.int .i64 z0:=by simpa using e0
  obtain ⟨z1,e1,q1⟩:=(inferInstance:Reads Tryz.prog 3 Int).of g1
  obtain rfl:v1=.int .i64 z1:=by simpa using e1
  exact ⟨⟨z0,z1⟩,rfl,q0,q1⟩⟩
instance:Reads Tryz.prog 27 (List Fct):=readsSlice Tryz.underlying27 OA (by decide)
instance:Reads Tryz.prog 32 Eff:=⟨fun {H enc w n cs x} h=>by
  obtain ⟨hl,m,hf⟩:=readsField Tryz.underlying32 h
  obtain ⟨v0,v1,v2,rfl⟩:=len3 (hl.trans Qr)
  obtain ⟨x0,g0⟩:=hf 0 27 0 1 rfl Ks
  replace g0:DataW.trod enc Tryz.prog w 0 (fun _=>true) true m 27 [v0]=some x0:=g0
  obtain ⟨x1,g1⟩:=hf 1 3 1 1 rfl II
  replace g1:DataW.trod enc Tryz.prog w 0 (fun _=>true) true m 3 [v1]=some x1:=g1
  obtain ⟨x2,g2⟩:=hf 2 3 2 1 rfl II
  replace g2:DataW.trod enc Tryz.prog w 0 (fun _=>true) true m 3 [v2]=some x2:=g2
  obtain ⟨z0,q0⟩:=(inferInstance:Reads Tryz.prog 27 (List Fct)).of g0
  obtain ⟨z1,e1,q1⟩:=(inferInstance:Reads Tryz.prog 3 Int).of g1
  obtain rfl:v1=.int .i64 z1:=by simpa using e1
  obtain ⟨z2,e2,q2⟩:=(inferInstance:Reads Tryz.prog 3 Int).of g2
  obtain rfl:v2=.int .i64 z2:=by simpa using e2
  exact ⟨⟨z0,z1,z2⟩,v0,rfl,q0,q1,q2⟩⟩
instance:Reads Tryz.prog 33 (List Eff):=readsSlice Tryz.underlying33 Qr (by decide)
instance:Reads Tryz.prog 35 Opr:=⟨fun {H enc w n cs x} h=>by
  obtain ⟨hl,m,hf⟩:=readsField Tryz.underlying35 h
  obtain ⟨v0,v1,v2,v3,rfl⟩:=len4 (hl.trans RD)
  obtain ⟨x0,g0⟩:=hf 0 9 0 1 rfl RX
  replace g0:DataW.trod enc Tryz.prog w 0 (fun _=>true) true m 9 [v0]=some x0:=g0
  obtain ⟨x1,g1⟩:=hf 1 3 1 1 rfl II
  replace g1:DataW.trod enc Tryz.prog w 0 (fun _=>true) true m 3 [v1]=some x1:=g1
  obtain ⟨x2,g2⟩:=hf 2 27 2 1 rfl Ks
  replace g2:DataW.trod enc Tryz.prog w 0 (fun _=>true) true m 27 [v2]=some x2:=g2
  obtain ⟨x3,g3⟩:=hf 3 33 3 1 rfl RC
  replace g3:DataW.trod enc Tryz.prog w 0 (fun _=>true) true m 33 [v3]=some x3:=g3
  obtain ⟨z0,e0,_,q0⟩:=DataW.trod_string Tryz.underlying9 g0
  obtain rfl:v0=.string z0:=by simpa using e0
  obtain ⟨z1,e1,q1⟩:=(inferInstance:Reads Tryz.prog 3 Int).of g1
  obtain rfl:v1=.int .i64 z1:=by simpa using e1
  obtain ⟨z2,q2⟩:=(inferInstance:Reads Tryz.prog 27 (List Fct)).of g2
  obtain ⟨z3,q3⟩:=(inferInstance:Reads Tryz.prog 33 (List Eff)).of g3
  exact ⟨⟨z0,z1,z2,z3⟩,v2,v3,rfl,q2,q3,q1,by simpa [maxLen] using q0⟩⟩
instance:Reads Tryz.prog 28 (List Opr):=readsSlice Tryz.underlying28 RD (by decide)
instance:Reads Tryz.prog 30 Tsk:=⟨fun {H enc w n cs x} h=>by
  obtain ⟨hl,m,hf⟩:=readsField Tryz.underlying30 h
  obtain ⟨v0,v1,v2,v3,rfl⟩:=len4 (hl.trans RE)
  obtain ⟨x0,g0⟩:=hf 0 24 0 1 rfl Oz
  replace g0:DataW.trod enc Tryz.prog w 0 (fun _=>true) true m 24 [v0]=some x0:=g0
  obtain ⟨x1,g1⟩:=hf 1 24 1 1 rfl Oz
  replace g1:DataW.trod enc Tryz.prog w 0 (fun _=>true) true m 24 [v1]=some x1:=g1
  obtain ⟨x2,g2⟩:=hf 2 27 2 1 rfl Ks
  replace g2:DataW.trod enc Tryz.prog w 0 (fun _=>true) true m 27 [v2]=some x2:=g2
  obtain ⟨x3,g3⟩:=hf 3 28 3 1 rfl RY
  replace g3:DataW.trod enc Tryz.prog w 0 (fun _=>true) true m 28 [v3]=some x3:=g3
  obtain ⟨z0,q0⟩:=(inferInstance:Reads Tryz.prog 24 (List Int)).of g0
  obtain ⟨z1,q1⟩:=(inferInstance:Reads Tryz.prog 24 (List Int)).of g1
  obtain ⟨z2,q2⟩:=(inferInstance:Reads Tryz.prog 27 (List Fct)).of g2
  obtain ⟨z3,q3⟩:=(inferInstance:Reads Tryz.prog 28 (List Opr)).of g3
  exact ⟨⟨z0,z1,z2,z3⟩,v0,v1,v2,v3,rfl,q0,q1,q2,q3⟩⟩
theorem openV {H:Type} {enc:TypeId×Value→H} {P:Program} {w:World} {t:TypeId} {α:Type} [Rp α] [hr:Reads P t α] {v:Value} {d:DataW H} {p:List MemPlace} (hag:Rp.isAgg α=true→∃ cs,v=.agg cs) (hne:Rp.isAgg α=false→v.cells.toList=[v])
    (h:DataW.Trod enc P w 0 (fun _=>true) true t v d p):∃ a:α,V w v a:=by
  obtain ⟨n,h⟩:=h
  obtain ⟨a,ha⟩:=hr.of h
  refine ⟨a,?_⟩
  unfold V Vb
  cases hb:Rp.isAgg α with
  | true =>
    obtain ⟨cs,rfl⟩:=hag hb
    exact ⟨cs.toList,by simp,ha⟩
  | false =>
    rw [hne hb] at ha
    exact ha
end
section
open Go Go.RowKit Go.ChangeShapes Go.WideShapes Go.Deep
theorem oneCells {P:Program} {w:World} {t:TypeId} [ht:TOne P t] {base:Nat} {v:Value} (hv:Value.okWide P w .any base t v):v.cells.toList=[v]:=by
  obtain ⟨k,hk,hm⟩:=ht.eq
  cases v with
  | agg cs=>cases k<;>first|(simp at hm;done)|(simp only [Value.okWide,hk,Cell.okWide] at hv;simp_all [Cell.ok];done)
  | _=>rfl
theorem aggCells {P:Program} {w:World} {t:TypeId} [ht:TAgg P t] {base:Nat} {v:Value} (hv:Value.okWide P w .any base t v):∃ cs,v=.agg cs:=by
  obtain ⟨k,hk,hm⟩:=ht.eq
  cases k<;>first|(simp at hm;done)|(simp only [Value.okWide,hk] at hv;obtain ⟨cs,rfl,_⟩:=hv;exact ⟨cs,rfl⟩)
theorem openOne {H:Type} {enc:TypeId×Value→H} {P:Program} {w:World} {t:TypeId} {α:Type} [Rp α] [Reads P t α] [TOne P t] {base:Nat} {v:Value} {d:DataW H} {p:List MemPlace} (hb:Rp.isAgg α=false) (hv:Value.okWide P w .any base t v)
    (h:DataW.Trod enc P w 0 (fun _=>true) true t v d p):∃ a:α,V w v a :=
  openV (fun h => by rw [hb] at h; cases h) (fun _ => oneCells hv) h
theorem openAgg {H:Type} {enc:TypeId×Value→H} {P:Program} {w:World} {t:TypeId} {α:Type} [Rp α] [Reads P t α] [TAgg P t] {base:Nat} {v:Value} {d:DataW H} {p:List MemPlace} (hb:Rp.isAgg α=true) (hv:Value.okWide P w .any base t v)
    (h:DataW.Trod enc P w 0 (fun _=>true) true t v d p):∃ a:α,V w v a :=
  openV (fun _ => aggCells hv) (fun h => by rw [hb] at h; cases h) h
theorem ownTry:ownKnob Tryz.prog.godebug=none:=by kernel_rfl
theorem kidsTry:Kids Tryz.prog (· < Tryz.prog.types.size):=kids_rows (by kernel_rfl) (by kernel_rfl)
theorem fullTry:∀ t e,t < Tryz.prog.types.size→Tryz.prog.underlying t=some (.slice e)→0 < Tryz.prog.cellsOf e:=slices_full_of Tryz.prog (by kernel_rfl)
theorem readAgain {H:Type} {enc:TypeId×Value→H} {W W':World} (hE:Ext W W') {sp:Nat→Bool}:∀ {ts:List TypeId} {vs:List Value} {ds:List (DataW H)} {ps:List MemPlace},(∀ t∈ts,t < Tryz.prog.types.size) →
    DataW.TrodAll enc Tryz.prog W 0 (fun _=>true) true ts vs ds ps→(∀ p∈ps,sp p.block=true)→DataW.TrodAll enc Tryz.prog W' 0 sp true ts vs ds ps
  | [],_,_,_,_,h,_=>by
    obtain ⟨rfl,rfl,rfl⟩:=trodAll_nil h
    exact rfl
  | t :: ts,_,_,_,ht,h,hs=>by
    obtain ⟨v,vs1,d,ds1,a,b,rfl,rfl,rfl,⟨n,h1⟩,h2⟩:=trodAll_cons h
    refine ⟨a,b,⟨n,DataW.trod_stays kidsTry (fun {t e}=>fullTry t e) (fun h=>by cases h) (ht t List.mem_cons_self) h1 (fun p hp=>hE.same (DataW.trod_lt n _ _ _ h1 p hp)) (fun p hp=>hs p (List.mem_append_left _ hp))⟩,
      readAgain hE (fun t' ht'=>ht t' (List.mem_cons_of_mem _ ht')) h2 (fun p hp=>hs p (List.mem_append_right _ hp)),rfl⟩
set_option maxRecDepth 100000 in
theorem lawPost {H:Type} {enc:TypeId×Value→H} {f:FuncId} {fn:Func} {s:ChangeSpec} {again:Bool} {W:World} {args:Array Value} {ds gs:List (DataW H)} {before:List MemPlace}
    (hvars:s.vars=[]) (hrt:fn.resultTypes=#[4]) (hpt:∀ t∈fn.params.toList,t < Tryz.prog.types.size) (hW:DataW.Whole enc Tryz.prog fn.params.toList s.vars false W args.toList ds gs before)
    (hs:∀ p,DataW.TrodAll enc Tryz.prog W 0 (fun _=>true) true fn.params.toList args.toList ds p→s.fn H (ds ++ [])={ results:=[.lit (.bool true)],args:=ds })
    (hc:∀ p,DataW.TrodAll enc Tryz.prog W 0 (fun _=>true) true fn.params.toList args.toList ds p→Fn Tryz.prog f args.toList W fun v w'=>v=.bool true∧Ext W w') :
    Calls Tryz.prog f args W fun e W'=>∃ v,e=.returned v∧s.post enc Tryz.prog fn false true false again W args v W':=by
  have hW':=hW
  obtain ⟨p,q,hA,hV,rfl,hfz,hnd⟩:=hW
  rw [hvars] at hV
  obtain ⟨rfl,rfl⟩:=trodVars_none hV
  have h1:=hc p hA W.drawn
  rw [Qy] at h1
  refine h1.mono fun e W' ⟨v,w₀,d',he,hw,hv,hE⟩=>?_
  subst he;subst hv
  refine ⟨_,rfl,?_⟩
  have hE':Ext W W':=by
    subst hw
    exact ⟨hE.os,hE.tape,hE.output,hE.size,hE.block⟩
  clear hE h1 hw
  have hsp:=hs p hA
  have hlt:=hW'.lt
  have hold:∀ q∈p ++ [],(fun b=>decide (b < W.heap.size)) q.block=true:=fun q hq=>by simpa using hlt q hq
  have hargs:∀ sp:Nat→Bool,(∀ q∈p,sp q.block=true)→DataW.TrodAll enc Tryz.prog W' 0 sp true fn.params.toList args.toList ds p:=fun sp h=>readAgain hE' hpt hA h
  have hres:∀ (b:Nat) (sp:Nat→Bool) (hd:Bool),DataW.TrodAll enc Tryz.prog W' b sp hd fn.resultTypes.toList ((Value.bool true).resultList fn.resultTypes.size) [.lit (.bool true)] []:=fun _ _ _=>by
    rw [hrt];exact trodAll_mk1 (shut_bool Tryz.underlying4 _)
  have hk:W.keptBut W' (fun q=>q∈p ++ []∧(q∈([]:List MemPlace)∨q∈p∨q∈([]:List MemPlace))):=Below.frame hE' _
  have hok:∀ (j:Nat) (t:TypeId) (r:Value),fn.resultTypes[j]?=some t→((Value.bool true).resultList fn.resultTypes.size)[j]?=some r→Value.okWide Tryz.prog W' .any 0 t r:=by
    have h0:Value.okWide Tryz.prog W' .any 0 4 (.bool true):=okWide_bool_mk Tryz.underlying4 true
    have h2:(Value.bool true).resultList 1=[Value.bool true]:=by unfold Value.resultList;rfl
    exact ok_one (P:=Tryz.prog) (W':=W') (f:=fn) (v:=.bool true) (t:=4) hrt h2 h0
  refine ⟨ds,[],p ++ [],[],p,[],hW',?_,?_,?_,hk,fun _=>⟨hok,[.lit (.bool true)] ++ ds,[],([] ++ p) ++ [],⟨[] ++ p,[],?_,?_,rfl,?_,?_⟩,?_⟩⟩
  · rw [hsp];exact hres _ _ _
  · rw [hsp];exact hargs _ (fun q hq=>hold q (by simpa using hq))
  · rw [hsp,hvars];rfl
  · exact trodAll_append (hargs _ (fun _ _=>rfl)) (hres _ _ _)
  · rw [hvars];rfl
  · intro b off hp
    have hp':MemPlace.cell b off∈p ++ []:=by simpa using hp
    rw [hE'.frozen (p:=⟨b,off,none⟩) (hlt _ hp')]
    exact hfz b off hp'
  · intro ha;cases ha
  · intro q hq _;simpa using hq
end
section
open Go Go.RowKit
attribute [local irreducible] ewp owp hwp hwq Ev Evg Fn retPost Res1
noncomputable def Dc (x0:Tsk):Option (Swp×Err) :=
  bnd (BE x0 ([]:List Swp)) fun q29=>if q29.n≠0 then (some ((⟨([]:List Int),([]:List (List Int)),([]:List Int)⟩:Swp),(⟨q29.n⟩:Err))) else (bnd (CV (x0.vars.length:Int)) fun q40=>bnd (CV (x0.ops.length:Int)) fun q42=>bnd (some (q40,q42):Option ((List Int)×(List Int))) fun y44=>bnd (rng (ρ:=Swp×Err) (fun (k121:Nat) (a122:Int) (s119:(List (List Int)))=>bnd (CV a122) fun q144=>bnd (appI 24 s119 [q144]) fun u159=>some (.next u159)) x0.vars 0 ([]:List (List Int))) fun res117=>fin res117 fun (s176:(List (List Int)))=>some ((⟨y44.1,s176,y44.2⟩:Swp),(⟨0⟩:Err)))
theorem HY {w:World} {A:Nat→Prop} (hA:∀ k,A k→k < w.heap.size) {vx0:Value} {x0:Tsk} (z2:Vb w A vx0 x0) {r:Swp×Err} (hm:Dc x0=some r) :
    Fn Tryz.prog 11 [vx0] w fun v w'=>Ext w w'∧T2 w' (upA A w w') v r:=by
 obtain ⟨O,hB,o4⟩:=enter hA
 replace z2:=z2.mono o4
 obtain ⟨a6,rfl,v3,v4,v5,v6,rfl,h7,t0,u0,p0⟩:=z2
 obtain ⟨A8,c9,rfl⟩:=h7.form
 obtain ⟨p2,q2,rfl⟩:=t0.form
 obtain ⟨r2,s2,rfl⟩:=u0.form
 obtain ⟨t2,u2,rfl⟩:=p0.form
 refine AP Tryz.func11 rfl Tryz.ntmps11 rfl ?_
 unfold Dc at hm
 refine Ab (Aa (BC 2 O rfl rfl fun a3 p4 u3 z0 m0=>?_))
 replace m0:Lc 2 p4 u3 a3 30 [(.slice A8 x0.vars.length c9),(.slice p2 x0.init.length q2),(.slice r2 x0.goal.length s2),(.slice t2 x0.ops.length u2)]:=m0
 refine Bd 3 u3 rfl fun k1 w3 x3 v0 c0=>?_
 refine Am rfl rfl (o_z ?_)
 refine Ab (Ab (Aa ?_))
 replace m0:=m0.st v0
 refine Ba (hl:=rfl) (hc:=(m0.1).cellsAt) rfl rfl ?_
 obtain ⟨q4,r4,hm⟩:=bs hm
 replace h7:=(h7.st z0).st v0
 replace t0:=(t0.st z0).st v0
 replace u0:=(u0.st z0).st v0
 replace p0:=(p0.st z0).st v0
 refine Bf (O:=x3) (A:=All w3) (R:=fun w' F v=>Vb w' F v q4) (Ec (fun _ h=>h) (Vb.mono (F:=Fr 0 w3 x3) (Vb.ofAgg (cs:=[(.slice A8 x0.vars.length c9),(.slice p2 x0.init.length q2),(.slice r2 x0.goal.length s2),(.slice t2 x0.ops.length u2)]) (x:=x0) rfl ⟨_,_,_,_,rfl,h7,t0,u0,p0⟩) Fr.lt) (Vb.nil _ _) r4) rfl rfl fun b6 c6 u1 e0 s4=>?_
 obtain ⟨rfl,t4⟩:=s4.err
 refine Am rfl rfl (o_z ?_)
 refine Ab (Aa (Aj rfl rfl (GS rfl rfl (fun b3=>?_) fun b3=>?_)))
 ·
  replace hm:=ip hm b3
  refine o_z ?_
  refine Ah rfl (Ab (Aa (EH rfl rfl rfl ?_)))
  refine Aj rfl rfl ?_
  replace c0:=c0.st e0
  refine AD c0 rfl rfl rfl (AU rfl) (allOne rfl) fun y3 u4 c0=>?_
  replace c0:Lc 3 y3 u1 k1 43 [(.slice none 0 0),(.slice none 0 0),(.slice none 0 0)]:=c0
  refine Am rfl rfl (o_z ?_)
  refine AF ?_
  obtain rfl:=sm hm
  replace hB:=(((hB.st z0).st v0).st e0).st u4
  exact ret2 rfl (CK (cs:=[(.slice none 0 0),(.slice none 0 0),(.slice none 0 0)]) rfl rfl c0.1.cellsAt) (AC rfl) ⟨hB.ext,_,_,rfl,(Vb.mono (F:=Fr 0 y3 u1) (Vb.ofAgg (cs:=[(.slice none 0 0),(.slice none 0 0),(.slice none 0 0)]) (x:=(⟨([]:List Int),([]:List (List Int)),([]:List Int)⟩:Swp)) rfl ⟨_,_,_,rfl,(Vb.nil _ _),(Vb.nil _ _),(Vb.nil _ _)⟩) hB.out),(vErr t4)⟩
 replace hm:=im hm b3
 refine o_z ?_
 refine Ae rfl (AI (Ab ?_))
 obtain ⟨v1,z3,hm⟩:=bs hm
 obtain ⟨t1,c3,hm⟩:=bs hm
 obtain ⟨b0,n1,hm⟩:=bs hm
 refine Ax (fun l' w'=>∃ (a0:Nat×(Option Addr×Nat)×(Option Addr×Nat)) (O':Lab),subs l' [(1,(.pointer (some ⟨a3,0,none⟩))),(2,(.pointer (some ⟨k1,0,none⟩))),(5,(.pointer (some ⟨a0.1,0,none⟩)))]∧Bs w A w' O'∧Lc 2 w' O' a3 30 [(.slice A8 x0.vars.length c9),(.slice p2 x0.init.length q2),(.slice r2 x0.goal.length s2),(.slice t2 x0.ops.length u2)]∧Vb w' (Fr 0 w' O') (.slice A8 x0.vars.length c9) x0.vars∧Vb w' (Fr 0 w' O') (.slice p2 x0.init.length q2) x0.init∧Vb w' (Fr 0 w' O') (.slice r2 x0.goal.length s2) x0.goal∧Vb w' (Fr 0 w' O') (.slice t2 x0.ops.length u2) x0.ops∧Lc 3 w' O' k1 43 [(.slice none 0 0),(.slice none 0 0),(.slice none 0 0)]∧Lc 4 w' O' a0.1 43 [(.slice a0.2.1.1 b0.1.length a0.2.1.2),(.slice none 0 0),(.slice a0.2.2.1 b0.2.length a0.2.2.2)]∧Vb w' (Fr 0 w' O') (.slice a0.2.1.1 b0.1.length a0.2.1.2) b0.1∧Vb w' (Fr 0 w' O') (.slice a0.2.2.1 b0.2.length a0.2.2.2) b0.2) ?_ ?_
 ·
  refine Bc [] u1 ?_
  refine Az (fuel:=5) [] [(0,true),(1,true),(2,true),(4,true),(5,true),(6,true)] (by kernel_rfl) rfl ?_
  refine AM rfl rfl rfl ?_
  replace m0:=m0.st e0
  refine AK (hc:=fun w' ⟨O',hq⟩=>Blk.cell (i:=0) ((m0.st hq (by decide)).1) rfl) rfl rfl rfl ?_
  refine Hx rfl rfl rfl ?_
  replace h7:=h7.st e0
  have w4:x0.vars.length≤9223372036854775807:=Nat.le_trans h7.len.2.1 h7.len.2.2
  have a4:inI64 (x0.vars.length:Int):=rngNat w4
  refine AM rfl rfl rfl (AK (hc:=fun w' ⟨O',hq⟩=>Blk.cell (i:=3) ((m0.st hq (by decide)).1) rfl) rfl rfl rfl ?_)
  refine Hx rfl rfl rfl ?_
  replace p0:=p0.st e0
  have x4:x0.ops.length≤9223372036854775807:=Nat.le_trans p0.len.2.1 p0.len.2.2
  have d3:inI64 (x0.ops.length:Int):=rngNat x4
  refine As ?_
  refine Dk (i:=3) (j:=9) (by kernel_rfl) rfl rfl ?_ ?_
  ·
   refine BQ (O:=u1) (R:=fun w' F v=>Vb w' F v v1) (Du Fr.lt a4 z3) rfl rfl fun d6 e6 b4 n0 e3=>?_
   obtain ⟨v2,w2,rfl⟩:=e3.form
   have hZ:=n0.lst [] (fun _ h=>h.elim)
   refine Ay [] hZ (by kernel_rfl) ?_
   refine Dk (i:=7) (j:=9) (by kernel_rfl) rfl rfl ?_ ?_
   ·
    refine BQ (O:=b4) (R:=fun w' F v=>Vb w' F v t1) (Du Fr.lt d3 c3) rfl rfl fun f6 g6 y4 a1 c4=>?_
    obtain ⟨d4,e4,rfl⟩:=c4.form
    have hZ:=a1.lst [] (fun _ h=>h.elim)
    refine Ay [] hZ (by kernel_rfl) ?_
    refine Az (fuel:=2) [] [(8,true)] (by kernel_rfl) rfl ?_
    refine Ft rfl rfl rfl rfl ?_
    refine As ?_
    refine Au (i:=9) (by kernel_rfl) rfl ?_
    refine Bd 4 y4 rfl fun f4 h6 z4 w0 w1=>?_
    have hZ:=w0.lst [] (fun _ h=>h.elim)
    refine Ay [] hZ (by kernel_rfl) ?_
    refine Au (i:=10) (by kernel_rfl) rfl ?_
    refine AD w1 rfl rfl rfl (AU rfl) (allOne rfl) fun a5 b1 w1=>?_
    replace w1:Lc 4 a5 z4 f4 43 [(.slice v2 v1.length w2),(.slice none 0 0),(.slice d4 t1.length e4)]:=w1
    refine BK (by kernel_rfl) ?_
    refine AZ (by kernel_rfl) ?_
    obtain rfl:=sm n1
    exact ⟨(f4,(v2,w2),(d4,e4)),_,⟨rfl,rfl,rfl,trivial⟩,((((((hB.st z0).st v0).st e0).st n0).st a1).st w0).st b1,(((m0.st n0).st a1).st w0).st b1,(((h7.st n0).st a1).st w0).st b1,((((t0.st e0).st n0).st a1).st w0).st b1,((((u0.st e0).st n0).st a1).st w0).st b1,(((p0.st n0).st a1).st w0).st b1,((((c0.st e0).st n0).st a1).st w0).st b1,w1,((e3.st a1).st w0).st b1,(c4.st w0).st b1⟩
   refine Bd 4 b4 rfl fun g4 i6 b5 c1 o1=>?_
   have hZ:=c1.lst [] (fun _ h=>h.elim)
   refine Ay [] hZ (by kernel_rfl) ?_
   refine Au (i:=7) (by kernel_rfl) rfl ?_
   refine BQ (O:=b5) (R:=fun w' F v=>Vb w' F v t1) (Du Fr.lt d3 c3) rfl rfl fun j6 k6 c5 y0 h4=>?_
   obtain ⟨i4,j4,rfl⟩:=h4.form
   have hZ:=y0.lst [] (fun _ h=>h.elim)
   refine Ay [] hZ (by kernel_rfl) ?_
   refine Az (fuel:=1) [] [(8,true)] (by kernel_rfl) rfl ?_
   refine Ft rfl rfl rfl rfl ?_
   refine As ?_
   refine Au (i:=10) (by kernel_rfl) rfl ?_
   replace o1:=o1.st y0
   refine AD o1 rfl rfl rfl (AU rfl) (allOne rfl) fun d5 d1 o1=>?_
   replace o1:Lc 4 d5 c5 g4 43 [(.slice v2 v1.length w2),(.slice none 0 0),(.slice i4 t1.length j4)]:=o1
   refine BK (by kernel_rfl) ?_
   refine AZ (by kernel_rfl) ?_
   obtain rfl:=sm n1
   exact ⟨(g4,(v2,w2),(i4,j4)),_,⟨rfl,rfl,rfl,trivial⟩,((((((hB.st z0).st v0).st e0).st n0).st c1).st y0).st d1,(((m0.st n0).st c1).st y0).st d1,(((h7.st n0).st c1).st y0).st d1,((((t0.st e0).st n0).st c1).st y0).st d1,((((u0.st e0).st n0).st c1).st y0).st d1,(((p0.st n0).st c1).st y0).st d1,((((c0.st e0).st n0).st c1).st y0).st d1,o1,((e3.st c1).st y0).st d1,h4.st d1⟩
  refine Bd 4 u1 rfl fun k4 l6 e5 l1 p1=>?_
  have hZ:=l1.lst [] (fun _ h=>h.elim)
  refine Ay [] hZ (by kernel_rfl) ?_
  refine Au (i:=3) (by kernel_rfl) rfl ?_
  refine BQ (O:=e5) (R:=fun w' F v=>Vb w' F v v1) (Du Fr.lt a4 z3) rfl rfl fun m6 n6 f5 e1 l4=>?_
  obtain ⟨x1,y1,rfl⟩:=l4.form
  have hZ:=e1.lst [] (fun _ h=>h.elim)
  refine Ay [] hZ (by kernel_rfl) ?_
  refine Au (i:=7) (by kernel_rfl) rfl ?_
  refine BQ (O:=f5) (R:=fun w' F v=>Vb w' F v t1) (Du Fr.lt d3 c3) rfl rfl fun g5 h5 f3 g0 z1=>?_
  obtain ⟨a2,b2,rfl⟩:=z1.form
  have hZ:=g0.lst [] (fun _ h=>h.elim)
  refine Ay [] hZ (by kernel_rfl) ?_
  refine Az (fuel:=1) [] [(8,true)] (by kernel_rfl) rfl ?_
  refine Ft rfl rfl rfl rfl ?_
  refine As ?_
  refine Au (i:=10) (by kernel_rfl) rfl ?_
  replace p1:=(p1.st e1).st g0
  refine AD p1 rfl rfl rfl (AU rfl) (allOne rfl) fun g3 i0 p1=>?_
  replace p1:Lc 4 g3 f3 k4 43 [(.slice x1 v1.length y1),(.slice none 0 0),(.slice a2 t1.length b2)]:=p1
  refine BK (by kernel_rfl) ?_
  refine AZ (by kernel_rfl) ?_
  obtain rfl:=sm n1
  exact ⟨(k4,(x1,y1),(a2,b2)),_,⟨rfl,rfl,rfl,trivial⟩,((((((hB.st z0).st v0).st e0).st l1).st e1).st g0).st i0,(((m0.st l1).st e1).st g0).st i0,(((h7.st l1).st e1).st g0).st i0,((((t0.st e0).st l1).st e1).st g0).st i0,((((u0.st e0).st l1).st e1).st g0).st i0,(((p0.st l1).st e1).st g0).st i0,((((c0.st e0).st l1).st e1).st g0).st i0,p1,(l4.st g0).st i0,z1.st i0⟩
 replace hB:=((hB.st z0).st v0).st e0
 replace h7:=h7.st e0
 replace t0:=t0.st e0
 replace u0:=u0.st e0
 replace p0:=p0.st e0
 replace m0:=m0.st e0
 replace c0:=c0.st e0
 rintro i5 j5 ⟨a0,h3,c2,hB,m0,h7,t0,u0,p0,c0,q0,f1,g1⟩
 refine AE _ c2 ?_
 refine Ab (Ab (Aa (AS rfl rfl (AJ (hc:=Blk.cell (i:=0) (m0.1) rfl) rfl rfl ?_))))
 refine AX rfl rfl ?_
 have q1:x0.vars.length≤9223372036854775807:=Nat.le_trans h7.len.2.1 h7.len.2.2
 have k5:inI64 (x0.vars.length:Int):=rngNat q1
 refine Aj rfl rfl (o_z ?_)
 obtain ⟨r1,d2,hm⟩:=bs hm
 refine Ax (aft r1 (fun (h0:(List (List Int))) (d0:(Option Addr×Nat))=>[(2,(.pointer (some ⟨k1,0,none⟩))),(5,(.pointer (some ⟨a0.1,0,none⟩)))]) (fun h0 d0 w'=>∃ O':Lab,Bs w A w' O'∧Lc 3 w' O' k1 43 [(.slice none 0 0),(.slice none 0 0),(.slice none 0 0)]∧Lc 4 w' O' a0.1 43 [(.slice a0.2.1.1 b0.1.length a0.2.1.2),(.slice d0.1 h0.length d0.2),(.slice a0.2.2.1 b0.2.length a0.2.2.2)]∧Vb w' (Fr 0 w' O') (.slice a0.2.1.1 b0.1.length a0.2.1.2) b0.1∧Rw 6 w' O' 24 (.slice d0.1 h0.length d0.2) h0∧Vb w' (Fr 0 w' O') (.slice a0.2.2.1 b0.2.length a0.2.2.2) b0.2)) ?_ ?_
 ·
  refine AG (Bk (σ:=(List (List Int))) (X:=(Option Addr×Nat)) (x0.vars.length) d2 rfl q1 (fun (h0:(List (List Int))) (d0:(Option Addr×Nat))=>[(2,(.pointer (some ⟨k1,0,none⟩))),(5,(.pointer (some ⟨a0.1,0,none⟩))),(24,(.slice A8 x0.vars.length c9))]) _ (fun h0 d0 w'=>∃ O':Lab,Bs w A w' O'∧Lc 3 w' O' k1 43 [(.slice none 0 0),(.slice none 0 0),(.slice none 0 0)]∧Lc 4 w' O' a0.1 43 [(.slice a0.2.1.1 b0.1.length a0.2.1.2),(.slice d0.1 h0.length d0.2),(.slice a0.2.2.1 b0.2.length a0.2.2.2)]∧Vb w' (Fr 0 w' O') (.slice a0.2.1.1 b0.1.length a0.2.1.2) b0.1∧Rw 6 w' O' 24 (.slice d0.1 h0.length d0.2) h0∧Vb w' (Fr 0 w' O') (.slice a0.2.2.1 b0.2.length a0.2.2.2) b0.2∧Vb w' (Fr 0 w' O') (.slice A8 x0.vars.length c9) x0.vars) _ (none,0) ⟨h3,hB,c0,q0,f1,(Rw.nil 6 (by decide)),g1,h7⟩ ⟨rfl,rfl,rfl,rfl,rfl,trivial⟩ (fun _ _=>⟨rfl,rfl⟩) (fun _ _=>⟨rfl,rfl,trivial⟩) (fun _ _ _ ⟨O',hB,c0,q0,f1,f0,g1,h7⟩=>⟨O',hB,c0,q0,f1,f0,g1⟩) ⟨rfl,rfl,rfl⟩ ⟨rfl,rfl⟩ ?_)
  rintro i3 l5 h0 d0 m5 m4 m1 ⟨e2,hB,c0,q0,f1,f0,g1,h7⟩ j0 x2 y2
  have rk121:inI64 (i3:Int):=rngK m1 q1
  refine Ab (Aa ?_)
  obtain ⟨n5,o5,n4,f2,g2,h2,rfl,j3⟩:=h7.elem' m1
  refine Bv (hA:=f2) (hj:=rfl) (hlt:=g2) rfl rfl rfl ?_
  refine AJ (hc:=cat0 h2) rfl rfl ?_
  refine Am rfl rfl (o_z ?_)
  refine Bc [(5,[6])] e2 ?_
  refine Az (fuel:=5) [] [(0,true),(1,true),(2,true)] (by kernel_rfl) rfl ?_
  refine AM rfl rfl rfl (AK (hc:=fun w' ⟨O',hq⟩=>Blk.cell (i:=1) ((q0.st hq (by decide)).1) rfl) rfl rfl rfl ?_)
  refine AH rfl rfl rfl (As ?_)
  refine Au (i:=3) (by kernel_rfl) rfl ?_
  obtain ⟨i2,k3,j0⟩:=bs j0
  refine BQ (O:=e2) (R:=fun w' F v=>Vb w' F v i2) (Du Fr.lt j3 k3) rfl rfl fun p5 q5 l3 k0 j2=>?_
  obtain ⟨r5,s5,rfl⟩:=j2.form
  have hZ:=k0.lst [] (fun _ h=>h.elim)
  refine Ay [(5,[6])] hZ (by kernel_rfl) ?_
  refine Au (i:=4) (by kernel_rfl) rfl ?_
  refine Bi 5 (by decide) l3 (xs:=([i2]:List (List Int))) rfl rfl rfl rfl ⟨j2,trivial⟩ (by decide) (by decide) rfl fun t5 u5 w5 l0 m3=>?_
  have hZ:=l0.lst [] (fun _ h=>h.elim)
  refine Ay [(5,[6])] hZ (by kernel_rfl) ?_
  refine Au (i:=5) (by kernel_rfl) rfl ?_
  obtain ⟨n3,s1,j0⟩:=bs j0
  obtain ⟨s1,o3,p3⟩:=AT s1
  replace f0:=(f0.st k0).st l0
  refine BP rfl f0 (m3.rd) rfl rfl (by decide) o3 p3 rfl fun k2 l2 x5 q3 o0 m2=>?_
  rw [← s1] at m2 ⊢
  have hZ:=o0.lst [6] (fun _ h=>by cases h;decide)
  refine Ay [] hZ (by kernel_rfl) ?_
  refine Az (fuel:=1) [] [(6,true)] (by kernel_rfl) rfl ?_
  refine AM rfl rfl rfl (As ?_)
  refine Au (i:=7) (by kernel_rfl) rfl ?_
  replace q0:=((q0.st k0).st l0).st o0
  refine AD q0 rfl rfl rfl (AU rfl) (allOne rfl) fun r3 r0 q0=>?_
  replace q0:Lc 4 r3 q3 a0.1 43 [(.slice a0.2.1.1 b0.1.length a0.2.1.2),(.slice k2 n3.length l2),(.slice a0.2.2.1 b0.2.length a0.2.2.2)]:=q0
  refine BK (by kernel_rfl) ?_
  refine AZ (by kernel_rfl) ?_
  obtain rfl:=sm j0
  exact show Exists _ from ⟨_,(k2,l2),rfl,⟨rfl,rfl,rfl,rfl,rfl,trivial⟩,_,(((hB.st k0).st l0).st o0).st r0,(((c0.st k0).st l0).st o0).st r0,q0,(((f1.st k0).st l0).st o0).st r0,m2.st r0,(((g1.st k0).st l0).st o0).st r0,(((h7.st k0).st l0).st o0).st r0⟩
 rintro y5 z5 ⟨h1,s0,rfl,n2,s3,hB,c0,q0,f1,f0,g1⟩
 replace hm:=AV hm
 refine AE _ n2 ?_
 refine Ab (Aa (Ba (hl:=rfl) (hc:=(q0.1).cellsAt) rfl rfl ?_))
 refine AD c0 rfl rfl rfl (AU rfl) (allOne rfl) fun o2 i1 c0=>?_
 replace c0:Lc 3 o2 s3 k1 43 [(.slice a0.2.1.1 b0.1.length a0.2.1.2),(.slice s0.1 h1.length s0.2),(.slice a0.2.2.1 b0.2.length a0.2.2.2)]:=c0
 refine Am rfl rfl (o_z ?_)
 refine AF ?_
 replace f0:=f0.st i1
 obtain ⟨t3,j1,f0⟩:=f0.freeze
 obtain rfl:=sm hm
 replace hB:=(hB.st i1).st j1
 replace c0:=c0.st j1
 replace f1:=(f1.st i1).st j1
 replace g1:=(g1.st i1).st j1
 exact ret2 rfl (CK (cs:=[(.slice a0.2.1.1 b0.1.length a0.2.1.2),(.slice s0.1 h1.length s0.2),(.slice a0.2.2.1 b0.2.length a0.2.2.2)]) rfl rfl c0.1.cellsAt) (AC rfl) ⟨hB.ext,_,_,rfl,(Vb.mono (F:=Fr 0 o2 t3) (Vb.ofAgg (cs:=[(.slice a0.2.1.1 b0.1.length a0.2.1.2),(.slice s0.1 h1.length s0.2),(.slice a0.2.2.1 b0.2.length a0.2.2.2)]) (x:=(⟨b0.1,h1,b0.2⟩:Swp)) rfl ⟨_,_,_,rfl,f1,f0,g1⟩) hB.out),(vErr (show inI64 0 from by decide))⟩
noncomputable def Cz (x0:Tsk) (x1:Swp) (x2:Swp):Option (Swp×Err) :=
  bnd (BE x0 [x1,x2]) fun q73=>if q73.n≠0 then (some ((⟨([]:List Int),([]:List (List Int)),([]:List Int)⟩:Swp),(⟨q73.n⟩:Err))) else (bnd (CM x1.vars x2.vars) fun q84=>bnd (CM x1.ops x2.ops) fun q86=>bnd (some (q84,q86):Option ((List Int)×(List Int))) fun y88=>bnd (rng (ρ:=Swp×Err) (fun (k161:Nat) (a162:List Int) (s159:(List (List Int)))=>bnd (x1.vars[k161]?) fun a187=>bnd (atI x2.vals a187) fun a197=>bnd (CM a162 a197) fun q212=>bnd (appI 24 s159 [q212]) fun u227=>some (.next u227)) x1.vals 0 ([]:List (List Int))) fun res157=>fin res157 fun (s244:(List (List Int)))=>some ((⟨y88.1,s244,y88.2⟩:Swp),(⟨0⟩:Err)))
theorem FU {w:World} {A:Nat→Prop} (hA:∀ k,A k→k < w.heap.size) {vx0:Value} {x0:Tsk} (o4:Vb w A vx0 x0) {vx1:Value} {x1:Swp} (p4:Vb w A vx1 x1) {vx2:Value} {x2:Swp} (q4:Vb w A vx2 x2) {r:Swp×Err} (hm:Cz x0 x1 x2=some r) :
    Fn Tryz.prog 15 [vx0,vx1,vx2] w fun v w'=>Ext w w'∧T2 w' (upA A w w') v r:=by
 obtain ⟨O,hB,r4⟩:=enter hA
 replace o4:=o4.mono r4
 obtain ⟨u8,rfl,v5,v6,v7,v8,rfl,h9,j4,k4,l4⟩:=o4
 obtain ⟨w5,x5,rfl⟩:=h9.form
 obtain ⟨y5,z5,rfl⟩:=j4.form
 obtain ⟨a6,b6,rfl⟩:=k4.form
 obtain ⟨c6,d6,rfl⟩:=l4.form
 replace p4:=p4.mono r4
 obtain ⟨q6,rfl,w8,x8,y8,rfl,z0,g1,u0⟩:=p4
 obtain ⟨i2,j2,rfl⟩:=z0.form
 obtain ⟨c2,d2,rfl⟩:=g1.form
 obtain ⟨k2,l2,rfl⟩:=u0.form
 replace q4:=q4.mono r4
 obtain ⟨r6,rfl,z8,a9,b9,rfl,d1,j1,v0⟩:=q4
 obtain ⟨m2,n2,rfl⟩:=d1.form
 obtain ⟨o2,p2,rfl⟩:=j1.form
 obtain ⟨q2,r2,rfl⟩:=v0.form
 refine AP Tryz.func15 rfl Tryz.ntmps15 rfl ?_
 unfold Cz at hm
 refine Ab (Aa (BC 2 O rfl rfl fun s6 t6 e6 k1 t2=>?_))
 replace t2:Lc 2 t6 e6 s6 30 [(.slice w5 x0.vars.length x5),(.slice y5 x0.init.length z5),(.slice a6 x0.goal.length b6),(.slice c6 x0.ops.length d6)]:=t2
 refine BC 3 e6 rfl rfl fun u2 u6 f6 i1 a1=>?_
 replace a1:Lc 3 u6 f6 u2 43 [(.slice i2 x1.vars.length j2),(.slice c2 x1.vals.length d2),(.slice k2 x1.ops.length l2)]:=a1
 refine BC 4 f6 rfl rfl fun v2 w6 g6 h1 e1=>?_
 replace e1:Lc 4 w6 g6 v2 43 [(.slice m2 x2.vars.length n2),(.slice o2 x2.vals.length p2),(.slice q2 x2.ops.length r2)]:=e1
 refine Bd 5 g6 rfl fun a2 c9 x6 f1 m0=>?_
 refine Am rfl rfl (o_z ?_)
 refine Ab (Ab (Aa ?_))
 replace t2:=((t2.st i1).st h1).st f1
 refine Ba (hl:=rfl) (hc:=(t2.1).cellsAt) rfl rfl ?_
 replace a1:=(a1.st h1).st f1
 refine Ba (hl:=rfl) (hc:=(a1.1).cellsAt) rfl rfl ?_
 replace e1:=e1.st f1
 refine Ba (hl:=rfl) (hc:=(e1.1).cellsAt) rfl rfl ?_
 replace z0:=(((z0.st k1).st i1).st h1).st f1
 replace g1:=(((g1.st k1).st i1).st h1).st f1
 replace u0:=(((u0.st k1).st i1).st h1).st f1
 replace d1:=(((d1.st k1).st i1).st h1).st f1
 replace j1:=(((j1.st k1).st i1).st h1).st f1
 replace v0:=(((v0.st k1).st i1).st h1).st f1
 refine Bi 6 (by decide) x6 (xs:=([x1,x2]:List Swp)) rfl rfl rfl rfl ⟨(Vb.ofAgg (cs:=[(.slice i2 x1.vars.length j2),(.slice c2 x1.vals.length d2),(.slice k2 x1.ops.length l2)]) (x:=x1) rfl ⟨_,_,_,rfl,z0,g1,u0⟩),(Vb.ofAgg (cs:=[(.slice m2 x2.vars.length n2),(.slice o2 x2.vals.length p2),(.slice q2 x2.ops.length r2)]) (x:=x2) rfl ⟨_,_,_,rfl,d1,j1,v0⟩),trivial⟩ (by decide) (by decide) rfl fun d9 h6 i6 b0 y6=>?_
 obtain ⟨z6,a7,hm⟩:=bs hm
 replace h9:=((((h9.st k1).st i1).st h1).st f1).st b0
 replace j4:=((((j4.st k1).st i1).st h1).st f1).st b0
 replace k4:=((((k4.st k1).st i1).st h1).st f1).st b0
 replace l4:=((((l4.st k1).st i1).st h1).st f1).st b0
 refine Bf (O:=i6) (A:=All h6) (R:=fun w' F v=>Vb w' F v z6) (Ec (fun _ h=>h) (Vb.mono (F:=Fr 0 h6 i6) (Vb.ofAgg (cs:=[(.slice w5 x0.vars.length x5),(.slice y5 x0.init.length z5),(.slice a6 x0.goal.length b6),(.slice c6 x0.ops.length d6)]) (x:=x0) rfl ⟨_,_,_,_,rfl,h9,j4,k4,l4⟩) Fr.lt) (y6).all a7) rfl rfl fun e9 f9 w2 c0 b7=>?_
 obtain ⟨rfl,c7⟩:=b7.err
 refine Am rfl rfl (o_z ?_)
 refine Ab (Aa (Aj rfl rfl (GS rfl rfl (fun s4=>?_) fun s4=>?_)))
 ·
  replace hm:=ip hm s4
  refine o_z ?_
  refine Ah rfl (Ab (Aa (EH rfl rfl rfl ?_)))
  refine Aj rfl rfl ?_
  replace m0:=(m0.st b0).st c0
  refine AD m0 rfl rfl rfl (AU rfl) (allOne rfl) fun j6 d7 m0=>?_
  replace m0:Lc 5 j6 w2 a2 43 [(.slice none 0 0),(.slice none 0 0),(.slice none 0 0)]:=m0
  refine Am rfl rfl (o_z ?_)
  refine AF ?_
  obtain rfl:=sm hm
  replace hB:=((((((hB.st k1).st i1).st h1).st f1).st b0).st c0).st d7
  exact ret2 rfl (CK (cs:=[(.slice none 0 0),(.slice none 0 0),(.slice none 0 0)]) rfl rfl m0.1.cellsAt) (AC rfl) ⟨hB.ext,_,_,rfl,(Vb.mono (F:=Fr 0 j6 w2) (Vb.ofAgg (cs:=[(.slice none 0 0),(.slice none 0 0),(.slice none 0 0)]) (x:=(⟨([]:List Int),([]:List (List Int)),([]:List Int)⟩:Swp)) rfl ⟨_,_,_,rfl,(Vb.nil _ _),(Vb.nil _ _),(Vb.nil _ _)⟩) hB.out),(vErr c7)⟩
 replace hm:=im hm s4
 refine o_z ?_
 refine Ae rfl (AI (Ab ?_))
 obtain ⟨y2,k6,hm⟩:=bs hm
 obtain ⟨s2,t4,hm⟩:=bs hm
 obtain ⟨h0,e2,hm⟩:=bs hm
 refine Ax (fun l' w'=>∃ (a0:Nat×(Option Addr×Nat)×(Option Addr×Nat)) (O':Lab),subs l' [(4,(.pointer (some ⟨u2,0,none⟩))),(5,(.pointer (some ⟨v2,0,none⟩))),(6,(.pointer (some ⟨a2,0,none⟩))),(9,(.pointer (some ⟨a0.1,0,none⟩)))]∧Bs w A w' O'∧Lc 3 w' O' u2 43 [(.slice i2 x1.vars.length j2),(.slice c2 x1.vals.length d2),(.slice k2 x1.ops.length l2)]∧Vb w' (Fr 0 w' O') (.slice i2 x1.vars.length j2) x1.vars∧Vb w' (Fr 0 w' O') (.slice c2 x1.vals.length d2) x1.vals∧Vb w' (Fr 0 w' O') (.slice k2 x1.ops.length l2) x1.ops∧Lc 4 w' O' v2 43 [(.slice m2 x2.vars.length n2),(.slice o2 x2.vals.length p2),(.slice q2 x2.ops.length r2)]∧Vb w' (Fr 0 w' O') (.slice m2 x2.vars.length n2) x2.vars∧Vb w' (Fr 0 w' O') (.slice o2 x2.vals.length p2) x2.vals∧Vb w' (Fr 0 w' O') (.slice q2 x2.ops.length r2) x2.ops∧Lc 5 w' O' a2 43 [(.slice none 0 0),(.slice none 0 0),(.slice none 0 0)]∧Lc 7 w' O' a0.1 43 [(.slice a0.2.1.1 h0.1.length a0.2.1.2),(.slice none 0 0),(.slice a0.2.2.1 h0.2.length a0.2.2.2)]∧Vb w' (Fr 0 w' O') (.slice a0.2.1.1 h0.1.length a0.2.1.2) h0.1∧Vb w' (Fr 0 w' O') (.slice a0.2.2.1 h0.2.length a0.2.2.2) h0.2) ?_ ?_
 ·
  refine Bc [] w2 ?_
  refine Az (fuel:=5) [] [(0,true),(1,true),(2,true),(3,true),(5,true),(6,true),(7,true),(8,true)] (by kernel_rfl) rfl ?_
  refine AM rfl rfl rfl ?_
  replace a1:=(a1.st b0).st c0
  refine AK (hc:=fun w' ⟨O',hq⟩=>Blk.cell (i:=0) ((a1.st hq (by decide)).1) rfl) rfl rfl rfl ?_
  refine AM rfl rfl rfl ?_
  replace e1:=(e1.st b0).st c0
  refine AK (hc:=fun w' ⟨O',hq⟩=>Blk.cell (i:=0) ((e1.st hq (by decide)).1) rfl) rfl rfl rfl ?_
  refine AM rfl rfl rfl (AK (hc:=fun w' ⟨O',hq⟩=>Blk.cell (i:=2) ((a1.st hq (by decide)).1) rfl) rfl rfl rfl ?_)
  refine AM rfl rfl rfl (AK (hc:=fun w' ⟨O',hq⟩=>Blk.cell (i:=2) ((e1.st hq (by decide)).1) rfl) rfl rfl rfl ?_)
  refine As ?_
  refine Dk (i:=4) (j:=11) (by kernel_rfl) rfl rfl ?_ ?_
  ·
   replace z0:=(z0.st b0).st c0
   replace d1:=(d1.st b0).st c0
   refine BQ (O:=w2) (R:=fun w' F v=>Vb w' F v y2) (Df Fr.lt z0 d1 k6) rfl rfl fun g9 i9 l6 b1 u4=>?_
   obtain ⟨q1,r1,rfl⟩:=u4.form
   have hZ:=b1.lst [] (fun _ h=>h.elim)
   refine Ay [] hZ (by kernel_rfl) ?_
   refine Dk (i:=9) (j:=11) (by kernel_rfl) rfl rfl ?_ ?_
   ·
    replace u0:=((u0.st b0).st c0).st b1
    replace v0:=((v0.st b0).st c0).st b1
    refine BQ (O:=l6) (R:=fun w' F v=>Vb w' F v s2) (Df Fr.lt u0 v0 t4) rfl rfl fun e7 f7 v4 n0 z2=>?_
    obtain ⟨a3,b3,rfl⟩:=z2.form
    have hZ:=n0.lst [] (fun _ h=>h.elim)
    refine Ay [] hZ (by kernel_rfl) ?_
    refine Az (fuel:=2) [] [(10,true)] (by kernel_rfl) rfl ?_
    refine Ft rfl rfl rfl rfl ?_
    refine As ?_
    refine Au (i:=11) (by kernel_rfl) rfl ?_
    refine Bd 7 v4 rfl fun c3 g7 w4 i0 p1=>?_
    have hZ:=i0.lst [] (fun _ h=>h.elim)
    refine Ay [] hZ (by kernel_rfl) ?_
    refine Au (i:=12) (by kernel_rfl) rfl ?_
    refine AD p1 rfl rfl rfl (AU rfl) (allOne rfl) fun x4 o0 p1=>?_
    replace p1:Lc 7 x4 w4 c3 43 [(.slice q1 y2.length r1),(.slice none 0 0),(.slice a3 s2.length b3)]:=p1
    refine BK (by kernel_rfl) ?_
    refine AZ (by kernel_rfl) ?_
    obtain rfl:=sm e2
    exact ⟨(c3,(q1,r1),(a3,b3)),_,⟨rfl,rfl,rfl,rfl,trivial⟩,(((((((((hB.st k1).st i1).st h1).st f1).st b0).st c0).st b1).st n0).st i0).st o0,(((a1.st b1).st n0).st i0).st o0,(((z0.st b1).st n0).st i0).st o0,(((((g1.st b0).st c0).st b1).st n0).st i0).st o0,((u0.st n0).st i0).st o0,(((e1.st b1).st n0).st i0).st o0,(((d1.st b1).st n0).st i0).st o0,(((((j1.st b0).st c0).st b1).st n0).st i0).st o0,((v0.st n0).st i0).st o0,(((((m0.st b0).st c0).st b1).st n0).st i0).st o0,p1,((u4.st n0).st i0).st o0,(z2.st i0).st o0⟩
   refine Bd 7 l6 rfl fun d3 h7 y4 p0 l1=>?_
   have hZ:=p0.lst [] (fun _ h=>h.elim)
   refine Ay [] hZ (by kernel_rfl) ?_
   refine Au (i:=9) (by kernel_rfl) rfl ?_
   replace u0:=(((u0.st b0).st c0).st b1).st p0
   replace v0:=(((v0.st b0).st c0).st b1).st p0
   refine BQ (O:=y4) (R:=fun w' F v=>Vb w' F v s2) (Df Fr.lt u0 v0 t4) rfl rfl fun i7 j7 z4 j0 e3=>?_
   obtain ⟨f3,g3,rfl⟩:=e3.form
   have hZ:=j0.lst [] (fun _ h=>h.elim)
   refine Ay [] hZ (by kernel_rfl) ?_
   refine Az (fuel:=1) [] [(10,true)] (by kernel_rfl) rfl ?_
   refine Ft rfl rfl rfl rfl ?_
   refine As ?_
   refine Au (i:=12) (by kernel_rfl) rfl ?_
   replace l1:=l1.st j0
   refine AD l1 rfl rfl rfl (AU rfl) (allOne rfl) fun a5 q0 l1=>?_
   replace l1:Lc 7 a5 z4 d3 43 [(.slice q1 y2.length r1),(.slice none 0 0),(.slice f3 s2.length g3)]:=l1
   refine BK (by kernel_rfl) ?_
   refine AZ (by kernel_rfl) ?_
   obtain rfl:=sm e2
   exact ⟨(d3,(q1,r1),(f3,g3)),_,⟨rfl,rfl,rfl,rfl,trivial⟩,(((((((((hB.st k1).st i1).st h1).st f1).st b0).st c0).st b1).st p0).st j0).st q0,(((a1.st b1).st p0).st j0).st q0,(((z0.st b1).st p0).st j0).st q0,(((((g1.st b0).st c0).st b1).st p0).st j0).st q0,(u0.st j0).st q0,(((e1.st b1).st p0).st j0).st q0,(((d1.st b1).st p0).st j0).st q0,(((((j1.st b0).st c0).st b1).st p0).st j0).st q0,(v0.st j0).st q0,(((((m0.st b0).st c0).st b1).st p0).st j0).st q0,l1,((u4.st p0).st j0).st q0,e3.st q0⟩
  refine Bd 7 w2 rfl fun h3 k7 b5 w0 m1=>?_
  have hZ:=w0.lst [] (fun _ h=>h.elim)
  refine Ay [] hZ (by kernel_rfl) ?_
  refine Au (i:=4) (by kernel_rfl) rfl ?_
  replace z0:=((z0.st b0).st c0).st w0
  replace d1:=((d1.st b0).st c0).st w0
  refine BQ (O:=b5) (R:=fun w' F v=>Vb w' F v y2) (Df Fr.lt z0 d1 k6) rfl rfl fun l7 m7 c5 r0 i3=>?_
  obtain ⟨j3,k3,rfl⟩:=i3.form
  have hZ:=r0.lst [] (fun _ h=>h.elim)
  refine Ay [] hZ (by kernel_rfl) ?_
  refine Au (i:=9) (by kernel_rfl) rfl ?_
  replace u0:=(((u0.st b0).st c0).st w0).st r0
  replace v0:=(((v0.st b0).st c0).st w0).st r0
  refine BQ (O:=c5) (R:=fun w' F v=>Vb w' F v s2) (Df Fr.lt u0 v0 t4) rfl rfl fun n7 o7 d5 k0 l3=>?_
  obtain ⟨m3,n3,rfl⟩:=l3.form
  have hZ:=k0.lst [] (fun _ h=>h.elim)
  refine Ay [] hZ (by kernel_rfl) ?_
  refine Az (fuel:=1) [] [(10,true)] (by kernel_rfl) rfl ?_
  refine Ft rfl rfl rfl rfl ?_
  refine As ?_
  refine Au (i:=12) (by kernel_rfl) rfl ?_
  replace m1:=(m1.st r0).st k0
  refine AD m1 rfl rfl rfl (AU rfl) (allOne rfl) fun e5 s0 m1=>?_
  replace m1:Lc 7 e5 d5 h3 43 [(.slice j3 y2.length k3),(.slice none 0 0),(.slice m3 s2.length n3)]:=m1
  refine BK (by kernel_rfl) ?_
  refine AZ (by kernel_rfl) ?_
  obtain rfl:=sm e2
  exact ⟨(h3,(j3,k3),(m3,n3)),_,⟨rfl,rfl,rfl,rfl,trivial⟩,(((((((((hB.st k1).st i1).st h1).st f1).st b0).st c0).st w0).st r0).st k0).st s0,(((a1.st w0).st r0).st k0).st s0,((z0.st r0).st k0).st s0,(((((g1.st b0).st c0).st w0).st r0).st k0).st s0,(u0.st k0).st s0,(((e1.st w0).st r0).st k0).st s0,((d1.st r0).st k0).st s0,(((((j1.st b0).st c0).st w0).st r0).st k0).st s0,(v0.st k0).st s0,(((((m0.st b0).st c0).st w0).st r0).st k0).st s0,m1,(i3.st k0).st s0,l3.st s0⟩
 replace hB:=(((((hB.st k1).st i1).st h1).st f1).st b0).st c0
 replace z0:=(z0.st b0).st c0
 replace g1:=(g1.st b0).st c0
 replace u0:=(u0.st b0).st c0
 replace d1:=(d1.st b0).st c0
 replace j1:=(j1.st b0).st c0
 replace v0:=(v0.st b0).st c0
 replace a1:=(a1.st b0).st c0
 replace e1:=(e1.st b0).st c0
 replace m0:=(m0.st b0).st c0
 rintro p7 q7 ⟨a0,f5,o3,hB,a1,z0,g1,u0,e1,d1,j1,v0,m0,n1,s1,t1⟩
 refine AE _ o3 ?_
 refine Ab (Ab (Aa (AS rfl rfl (AJ (hc:=Blk.cell (i:=1) (a1.1) rfl) rfl rfl ?_))))
 refine AX rfl rfl ?_
 have f2:x1.vals.length≤9223372036854775807:=Nat.le_trans g1.len.2.1 g1.len.2.2
 have r7:inI64 (x1.vals.length:Int):=rngNat f2
 refine Aj rfl rfl (o_z ?_)
 obtain ⟨g2,p3,hm⟩:=bs hm
 refine Ax (aft g2 (fun (c1:(List (List Int))) (t0:(Option Addr×Nat))=>[(6,(.pointer (some ⟨a2,0,none⟩))),(9,(.pointer (some ⟨a0.1,0,none⟩)))]) (fun c1 t0 w'=>∃ O':Lab,Bs w A w' O'∧Lc 5 w' O' a2 43 [(.slice none 0 0),(.slice none 0 0),(.slice none 0 0)]∧Lc 7 w' O' a0.1 43 [(.slice a0.2.1.1 h0.1.length a0.2.1.2),(.slice t0.1 c1.length t0.2),(.slice a0.2.2.1 h0.2.length a0.2.2.2)]∧Vb w' (Fr 0 w' O') (.slice a0.2.1.1 h0.1.length a0.2.1.2) h0.1∧Rw 9 w' O' 24 (.slice t0.1 c1.length t0.2) c1∧Vb w' (Fr 0 w' O') (.slice a0.2.2.1 h0.2.length a0.2.2.2) h0.2)) ?_ ?_
 ·
  refine AG (Bk (σ:=(List (List Int))) (X:=(Option Addr×Nat)) (x1.vals.length) p3 rfl f2 (fun (c1:(List (List Int))) (t0:(Option Addr×Nat))=>[(4,(.pointer (some ⟨u2,0,none⟩))),(5,(.pointer (some ⟨v2,0,none⟩))),(6,(.pointer (some ⟨a2,0,none⟩))),(9,(.pointer (some ⟨a0.1,0,none⟩))),(33,(.slice c2 x1.vals.length d2))]) _ (fun c1 t0 w'=>∃ O':Lab,Bs w A w' O'∧Lc 3 w' O' u2 43 [(.slice i2 x1.vars.length j2),(.slice c2 x1.vals.length d2),(.slice k2 x1.ops.length l2)]∧Vb w' (Fr 0 w' O') (.slice i2 x1.vars.length j2) x1.vars∧Vb w' (Fr 0 w' O') (.slice c2 x1.vals.length d2) x1.vals∧Vb w' (Fr 0 w' O') (.slice k2 x1.ops.length l2) x1.ops∧Lc 4 w' O' v2 43 [(.slice m2 x2.vars.length n2),(.slice o2 x2.vals.length p2),(.slice q2 x2.ops.length r2)]∧Vb w' (Fr 0 w' O') (.slice m2 x2.vars.length n2) x2.vars∧Vb w' (Fr 0 w' O') (.slice o2 x2.vals.length p2) x2.vals∧Vb w' (Fr 0 w' O') (.slice q2 x2.ops.length r2) x2.ops∧Lc 5 w' O' a2 43 [(.slice none 0 0),(.slice none 0 0),(.slice none 0 0)]∧Lc 7 w' O' a0.1 43 [(.slice a0.2.1.1 h0.1.length a0.2.1.2),(.slice t0.1 c1.length t0.2),(.slice a0.2.2.1 h0.2.length a0.2.2.2)]∧Vb w' (Fr 0 w' O') (.slice a0.2.1.1 h0.1.length a0.2.1.2) h0.1∧Rw 9 w' O' 24 (.slice t0.1 c1.length t0.2) c1∧Vb w' (Fr 0 w' O') (.slice a0.2.2.1 h0.2.length a0.2.2.2) h0.2) _ (none,0) ⟨f5,hB,a1,z0,g1,u0,e1,d1,j1,v0,m0,n1,s1,(Rw.nil 9 (by decide)),t1⟩ ⟨rfl,rfl,rfl,rfl,rfl,rfl,rfl,trivial⟩ (fun _ _=>⟨rfl,rfl⟩) (fun _ _=>⟨rfl,rfl,trivial⟩) (fun _ _ _ ⟨O',hB,a1,z0,g1,u0,e1,d1,j1,v0,m0,n1,s1,y0,t1⟩=>⟨O',hB,m0,n1,s1,y0,t1⟩) ⟨rfl,rfl,rfl⟩ ⟨rfl,rfl⟩ ?_)
  rintro g5 s7 c1 t0 t7 m6 b2 ⟨q3,hB,a1,z0,g1,u0,e1,d1,j1,v0,m0,n1,s1,y0,t1⟩ f0 m4 n4
  have rk161:inI64 (g5:Int):=rngK b2 f2
  refine Ab (Aa (Aj rfl rfl ?_))
  obtain ⟨u7,w7,n6,r3,s3,t3,x7,rfl,u1⟩:=g1.elem' b2
  replace u1:=Vb.of_slice u1
  obtain ⟨y7,z7,rfl⟩:=u1.form
  refine Bv (hA:=r3) (hj:=rfl) (hlt:=s3) rfl rfl rfl ?_
  refine AJ (hc:=cat0 t3) rfl rfl ?_
  refine Am rfl rfl (Am rfl rfl (o_z ?_))
  refine Bc [(14,[9])] q3 ?_
  refine Az (fuel:=5) [] [(0,true),(1,true),(2,true),(3,true),(4,true),(5,true),(6,true),(7,true),(8,true),(9,true),(10,true),(11,true)] (by kernel_rfl) rfl ?_
  refine AM rfl rfl rfl (AK (hc:=fun w' ⟨O',hq⟩=>Blk.cell (i:=1) ((n1.st hq (by decide)).1) rfl) rfl rfl rfl ?_)
  refine AH rfl rfl rfl (AM rfl rfl rfl (AK (hc:=fun w' ⟨O',hq⟩=>Blk.cell (i:=1) ((e1.st hq (by decide)).1) rfl) rfl rfl rfl ?_))
  refine AM rfl rfl rfl (AK (hc:=fun w' ⟨O',hq⟩=>Blk.cell (i:=0) ((a1.st hq (by decide)).1) rfl) rfl rfl rfl ?_)
  refine AH rfl rfl rfl ?_
  obtain ⟨a8,h5,f0⟩:=bs f0
  obtain ⟨b8,c8,o6,u3,v3,w3,x3,rfl,d8⟩:=z0.elem h5
  refine Bl (hA:=u3) (hj:=rfl) (hlt:=w3) rfl rfl rfl rfl ?_
  refine AK (hc:=fun w' ⟨O',hq⟩=>cat0 (AL (hq.agree (i:=0) (by decide)) v3 x3)) rfl rfl rfl ?_
  obtain ⟨e8,i5,f0⟩:=bs f0
  obtain ⟨j5,k5⟩:=AO i5
  obtain ⟨f8,g8,p6,y3,z3,a4,b4,h8,rfl,v1⟩:=j1.elem k5
  replace v1:=Vb.of_slice v1
  obtain ⟨i8,j8,rfl⟩:=v1.form
  refine Bl (hA:=y3) (hj:=(Int.toNat_of_nonneg j5).symm) (hlt:=a4) rfl rfl rfl rfl ?_
  refine AK (hc:=fun w' ⟨O',hq⟩=>cat0 (AL (hq.agree (i:=0) (by decide)) z3 b4)) rfl rfl rfl ?_
  refine As ?_
  refine Au (i:=12) (by kernel_rfl) rfl ?_
  obtain ⟨c4,l5,f0⟩:=bs f0
  refine BQ (O:=q3) (R:=fun w' F v=>Vb w' F v c4) (Df Fr.lt u1 v1 l5) rfl rfl fun k8 l8 m5 d0 d4=>?_
  obtain ⟨m8,n8,rfl⟩:=d4.form
  have hZ:=d0.lst [] (fun _ h=>h.elim)
  refine Ay [(14,[9])] hZ (by kernel_rfl) ?_
  refine Au (i:=13) (by kernel_rfl) rfl ?_
  refine Bi 8 (by decide) m5 (xs:=([c4]:List (List Int))) rfl rfl rfl rfl ⟨d4,trivial⟩ (by decide) (by decide) rfl fun o8 p8 q8 e0 n5=>?_
  have hZ:=e0.lst [] (fun _ h=>h.elim)
  refine Ay [(14,[9])] hZ (by kernel_rfl) ?_
  refine Au (i:=14) (by kernel_rfl) rfl ?_
  obtain ⟨o5,h2,f0⟩:=bs f0
  obtain ⟨h2,p5,q5⟩:=AT h2
  replace y0:=(y0.st d0).st e0
  refine BP rfl y0 (n5.rd) rfl rfl (by decide) p5 q5 rfl fun e4 f4 r8 r5 g0 g4=>?_
  rw [← h2] at g4 ⊢
  have hZ:=g0.lst [9] (fun _ h=>by cases h;decide)
  refine Ay [] hZ (by kernel_rfl) ?_
  refine Az (fuel:=1) [] [(15,true)] (by kernel_rfl) rfl ?_
  refine AM rfl rfl rfl (As ?_)
  refine Au (i:=16) (by kernel_rfl) rfl ?_
  replace n1:=((n1.st d0).st e0).st g0
  refine AD n1 rfl rfl rfl (AU rfl) (allOne rfl) fun s5 l0 n1=>?_
  replace n1:Lc 7 s5 r5 a0.1 43 [(.slice a0.2.1.1 h0.1.length a0.2.1.2),(.slice e4 o5.length f4),(.slice a0.2.2.1 h0.2.length a0.2.2.2)]:=n1
  refine BK (by kernel_rfl) ?_
  refine AZ (by kernel_rfl) ?_
  obtain rfl:=sm f0
  exact show Exists _ from ⟨_,(e4,f4),rfl,⟨rfl,rfl,rfl,rfl,rfl,rfl,rfl,trivial⟩,_,(((hB.st d0).st e0).st g0).st l0,(((a1.st d0).st e0).st g0).st l0,(((z0.st d0).st e0).st g0).st l0,(((g1.st d0).st e0).st g0).st l0,(((u0.st d0).st e0).st g0).st l0,(((e1.st d0).st e0).st g0).st l0,(((d1.st d0).st e0).st g0).st l0,(((j1.st d0).st e0).st g0).st l0,(((v0.st d0).st e0).st g0).st l0,(((m0.st d0).st e0).st g0).st l0,n1,(((s1.st d0).st e0).st g0).st l0,g4.st l0,(((t1.st d0).st e0).st g0).st l0⟩
 rintro s8 t8 ⟨w1,o1,rfl,h4,t5,hB,m0,n1,s1,y0,t1⟩
 replace hm:=AV hm
 refine AE _ h4 ?_
 refine Ab (Aa (Ba (hl:=rfl) (hc:=(n1.1).cellsAt) rfl rfl ?_))
 refine AD m0 rfl rfl rfl (AU rfl) (allOne rfl) fun i4 y1 m0=>?_
 replace m0:Lc 5 i4 t5 a2 43 [(.slice a0.2.1.1 h0.1.length a0.2.1.2),(.slice o1.1 w1.length o1.2),(.slice a0.2.2.1 h0.2.length a0.2.2.2)]:=m0
 refine Am rfl rfl (o_z ?_)
 refine AF ?_
 replace y0:=y0.st y1
 obtain ⟨u5,z1,y0⟩:=y0.freeze
 obtain rfl:=sm hm
 replace hB:=(hB.st y1).st z1
 replace m0:=m0.st z1
 replace s1:=(s1.st y1).st z1
 replace t1:=(t1.st y1).st z1
 exact ret2 rfl (CK (cs:=[(.slice a0.2.1.1 h0.1.length a0.2.1.2),(.slice o1.1 w1.length o1.2),(.slice a0.2.2.1 h0.2.length a0.2.2.2)]) rfl rfl m0.1.cellsAt) (AC rfl) ⟨hB.ext,_,_,rfl,(Vb.mono (F:=Fr 0 i4 u5) (Vb.ofAgg (cs:=[(.slice a0.2.1.1 h0.1.length a0.2.1.2),(.slice o1.1 w1.length o1.2),(.slice a0.2.2.1 h0.2.length a0.2.2.2)]) (x:=(⟨h0.1,w1,h0.2⟩:Swp)) rfl ⟨_,_,_,rfl,s1,y0,t1⟩) hB.out),(vErr (show inI64 0 from by decide))⟩
noncomputable def El (x0:Swp) (x1:Swp):Option Bool :=
  bnd (bnd (DE x0.vars x1.vars) fun q43=>if q43=true then bnd (DE x0.ops x1.ops) fun q50=>if q50=true then if (x0.vals.length:Int)≠(x1.vals.length:Int) then (some true) else (some false) else some true else some true:Option Bool) fun y39=>if y39=true then (some false) else (bnd (rng (ρ:=Bool) (fun (k73:Nat) (a74:List Int) (s71:Unit)=>bnd (x1.vals[k73]?) fun a95=>bnd (DE a74 a95) fun q108=>if q108=true then some (.next ()) else some (.ret false)) x0.vals 0 ()) fun res69=>fin res69 fun (s119:Unit)=>some true)
theorem Ij {w:World} {A:Nat→Prop} (hA:∀ k,A k→k < w.heap.size) {vx0:Value} {x0:Swp} (r1:Vb w A vx0 x0) {vx1:Value} {x1:Swp} (s1:Vb w A vx1 x1) {r:Bool} (hm:El x0 x1=some r) :
    Fn Tryz.prog 8 [vx0,vx1] w fun v w'=>Ext w w'∧Vb w' (upA A w w') v r:=by
 obtain ⟨O,hB,j2⟩:=enter hA
 replace r1:=r1.mono j2
 obtain ⟨o3,rfl,v4,v5,v6,rfl,h7,i0,l0⟩:=r1
 obtain ⟨A8,c9,rfl⟩:=h7.form
 obtain ⟨q0,r0,rfl⟩:=i0.form
 obtain ⟨s0,t0,rfl⟩:=l0.form
 replace s1:=s1.mono j2
 obtain ⟨n2,rfl,p3,q3,r3,rfl,m0,k0,n0⟩:=s1
 obtain ⟨u0,v0,rfl⟩:=m0.form
 obtain ⟨w0,y0,rfl⟩:=k0.form
 obtain ⟨z0,a1,rfl⟩:=n0.form
 refine AP Tryz.func8 rfl Tryz.ntmps8 rfl ?_
 unfold El at hm
 refine Ab (Aa (BC 2 O rfl rfl fun b1 o2 k2 e0 d0=>?_))
 replace d0:Lc 2 o2 k2 b1 43 [(.slice A8 x0.vars.length c9),(.slice q0 x0.vals.length r0),(.slice s0 x0.ops.length t0)]:=d0
 refine BC 3 k2 rfl rfl fun c1 l1 m1 c0 j0=>?_
 replace j0:Lc 3 l1 m1 c1 43 [(.slice u0 x1.vars.length v0),(.slice w0 x1.vals.length y0),(.slice z0 x1.ops.length a1)]:=j0
 refine Am rfl rfl (o_z ?_)
 refine Ab (Ab ?_)
 obtain ⟨p2,a0,hm⟩:=bs hm
 refine Ax (fun l' w'=>∃ (q2:Unit) (O':Lab),subs l' [(2,(.pointer (some ⟨b1,0,none⟩))),(3,(.pointer (some ⟨c1,0,none⟩))),(28,(.bool p2))]∧Bs w A w' O'∧Lc 2 w' O' b1 43 [(.slice A8 x0.vars.length c9),(.slice q0 x0.vals.length r0),(.slice s0 x0.ops.length t0)]∧Vb w' (Fr 0 w' O') (.slice A8 x0.vars.length c9) x0.vars∧Vb w' (Fr 0 w' O') (.slice q0 x0.vals.length r0) x0.vals∧Vb w' (Fr 0 w' O') (.slice s0 x0.ops.length t0) x0.ops∧Lc 3 w' O' c1 43 [(.slice u0 x1.vars.length v0),(.slice w0 x1.vals.length y0),(.slice z0 x1.ops.length a1)]∧Vb w' (Fr 0 w' O') (.slice u0 x1.vars.length v0) x1.vars∧Vb w' (Fr 0 w' O') (.slice w0 x1.vals.length y0) x1.vals∧Vb w' (Fr 0 w' O') (.slice z0 x1.ops.length a1) x1.ops) ?_ ?_
 ·
  refine Aa (AS rfl rfl ?_)
  replace d0:=d0.st c0
  refine AJ (hc:=Blk.cell (i:=0) (d0.1) rfl) rfl rfl ?_
  refine AS rfl rfl (AJ (hc:=Blk.cell (i:=0) (j0.1) rfl) rfl rfl ?_)
  obtain ⟨l2,r2,a0⟩:=bs a0
  replace h7:=(h7.st e0).st c0
  replace m0:=(m0.st e0).st c0
  refine Bf (O:=m1) (A:=All l1) (R:=fun w' F v=>Vb w' F v l2) (FN (fun _ h=>h) (Vb.mono (F:=Fr 0 l1 m1) h7 Fr.lt) (Vb.mono (F:=Fr 0 l1 m1) m0 Fr.lt) r2) rfl rfl fun s3 t1 u1 b0 s2=>?_
  obtain rfl:=s2.bool
  cases l2
  case false =>
   replace a0:=iF a0
   refine CD rfl rfl (Aj rfl rfl (An rfl rfl rfl rfl (An rfl rfl rfl rfl (An rfl rfl rfl rfl (An rfl rfl rfl rfl (An rfl rfl rfl rfl (An rfl rfl rfl rfl (By rfl rfl rfl (Aj rfl rfl (An rfl rfl rfl rfl (An rfl rfl rfl rfl (An rfl rfl rfl rfl (An rfl rfl rfl rfl (An rfl rfl rfl rfl ?_))))))))))))))
   refine An rfl rfl rfl rfl (An rfl rfl rfl rfl (By rfl rfl rfl (o_z ?_)))
   obtain rfl:=sm a0
   exact ⟨(),_,⟨rfl,rfl,rfl,trivial⟩,((hB.st e0).st c0).st b0,d0.st b0,h7.st b0,((i0.st e0).st c0).st b0,((l0.st e0).st c0).st b0,j0.st b0,m0.st b0,((k0.st e0).st c0).st b0,((n0.st e0).st c0).st b0⟩
  replace a0:=iT a0
  refine CC rfl rfl (Aj rfl rfl (Ar rfl rfl (AS rfl rfl (Ar rfl rfl ?_))))
  replace d0:=d0.st b0
  refine AJ (hc:=Blk.cell (i:=2) (d0.1) rfl) rfl rfl ?_
  refine Ar rfl rfl (AS rfl rfl (Ar rfl rfl ?_))
  replace j0:=j0.st b0
  refine AJ (hc:=Blk.cell (i:=2) (j0.1) rfl) rfl rfl ?_
  refine Ar rfl rfl ?_
  obtain ⟨m2,t2,a0⟩:=bs a0
  replace l0:=((l0.st e0).st c0).st b0
  replace n0:=((n0.st e0).st c0).st b0
  refine Bf (O:=u1) (A:=All t1) (R:=fun w' F v=>Vb w' F v m2) (FN (fun _ h=>h) (Vb.mono (F:=Fr 0 t1 u1) l0 Fr.lt) (Vb.mono (F:=Fr 0 t1 u1) n0 Fr.lt) t2) rfl rfl fun t3 u3 v3 f0 u2=>?_
  obtain rfl:=u2.bool
  cases m2
  case false =>
   replace a0:=iF a0
   refine Ar rfl rfl (CD rfl rfl (Bz rfl rfl rfl (Aj rfl rfl (An rfl rfl rfl rfl (An rfl rfl rfl rfl (An rfl rfl rfl rfl (An rfl rfl rfl rfl (An rfl rfl rfl rfl (An rfl rfl rfl rfl (An rfl rfl rfl rfl (By rfl rfl rfl (o_z ?_))))))))))))
   obtain rfl:=sm a0
   exact ⟨(),_,⟨rfl,rfl,rfl,trivial⟩,(((hB.st e0).st c0).st b0).st f0,d0.st f0,(h7.st b0).st f0,(((i0.st e0).st c0).st b0).st f0,l0.st f0,j0.st f0,(m0.st b0).st f0,(((k0.st e0).st c0).st b0).st f0,n0.st f0⟩
  replace a0:=iT a0
  refine Ar rfl rfl (CC rfl rfl (Bz rfl rfl rfl (Aj rfl rfl (Ar rfl rfl (AS rfl rfl (Ar rfl rfl ?_))))))
  replace d0:=d0.st f0
  refine AJ (hc:=Blk.cell (i:=1) (d0.1) rfl) rfl rfl ?_
  refine Ar rfl rfl (AX rfl rfl ?_)
  replace i0:=(((i0.st e0).st c0).st b0).st f0
  have v2:x0.vals.length≤9223372036854775807:=Nat.le_trans i0.len.2.1 i0.len.2.2
  have w3:inI64 (x0.vals.length:Int):=rngNat v2
  refine Ar rfl rfl (AS rfl rfl (Ar rfl rfl ?_))
  replace j0:=j0.st f0
  refine AJ (hc:=Blk.cell (i:=1) (j0.1) rfl) rfl rfl ?_
  refine Ar rfl rfl (AX rfl rfl ?_)
  replace k0:=(((k0.st e0).st c0).st b0).st f0
  have w2:x1.vals.length≤9223372036854775807:=Nat.le_trans k0.len.2.1 k0.len.2.2
  have x3:inI64 (x1.vals.length:Int):=rngNat w2
  refine Ar rfl rfl (Gh rfl rfl rfl (fun v1=>?_) fun v1=>?_)
  ·
   replace a0:=ip a0 v1
   refine Bz rfl rfl rfl (o_z ?_)
   obtain rfl:=sm a0
   exact ⟨(),_,⟨rfl,rfl,rfl,trivial⟩,(((hB.st e0).st c0).st b0).st f0,d0,(h7.st b0).st f0,i0,l0.st f0,j0,(m0.st b0).st f0,k0,n0.st f0⟩
  replace a0:=im a0 v1
  refine Bz rfl rfl rfl (o_z ?_)
  obtain rfl:=sm a0
  exact ⟨(),_,⟨rfl,rfl,rfl,trivial⟩,(((hB.st e0).st c0).st b0).st f0,d0,(h7.st b0).st f0,i0,l0.st f0,j0,(m0.st b0).st f0,k0,n0.st f0⟩
 replace hB:=(hB.st e0).st c0
 replace h7:=(h7.st e0).st c0
 replace i0:=(i0.st e0).st c0
 replace l0:=(l0.st e0).st c0
 replace m0:=(m0.st e0).st c0
 replace k0:=(k0.st e0).st c0
 replace n0:=(n0.st e0).st c0
 replace d0:=d0.st c0
 rintro y3 z3 ⟨q2,x2,w1,hB,d0,h7,i0,l0,j0,m0,k0,n0⟩
 refine AE _ w1 ?_
 refine Bp rfl (fun y1=>?_) (fun y1=>?_)
 ·
  replace hm:=ip hm y1
  refine Ab (Aa (Am rfl rfl (o_z ?_)))
  refine AF ?_
  obtain rfl:=sm hm
  exact ret1v rfl (AC rfl) ⟨hB.ext,vBool⟩
 replace hm:=im' hm y1
 refine AI (Ab (Ab (Aa (AS rfl rfl (AJ (hc:=Blk.cell (i:=1) (d0.1) rfl) rfl rfl ?_)))))
 refine AX rfl rfl ?_
 have z1:x0.vals.length≤9223372036854775807:=Nat.le_trans i0.len.2.1 i0.len.2.2
 have a4:inI64 (x0.vals.length:Int):=rngNat z1
 refine Aj rfl rfl (o_z ?_)
 obtain ⟨d1,a2,hm⟩:=bs hm
 refine Ax (aft d1 (fun (n1:Unit) (o1:Unit)=>[]) (fun n1 o1 w'=>∃ O':Lab,Bs w A w' O')) ?_ ?_
 ·
  refine AG (Bk (σ:=Unit) (X:=Unit) (x0.vals.length) a2 rfl z1 (fun (n1:Unit) (o1:Unit)=>[(2,(.pointer (some ⟨b1,0,none⟩))),(3,(.pointer (some ⟨c1,0,none⟩)))]) _ (fun n1 o1 w'=>∃ O':Lab,Bs w A w' O'∧Lc 2 w' O' b1 43 [(.slice A8 x0.vars.length c9),(.slice q0 x0.vals.length r0),(.slice s0 x0.ops.length t0)]∧Vb w' (Fr 0 w' O') (.slice A8 x0.vars.length c9) x0.vars∧Vb w' (Fr 0 w' O') (.slice q0 x0.vals.length r0) x0.vals∧Vb w' (Fr 0 w' O') (.slice s0 x0.ops.length t0) x0.ops∧Lc 3 w' O' c1 43 [(.slice u0 x1.vars.length v0),(.slice w0 x1.vals.length y0),(.slice z0 x1.ops.length a1)]∧Vb w' (Fr 0 w' O') (.slice u0 x1.vars.length v0) x1.vars∧Vb w' (Fr 0 w' O') (.slice w0 x1.vals.length y0) x1.vals∧Vb w' (Fr 0 w' O') (.slice z0 x1.ops.length a1) x1.ops) _ () ⟨x2,hB,d0,h7,i0,l0,j0,m0,k0,n0⟩ ⟨rfl,rfl,rfl,rfl,trivial⟩ (fun _ _=>⟨rfl,rfl⟩) (fun _ _=>trivial) (fun _ _ _ ⟨O',hB,d0,h7,i0,l0,j0,m0,k0,n0⟩=>⟨O',hB⟩) ⟨rfl,rfl,rfl⟩ ⟨rfl,rfl⟩ ?_)
  rintro y2 b4 n1 o1 b2 z2 e1 ⟨p1,hB,d0,h7,i0,l0,j0,m0,k0,n0⟩ h0 p0 c2
  have rk73:inI64 (y2:Int):=rngK e1 z1
  refine Ab (Aa (Aj rfl rfl (Am rfl rfl (o_z ?_))))
  refine Ab (Bc [] p1 ?_)
  refine Az (fuel:=2) [] [(0,true),(1,true),(2,true),(3,true),(4,true),(5,true),(6,true),(7,true),(8,true),(9,true)] (by kernel_rfl) rfl ?_
  refine AM rfl rfl rfl (AK (hc:=fun w' ⟨O',hq⟩=>Blk.cell (i:=1) ((d0.st hq (by decide)).1) rfl) rfl rfl rfl ?_)
  refine AH rfl rfl rfl ?_
  obtain ⟨c4,d4,a3,d2,e2,f2,g2,e4,rfl,q1⟩:=i0.elem e1
  replace q1:=Vb.of_slice q1
  obtain ⟨f4,g4,rfl⟩:=q1.form
  refine Bl (hA:=d2) (hj:=rfl) (hlt:=f2) rfl rfl rfl rfl ?_
  refine AK (hc:=fun w' ⟨O',hq⟩=>cat0 (AL (hq.agree (i:=0) (by decide)) e2 g2)) rfl rfl rfl ?_
  refine AM rfl rfl rfl (AK (hc:=fun w' ⟨O',hq⟩=>Blk.cell (i:=1) ((j0.st hq (by decide)).1) rfl) rfl rfl rfl ?_)
  refine AH rfl rfl rfl ?_
  obtain ⟨h4,b3,h0⟩:=bs h0
  obtain ⟨i4,j4,c3,f1,g1,h1,i1,d3,rfl,o0⟩:=k0.elem b3
  replace o0:=Vb.of_slice o0
  obtain ⟨e3,f3,rfl⟩:=o0.form
  refine Bl (hA:=f1) (hj:=rfl) (hlt:=h1) rfl rfl rfl rfl ?_
  refine AK (hc:=fun w' ⟨O',hq⟩=>cat0 (AL (hq.agree (i:=0) (by decide)) g1 i1)) rfl rfl rfl ?_
  refine As ?_
  refine Au (i:=10) (by kernel_rfl) rfl ?_
  obtain ⟨j1,h2,h0⟩:=bs h0
  refine Bf (O:=p1) (A:=All b2) (R:=fun w' F v=>Vb w' F v j1) (FN (fun _ h=>h) (Vb.mono (F:=Fr 0 b2 p1) q1 Fr.lt) (Vb.mono (F:=Fr 0 b2 p1) o0 Fr.lt) h2) rfl rfl fun g3 h3 i3 g0 i2=>?_
  obtain rfl:=i2.bool
  have hZ:=g0.lst [] (fun _ h=>h.elim)
  cases j1
  case false =>
   replace h0:=iF h0
   refine Ay [] hZ (by kernel_rfl) ?_
   refine Az (fuel:=0) [] [(11,true)] (by kernel_rfl) rfl ?_
   refine LK rfl rfl rfl (As ?_)
   refine AZ (by kernel_rfl) ?_
   refine Ah rfl (Ab (Aa (Am rfl rfl (o_z ?_))))
   refine AF ?_
   obtain rfl:=sm h0
   obtain rfl:=p0 _ rfl
   obtain rfl:=sm (Cq hm)
   replace hB:=hB.st g0
   exact ret1v rfl (AC rfl) ⟨hB.ext,vBool⟩
  replace h0:=iT h0
  refine Ay [] hZ (by kernel_rfl) ?_
  refine Az (fuel:=0) [] [(11,true)] (by kernel_rfl) rfl ?_
  refine LJ rfl rfl rfl (As ?_)
  refine AZ (by kernel_rfl) ?_
  refine Ae rfl (AI ?_)
  obtain rfl:=sm h0
  exact show Exists _ from ⟨_,(),rfl,⟨rfl,rfl,rfl,rfl,trivial⟩,_,hB.st g0,d0.st g0,h7.st g0,i0.st g0,l0.st g0,j0.st g0,m0.st g0,k0.st g0,n0.st g0⟩
 rintro j3 k3 ⟨l3,m3,rfl,k1,n3,hB⟩
 replace hm:=AV hm
 refine AE _ k1 ?_
 refine Ab (Aa (Am rfl rfl (o_z ?_)))
 refine AF ?_
 obtain rfl:=sm hm
 exact ret1v rfl (AC rfl) ⟨hB.ext,vBool⟩
end
end Go.Proofs.YtdhaelekmjgbmaaGreatDoor

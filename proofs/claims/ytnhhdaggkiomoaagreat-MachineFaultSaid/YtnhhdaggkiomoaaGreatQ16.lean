/- Part 16 of the proof. No condition of its own. -/
import Derived.Test.YtnhhdaggkiomoaaGreatQ15
namespace Go.Proofs.YtnhhdaggkiomoaaGreat
open Go.RowKit Go.Proofs.Tryz
set_option maxRecDepth 1000000
set_option maxHeartbeats 25600000
set_option linter.unusedVariables false
variable{a:Act}{Q:Exit→Act→World→Prop}{bD:List Nat}{cs:List Value}{fs:List al}{b m:Nat}{o:Oper}{S:World}{f:al}
structure lE(w:World)(P:Nat→Prop)(s:aj)(GA:Ls)(gn:Nat)(TA:Ls)(tn:Nat)(HA:Ls)(hn:Nat):Prop where
 g:Sl w P GA gn (s.globals.map .i)
 t:Sl w P TA tn (s.table.map lj)
 h:Sl w P HA hn (s.threads.map jP)
section
variable {w ab:World} {P c5:Nat→Prop} {s:aj} {GA TA HA:Ls} {gn gc tn tc hn hc:Nat}
theorem lE.on(h:lE w (au w) s GA gn TA tn HA hn)(he:Ext w ab):lE ab (au ab) s GA gn TA tn HA hn:=⟨h.g.on (Fr.ext he),h.t.on (Fr.ext he),h.h.on (Fr.ext he)⟩
theorem lE.mono(h:lE w P s GA gn TA tn HA hn)(hp:∀b,P b→c5 b):lE w c5 s GA gn TA tn HA hn:=⟨h.g.mono hp,h.t.mono hp,h.h.mono hp⟩
theorem ga:(er f).rep w P cs↔∃IA i ic S l lc,cs=[.int .i64 f.proc,.int .i64 f.pc,.slice IA i ic,.slice S l lc]∧i≤ic∧l≤lc∧Sl w P IA i (f.ints.map D.i)∧Sl w P S l (f.av.map D.i):=by
 unfold er;rw[bK];constructor
 ·intro h;obtain⟨y,rfl,ac⟩:=bm.1 h;obtain⟨cw,rfl,av⟩:=bm.1 ac;obtain⟨A,n,c,cG,rfl,hc,hs,aV⟩:=aN.1 av;obtain⟨A2,n2,c2,b5,rfl,b9,bO,bz⟩:=aN.1 aV;rw[aP] at bz;subst bz;exact⟨A,n,c,A2,n2,c2,rfl,hc,b9,hs,bO⟩
 ·rintro⟨A,n,c,A2,n2,c2,rfl,hc,b9,hs,bO⟩;exact bm.2 ⟨_,rfl,bm.2 ⟨_,rfl,aN.2 ⟨A,n,c,_,rfl,hc,hs,aN.2 ⟨A2,n2,c2,_,rfl,b9,bO,aP.2 rfl⟩⟩⟩⟩
theorem E9(f:al):(er f).sz=4:=rfl
theorem Fa(t:List al):(jP t).sz=1:=rfl
theorem eS{t:List al}:(jP t).rep w P cs↔∃A n c,cs=[.slice A n c]∧n≤c∧Sl w P A n (t.map er):=by
 unfold jP;rw[bK];constructor
 ·intro h;obtain⟨A,n,c,y,rfl,hc,hs,ac⟩:=aN.1 h;rw[aP] at ac;subst ac;exact⟨A,n,c,rfl,hc,hs⟩
 ·rintro⟨A,n,c,rfl,hc,hs⟩;exact aN.2 ⟨A,n,c,_,rfl,hc,hs,aP.2 rfl⟩
theorem Sl.lA{A:Ls}{n:Nat}{l:List (List al)}(h:Sl w P A n (l.map jP)){k:Nat}(ap:k<n):
  ∃b o t FA m c,A=some ⟨b,o,none⟩∧P b∧l[k]?=some t∧w.cell? ⟨b,o+k,none⟩=some (.slice FA m c)∧m≤c∧Sl w P FA m (t.map er):=by
 obtain⟨b,o,t,cs,bw,O,hx,a5,_,hc⟩:=Sl.gZ (z:=1) h Fa ap;obtain⟨FA,m,c,rfl,ac,av⟩:=eS.1 a5;have aV:=hc 0 _ rfl;simp only[Nat.mul_one,KQ] at aV;exact⟨b,o,t,FA,m,c,bw,O,hx,aV,ac,av⟩
theorem Sl.pQ{A:Ls}{n:Nat}{l:List al}(h:Sl w P A n (l.map er)){k:Nat}(ap:k<n):
  ∃b o f IA i ic S m lc,A=some ⟨b,o,none⟩∧P b∧l[k]?=some f∧w.cell? ⟨b,o+k*4,none⟩=some (.int .i64 f.proc)∧w.cell? ⟨b,o+k*4+1,none⟩=some (.int .i64 f.pc)∧w.cell? ⟨b,o+k*4+2,none⟩=some (.slice IA i ic)∧
   w.cell? ⟨b,o+k*4+3,none⟩=some (.slice S m lc)∧i≤ic∧m≤lc∧Sl w P IA i (f.ints.map D.i)∧Sl w P S m (f.av.map D.i):=by
 obtain⟨b,o,f,cs,bw,O,hx,a5,_,hc⟩:=Sl.gZ (z:=4) h E9 ap;obtain⟨IA,i,ic,S,m,lc,rfl,ac,av,aV,bz⟩:=ga.1 a5;have cm:=hc 0 _ rfl;simp only[KQ] at cm;exact⟨b,o,f,IA,i,ic,S,m,lc,bw,O,hx,cm,hc 1 _ rfl,hc 2 _ rfl,hc 3 _ rfl,ac,av,aV,bz⟩
end
abbrev bq(A:Ls)(n c:Nat):List Nat:=(Value.slice A n c).ownBlock.toList
structure Own(w:World)(e:TypeId)(z:Nat)(A:Ls)(n c:Nat)(xs:List Value)(F:List Nat):Prop where
 row:w.ownsRow 0 e z (.slice A n c) n xs
 eq:F=bq A n c
section
variable {w ab:World} {e:TypeId} {z n c:Nat} {A:Ls} {xs:List Value} {F:List Nat}
theorem Own.ak(h:Own w e z A n c xs F)(ap:∀b∈F,ab.heap[b]?=w.heap[b]?):Own ab e z A n c xs F:=by
 refine⟨⟨h.row.1,?_⟩,h.eq⟩;rcases h.row.2 with av|⟨g,cap,cur,bM,O,a2,rest⟩
 ·exact .inl av
 ·exact .inr ⟨g,cap,cur,bM,O,(ap g (by rw[h.eq];unfold bq;rw[bM];simp[Value.ownBlock])).trans a2,rest⟩
theorem Own.cap(h:Own w e z A n c xs F):n≤c:=by
 obtain⟨I,aK,bM,ac,_⟩:=b2 h.row;injection bM with _ _ bM;omega
theorem Own.lt(h:Own w e z A n c xs F):∀b∈F,b<w.heap.size:=fun b O=>by
 rw[h.eq] at O;exact(h.row.lt b (by simpa using O)).2
theorem Own.block(h:Own w e z A n c xs F)(hn:0<n):∃g,A=some ⟨g,0,none⟩∧F=[g]∧g<w.heap.size∧(∀j u,xs[j]?=some u→w.cell? ⟨g,j,none⟩=some u)∧(∀j,w.frozen? ⟨g,j,none⟩=false)∧
  ∀j u,j<n*z→Own (w.setCell ⟨g,j,none⟩ u) e z A n c (xs.set j u) F:=by
 obtain⟨g,bw,_,ak,hc,J,hs⟩:=ie h.row hn;subst bw;exact⟨g,rfl,h.eq,ak,hc,J,fun j u bi=>⟨hs j u bi,h.eq⟩⟩
theorem Own.sl{l:List D}{P:Nat→Prop}(h:Own w e z A n c xs F)(a5:D.aQ w P l xs)(hl:l.length=n)(hF:∀b∈F,P b):Sl w P A n l:=
 Sl.qe h.row a5 hl fun g a2 _ _=>hF g (by rw[h.eq,a2];simp[Value.ownBlock])
theorem Own.shorter(h:Own w e z A n c xs F)(hm:m≤n)(hn:0<n):Own w e z A m c (xs.take (m*z)) F:=by
 refine⟨⟨by rw[List.length_take,h.row.1];exact Nat.min_eq_left (Nat.mul_le_mul_right _ hm),?_⟩,by rw[h.eq];cases A<;>rfl⟩;rcases h.row.2 with⟨_,av⟩|⟨g,cap,cur,bM,O,a2,ac,av,aV,bz⟩
 ·omega
 ·injection bM with bw _ hc;subst bw hc;exact .inr ⟨g,c,cur,rfl,O,a2,ad,av,aV,by rw[←bz,List.take_take,Nat.min_eq_left (Nat.mul_le_mul_right _ hm)]⟩
end
def ka{α:Type}(E:World→α→List Value→List Nat→Prop)(w:World):List α→List Value→List Nat→Prop
 | [],xs,F=>xs=[]∧F=[]
 | a::l,xs,F=>∃x y F1 F2,xs=x++y∧F=F1++F2∧E w a x F1∧ka E w l y F2
section
variable {α:Type} {E:World→α→List Value→List Nat→Prop} {z:Nat}
def w6(E:World→α→List Value→List Nat→Prop):Prop:=∀(w ab:World) (a:α) (x:List Value) (F:List Nat),E w a x F→(∀b∈F,ab.heap[b]?=w.heap[b]?)→E ab a x F
def y1(z:Nat)(E:World→α→List Value→List Nat→Prop):Prop:=∀(w:World) (a:α) (x:List Value) (F:List Nat),E w a x F→x.length=z
theorem ka.ak(aw:w6 E){w ab:World}:∀{l:List α} {xs:List Value} {F:List Nat},ka E w l xs F→(∀b∈F,ab.heap[b]?=w.heap[b]?)→ka E ab l xs F
 | [],_,_,h,_=>h
 | a::l,xs,F,h,ap=>by
  obtain⟨x,y,F1,F2,rfl,rfl,ac,av⟩:=h;exact⟨x,y,F1,F2,rfl,rfl,aw _ _ _ _ _ ac fun b O=>ap b (by simp[O]),ka.ak aw av fun b O=>ap b (by simp[O])⟩
theorem ka.snoc{w:World}{a:α}{x:List Value}{f:List Nat}:∀{l:List α} {xs:List Value} {F:List Nat},ka E w l xs F→E w a x f→ka E w (l++[a]) (xs++x) (F++f)
 | [],_,_,⟨ac,av⟩,he=>by
  subst ac av
  exact⟨x,[],f,[],by simp,by simp,he,rfl,rfl⟩
 | b::l,xs,F,h,he=>by
  obtain⟨Z,y,F1,F2,rfl,rfl,ac,av⟩:=h;exact⟨Z,y++x,F1,F2++f,by simp,by simp,ac,ka.snoc av he⟩
theorem ka.len(bt:y1 z E){w:World}:∀{l:List α} {xs:List Value} {F:List Nat},ka E w l xs F→xs.length=l.length*z
 | [],_,_,⟨ac,_⟩=>by simp[ac]
 | a::l,xs,F,h=>by
  obtain⟨x,y,F1,F2,rfl,rfl,ac,av⟩:=h;rw[KI,bt _ _ _ _ ac,ka.len bt av,KT,Nat.succ_mul];omega
theorem ka.take{w:World}(bt:y1 z E):∀{l:List α} {xs:List Value} {F:List Nat},ka E w l xs F→∀k,∃F1,ka E w (l.take k) (xs.take (k*z)) F1∧F1 <+: F
 | [],xs,F,⟨ac,av⟩,k=>⟨[],by subst ac;simp[ka],by simp⟩
 | a::l,xs,F,h,0=>⟨[],by simp[ka],by simp⟩
 | a::l,xs,F,h,k+1=>by
  obtain⟨x,y,F1,F2,rfl,rfl,ac,av⟩:=h;obtain⟨bQ,aV,bz⟩:=ka.take bt av k;refine⟨F1++bQ,⟨x,y.take (k*z),F1,bQ,?_,rfl,ac,aV⟩,by simpa using bz⟩;have:=bt _ _ _ _ ac;rw[List.take_append,KO (by rw[this,Nat.succ_mul];omega),this,show (k+1)*z - z=k*z by rw[Nat.succ_mul];omega]
theorem ka.at_(aw:w6 E)(bt:y1 z E){w:World}:∀{l:List α} {xs:List Value} {F:List Nat},ka E w l xs F→∀{k:Nat} {a:α},l[k]?=some a→
  ∃x F1 f F2,F=F1++(f++F2)∧E w a x f∧(∀j u,x[j]?=some u→xs[k*z+j]?=some u)∧
   (∀ab r d,(∀b∈F1++F2,ab.heap[b]?=w.heap[b]?)→E ab r x d→ka E ab (l.set k r) xs (F1++(d++F2)))∧
   (∀ab r j u d,(∀b∈F1++F2,ab.heap[b]?=w.heap[b]?)→j<z→E ab r (x.set j u) d→ka E ab (l.set k r) (xs.set (k*z+j) u) (F1++(d++F2)))
 | [],_,_,_,k,a,ap=>by simp at ap
 | b::l,xs,F,h,0,a,ap=>by
  obtain⟨x,y,F1,F2,rfl,rfl,ac,av⟩:=h;simp only[List.getElem?_cons_zero,Lj] at ap;subst ap;have hx:=bt _ _ _ _ ac;refine⟨x,[],F1,F2,by simp,ac,fun j u bi=>?_,fun ab r d ap he=>⟨x,y,d,F2,rfl,by simp,he,ka.ak aw av fun b O=>ap b (by simp[O])⟩,fun ab r j u d ap bi he=>⟨x.set j u,y,d,F2,?_,by simp,he,ka.ak aw av fun b O=>ap b (by simp[O])⟩⟩
  ·rw[Nat.zero_mul,KY,List.getElem?_append_left (List.getElem?_eq_some_iff.1 bi).1];exact bi
  ·rw[Nat.zero_mul,KY,List.set_append_left _ _ ad]
 | b::l,xs,F,h,k+1,a,ap=>by
  obtain⟨bs,y,g,R,rfl,rfl,ac,av⟩:=h;simp only[List.getElem?_cons_succ] at ap;have hx:=bt _ _ _ _ ac;obtain⟨x,F1,f,F2,rfl,aV,bz,cm,aY⟩:=ka.at_ aw bt av ap;have i:∀j,(k+1)*z+j=bs.length+(k*z+j):=fun j=>by rw[hx,Nat.succ_mul];omega
  refine⟨x,g++F1,f,F2,by simp,aV,fun j u bi=>?_,fun ab r d ap he=>⟨bs,y,g,F1++(d++F2),rfl,by simp,aw _ _ _ _ _ ac fun b O=>ap b (by simp[O]),cm ab r d (fun b O=>ap b (by simp at O ⊢;rcases O with O|O<;>simp[O])) he⟩,
   fun ab r j u d ap bi he=>⟨bs,y.set (k*z+j) u,g,F1++(d++F2),?_,by simp,aw _ _ _ _ _ ac fun b O=>ap b (by simp[O]),aY ab r j u d (fun b O=>ap b (by simp at O ⊢;rcases O with O|O<;>simp[O])) bi he⟩⟩
  ·rw[i,List.getElem?_append_right ad,Nat.add_sub_cancel_left];exact bz j u bi
  ·rw[i,List.set_append_right _ _ ad,Nat.add_sub_cancel_left]
theorem ka.aQ{w:World}{P:Nat→Prop}{enc:α→D}(a5:∀a x F,E w a x F→(∀b∈F,P b)→(enc a).rep w P x):∀{l:List α} {xs:List Value} {F:List Nat},ka E w l xs F→(∀b∈F,P b)→D.aQ w P (l.map enc) xs
 | [],_,_,⟨ac,_⟩,_=>by simp only[Le,D.aQ];exact ac
 | a::l,xs,F,h,ap=>by
  obtain⟨x,y,F1,F2,rfl,rfl,ac,av⟩:=h;simp only[KM,D.aQ];exact⟨x,y,rfl,a5 _ _ _ ac fun b O=>ap b (by simp[O]),ka.aQ a5 av fun b O=>ap b (by simp[O])⟩
end
abbrev dc:Int→Value:=Value.int .i64
def o9(w:World)(f:al)(cs:List Value)(F:List Nat):Prop:=∃IA i ic S l lc F1 F2,cs=[.int .i64 f.proc,.int .i64 f.pc,.slice IA i ic,.slice S l lc]∧F=F1++F2∧
 i=f.ints.length∧l=f.av.length∧Own w 3 1 IA i ic (f.ints.map dc) F1∧Own w 3 1 S l lc (f.av.map dc) F2
def oj(w:World)(fs:List al)(cs:List Value)(F:List Nat):Prop:=∃FA n c xs F1 F2,cs=[.slice FA n c]∧F=F1++F2∧n=fs.length∧Own w 73 4 FA n c xs F1∧ka o9 w fs xs F2
structure qO(w:World)(s:aj)(GA:Ls)(gn gc:Nat)(TA:Ls)(tn tc:Nat)(HA:Ls)(hn hc:Nat)(xs:List Value)(F1 F2 bQ cb:List Nat):Prop where
 gl:gn=s.globals.length
 tl:tn=s.table.length
 hl:hn=s.threads.length
 g:Own w 3 1 GA gn gc (s.globals.map dc) F1
 t:Own w 102 2 TA tn tc (s.table.flatMap bJ) F2
 h:Own w 69 1 HA hn hc xs bQ
 hs:ka oj w s.threads xs cb
 nd:(F1++(F2++(bQ++cb))).Nodup
theorem o9.ak:w6 o9:=fun w ab a x F h ap=>by
 obtain⟨IA,i,ic,S,l,lc,F1,F2,rfl,rfl,an,hl,ac,av⟩:=h;exact⟨IA,i,ic,S,l,lc,F1,F2,rfl,rfl,an,hl,ac.ak fun b O=>ap b (by simp[O]),av.ak fun b O=>ap b (by simp[O])⟩
theorem o9.len:y1 4 o9:=fun w a x F h=>by
 obtain⟨IA,i,ic,S,l,lc,F1,F2,rfl,_⟩:=h;rfl
theorem oj.ak:w6 oj:=fun w ab a x F h ap=>by
 obtain⟨FA,n,c,xs,F1,F2,rfl,rfl,hn,ac,av⟩:=h;exact⟨FA,n,c,xs,F1,F2,rfl,rfl,hn,ac.ak fun b O=>ap b (by simp[O]),av.ak o9.ak fun b O=>ap b (by simp[O])⟩
theorem oj.len:y1 1 oj:=fun w a x F h=>by
 obtain⟨FA,n,c,xs,F1,F2,rfl,_⟩:=h;rfl
theorem cu{w:World}{P:Nat→Prop}:∀(l:List Int),D.aQ w P (l.map D.i) (l.map dc)
 | []=>by simp only[Le,D.aQ]
 | a::l=>by simp only[KM];exact bm.2 ⟨_,rfl,cu l⟩
theorem dw{w:World}{P:Nat→Prop}:∀(l:List cy),D.aQ w P (l.map lj) (l.flatMap bJ)
 | []=>by simp only[Le,D.aQ,List.flatMap_nil]
 | a::l=>by
  simp only[KM,Lb,D.aQ];exact⟨_,_,rfl,by unfold lj;exact bm.2 ⟨_,rfl,bm.2 ⟨_,rfl,aP.2 rfl⟩⟩,dw l⟩
theorem o9.rep{w:World}{P:Nat→Prop}(f:al)(x:List Value)(F:List Nat)(h:o9 w f x F)(aZ:∀b∈F,P b):(er f).rep w P x:=by
 obtain⟨IA,i,ic,S,l,lc,F1,F2,rfl,rfl,an,hl,ac,av⟩:=h;exact ga.2 ⟨IA,i,ic,S,l,lc,rfl,ac.cap,av.cap,ac.sl (cu _) (by simp[an]) fun b O=>aZ b (by simp[O]),av.sl (cu _) (by simp[hl]) fun b O=>aZ b (by simp[O])⟩
theorem oj.rep{w:World}{P:Nat→Prop}(t:List al)(x:List Value)(F:List Nat)(h:oj w t x F)(aZ:∀b∈F,P b):(jP t).rep w P x:=by
 obtain⟨FA,n,c,xs,F1,F2,rfl,rfl,hn,ac,av⟩:=h;exact eS.2 ⟨FA,n,c,rfl,ac.cap,ac.sl (av.aQ o9.rep fun b O=>aZ b (by simp[O])) (by simp[hn]) fun b O=>aZ b (by simp[O])⟩
section
variable {w ab:World} {P c5:Nat→Prop} {s:aj} {GA TA HA:Ls} {gn gc tn tc hn hc:Nat} {xs:List Value} {F1 F2 bQ cb:List Nat}
theorem qO.at_(h:qO w s GA gn gc TA tn tc HA hn hc xs F1 F2 bQ cb)(aZ:∀b∈F1++(F2++(bQ++cb)),P b):lE w P s GA gn TA tn HA hn:=
 ⟨h.g.sl (cu _) (by simp[h.gl]) fun b O=>aZ b (by simp[O]),h.t.sl (dw _) (by simp[h.tl]) fun b O=>aZ b (by simp[O]),h.h.sl (h.hs.aQ oj.rep fun b O=>aZ b (by simp[O])) (by simp[h.hl]) fun b O=>aZ b (by simp[O])⟩
theorem qO.ak(h:qO w s GA gn gc TA tn tc HA hn hc xs F1 F2 bQ cb)(ap:∀b∈F1++(F2++(bQ++cb)),ab.heap[b]?=w.heap[b]?):qO ab s GA gn gc TA tn tc HA hn hc xs F1 F2 bQ cb:=
 ⟨h.gl,h.tl,h.hl,h.g.ak fun b O=>ap b (by simp[O]),h.t.ak fun b O=>ap b (by simp[O]),h.h.ak fun b O=>ap b (by simp[O]),h.hs.ak oj.ak fun b O=>ap b (by simp[O]),h.nd⟩
end
theorem eF{A B:List Nat}{x:Nat}(h:(A++x::B).Nodup):∀b∈A++B,b≠x:=by
 intro b O he;subst he;have:=(List.perm_middle (a:=b) (l₁:=A) (l₂:=B)).nodup_iff.1 h;exact(List.nodup_cons.1 this).1 O
theorem k2{α:Type}{g:α→α}{x:α}:∀{l:List α} {k:Nat},l[k]?=some x→l.modify k g=l.set k (g x)
 | [],k,h=>by simp at h
 | a::l,0,h=>by simp at h;subst h;rfl
 | a::l,k+1,h=>by
  simp only[List.getElem?_cons_succ] at h;rw[List.modify_succ_cons,List.set_cons_succ,k2 h]
theorem kt{α:Type}(l:List α)(x:α):(l++[x]).dropLast=l:=by simp
theorem aR{w:World}{p:Addr}{u:Value}(h:b≠p.block):(w.setCell p u).heap[b]?=w.heap[b]?:=Below.heap_setCell w p u b h
section
variable {w ab:World} {P c5:Nat→Prop} {s:aj} {GA TA HA:Ls} {gn gc tn tc hn hc:Nat} {xs:List Value} {F1 F2 bQ cb:List Nat}
theorem qO.top(h:qO w s GA gn gc TA tn tc HA hn hc xs F1 F2 bQ cb){k:Nat}(bK:s.threads[k]?=some (fs++[f])):
  ∃O b1 fc IA i ic S l lc,HA=some ⟨O,0,none⟩∧k<hn∧O<w.heap.size∧b1<w.heap.size∧O∈bQ∧b1∈cb∧i=f.ints.length∧l=f.av.length∧
   w.cell? ⟨O,k,none⟩=some (.slice (some ⟨b1,0,none⟩) (fs.length+1) fc)∧fs.length+1≤fc∧
   w.cell? ⟨b1,fs.length*4,none⟩=some (.int .i64 f.proc)∧w.cell? ⟨b1,fs.length*4+1,none⟩=some (.int .i64 f.pc)∧w.cell? ⟨b1,fs.length*4+2,none⟩=some (.slice IA i ic)∧w.cell? ⟨b1,fs.length*4+3,none⟩=some (.slice S l lc)∧
   (∀j,w.frozen? ⟨O,j,none⟩=false)∧(∀j,w.frozen? ⟨b1,j,none⟩=false)∧
   (∀v,qO (w.setCell ⟨b1,fs.length*4+1,none⟩ (.int .i64 v)) {s with threads:=s.threads.set k (fs++[{f with pc:=v}])} GA gn gc TA tn tc HA hn hc xs F1 F2 bQ cb)∧
   (∀j v,j<i→∃I,IA=some ⟨I,0,none⟩∧I<w.heap.size∧I∈cb∧w.frozen? ⟨I,j,none⟩=false∧(∃u,w.cell? ⟨I,j,none⟩=some u)∧qO (w.setCell ⟨I,j,none⟩ (.int .i64 v)) {s with threads:=s.threads.set k (fs++[{f with ints:=f.ints.set j v}])} GA gn gc TA tn tc HA hn hc xs F1 F2 bQ cb)∧
   (∃e d,qO (w.setCell ⟨O,k,none⟩ (.slice (some ⟨b1,0,none⟩) fs.length fc)) {s with threads:=s.threads.set k fs} GA gn gc TA tn tc HA hn hc e F1 F2 bQ d∧∀b∈d,b∈cb):=by
 obtain⟨x,U,G,g,aa,aL,hx,c1,c2⟩:=h.hs.at_ oj.ak oj.len bK;obtain⟨FA,n,c,cK,bJ,bD,rfl,rfl,ct,bn,J⟩:=aL;have bc:k<s.threads.length:=(List.getElem?_eq_some_iff.1 bK).1;have cp:k<hn:=by rw[h.hl];exact bc
 have b9:n=fs.length+1:=by simpa using ct
 obtain⟨b1,rfl,rfl,cf,aC,ah,cj⟩:=bn.block ad;obtain⟨O,mC,aY,cE,o,t,A⟩:=h.h.block ad;obtain⟨y,bu,C,a6,rfl,B,bb,d1,d2⟩:=J.at_ (k:=fs.length) (a:=f) o9.ak o9.len (by simp);obtain⟨IA,i,ic,S,l,lc,q,M2,rfl,rfl,an,hl,r,bv⟩:=B;subst aa aY mC;have nd:=h.nd;have nf:∀b∈(F1++(F2++([O]++U)))++(bu++((q++M2)++(a6++g))),b≠b1:=eF (by simpa[KU] using nd);have z:∀b∈(F1++F2)++(U++(b1::(bu++(q++(M2++(a6++g)))))),b≠O:=eF (by simpa[KU] using nd);refine⟨O,b1,c,IA,i,ic,S,l,lc,rfl,cp,cE,cf,by simp,by simp,an,hl,?_,?_,?_,?_,?_,?_,t,ah,fun v=>?_,fun j v bi=>?_,?_⟩
 ·rw[←b9];have:=hx 0 _ rfl;rw[Nat.mul_one,KQ] at this;exact o _ _ this
 ·rw[←b9];exact bn.cap
 ·exact aC _ _ (by have:=bb 0 _ rfl;rwa [KQ] at this)
 ·exact aC _ _ (bb 1 _ rfl)
 ·exact aC _ _ (bb 2 _ rfl)
 ·exact aC _ _ (bb 3 _ rfl)
 ·have ap:∀b,b≠b1→(w.setCell ⟨b1,fs.length*4+1,none⟩ (.int .i64 v)).heap[b]?=w.heap[b]?:=fun b O=>aR O;have e1:o9 (w.setCell ⟨b1,fs.length*4+1,none⟩ (.int .i64 v)) {f with pc:=v} ([.int .i64 f.proc,.int .i64 f.pc,.slice IA i ic,.slice S l lc].set 1 (.int .i64 v)) (q++M2):=
   ⟨IA,i,ic,S,l,lc,q,M2,rfl,rfl,an,hl,r.ak fun b O=>ap b (nf b (by simp[O])),bv.ak fun b O=>ap b (nf b (by simp[O]))⟩
  have e2:=d2 _ _ 1 (.int .i64 v) _ (fun b O=>ap b (nf b (by simp at O ⊢;rcases O with O|O<;>simp[O]))) ad e1;rw[List.set_append_right _ _ (KG _),Nat.sub_self,List.set_cons_zero] at e2;have e3:oj (w.setCell ⟨b1,fs.length*4+1,none⟩ (.int .i64 v)) (fs++[{f with pc:=v}]) _ _:=⟨some ⟨b1,0,none⟩,n,c,_,[b1],_,rfl,rfl,by simpa using b9,cj _ (.int .i64 v) (by rw[b9];omega),e2⟩
  have cH:=c1 _ _ _ (fun b O=>ap b (nf b (by simp at O ⊢;rcases O with O|O<;>simp[O]))) e3;exact⟨h.gl,h.tl,by simpa using h.hl,h.g.ak fun b O=>ap b (nf b (by simp[O])),h.t.ak fun b O=>ap b (nf b (by simp[O])),h.h.ak fun b O=>ap b (nf b (by simp at O;simp[O])),cH,nd⟩
 ·obtain⟨I,rfl,rfl,cD,aN,T,ax⟩:=r.block ad;have dK:∀b∈(F1++(F2++([O]++(U++(b1::bu)))))++(M2++(a6++g)),b≠I:=eF (by simpa[KU] using nd);have ap:∀b,b≠I→(w.setCell ⟨I,j,none⟩ (.int .i64 v)).heap[b]?=w.heap[b]?:=fun b O=>aR O;have e0:=ax j (.int .i64 v) ad;rw[show (f.ints.map dc).set j (.int .i64 v)=(f.ints.set j v).map dc from (List.map_set (f:=dc)).symm] at e0;have e1:o9 (w.setCell ⟨I,j,none⟩ (.int .i64 v)) {f with ints:=f.ints.set j v} [.int .i64 f.proc,.int .i64 f.pc,.slice (some ⟨I,0,none⟩) i ic,.slice S l lc] ([I]++M2):=
   ⟨some ⟨I,0,none⟩,i,ic,S,l,lc,[I],M2,rfl,rfl,by simpa using an,hl,e0,bv.ak fun b O=>ap b (dK b (by simp[O]))⟩
  have e2:=d1 _ _ _ (fun b O=>ap b (dK b (by simp at O ⊢;rcases O with O|O<;>simp[O]))) e1;rw[List.set_append_right _ _ (KG _),Nat.sub_self,List.set_cons_zero] at e2;have e3:oj (w.setCell ⟨I,j,none⟩ (.int .i64 v)) (fs++[{f with ints:=f.ints.set j v}]) _ _:=⟨some ⟨b1,0,none⟩,n,c,_,[b1],_,rfl,rfl,by simpa using b9,bn.ak fun b O=>ap b (dK b (by simp at O;simp[O])),e2⟩
  have cH:=c1 _ _ _ (fun b O=>ap b (dK b (by simp at O ⊢;rcases O with O|O<;>simp[O]))) e3;refine⟨I,rfl,cD,by simp,T _,⟨.int .i64 (f.ints[j]'ad),aN _ _ (by rw[List.getElem?_map,List.getElem?_eq_getElem ad];rfl)⟩,h.gl,h.tl,by simpa using h.hl,h.g.ak fun b O=>ap b (dK b (by simp[O])),h.t.ak fun b O=>ap b (dK b (by simp[O])),h.h.ak fun b O=>ap b (dK b (by simp at O;simp[O])),cH,nd⟩
 ·have ap:∀b,b≠O→(w.setCell ⟨O,k,none⟩ (.slice (some ⟨b1,0,none⟩) fs.length c)).heap[b]?=w.heap[b]?:=fun b h=>aR h;obtain⟨R,hp,E⟩:=J.take o9.len fs.length;rw[List.take_left] at hp;have H:∀b∈R,b∈bu++(q++(M2++a6)):=fun b O=>by have:=E.subset O;simpa[KU] using this
  have e3:oj (w.setCell ⟨O,k,none⟩ (.slice (some ⟨b1,0,none⟩) fs.length c)) fs ([.slice (some ⟨b1,0,none⟩) n c].set 0 (.slice (some ⟨b1,0,none⟩) fs.length c)) ([b1]++R):=
   ⟨some ⟨b1,0,none⟩,fs.length,c,_,[b1],R,rfl,rfl,rfl,(bn.shorter (m:=fs.length) ad ad).ak fun b O=>ap b (z b (by simp at O;simp[O])),hp.ak o9.ak fun b O=>ap b (z b (by have:=H b O;simp at this ⊢;rcases this with h|h|h|h<;>simp[h]))⟩
  have cH:=c2 _ _ 0 (.slice (some ⟨b1,0,none⟩) fs.length c) _ (fun b O=>ap b (z b (by simp at O ⊢;rcases O with O|O<;>simp[O]))) ad e3;rw[Nat.mul_one,KQ] at cH;refine⟨_,_,⟨h.gl,h.tl,by simpa using h.hl,h.g.ak fun b O=>ap b (z b (by simp[O])),h.t.ak fun b O=>ap b (z b (by simp[O])),A k _ ad,cH,?_⟩,fun b O=>?_⟩
  ·refine List.Sublist.nodup (l₂:=F1++(F2++([O]++(U++(([b1]++(bu++((q++M2)++a6)))++g))))) ?_ nd;exact(List.Sublist.refl _).append ((List.Sublist.refl _).append ((List.Sublist.refl _).append ((List.Sublist.refl _).append (((List.Sublist.refl _).append E.sublist).append (List.Sublist.refl _)))))
  ·simp only[KP] at O ⊢;rcases O with O|(O|O)|O
   ·exact .inl O
   ·exact .inr (.inl (.inl O))
   ·exact .inr (.inl (.inr (by have:=E.subset O;simpa only[KP] using this)))
   ·exact .inr (.inr O)
theorem qO.dg(h:qO w s GA gn gc TA tn tc HA hn hc xs F1 F2 bQ cb){j:Nat}(bi:j<gn):∃ck,GA=some ⟨ck,0,none⟩∧ck<w.heap.size∧w.frozen? ⟨ck,j,none⟩=false∧(∃u,w.cell? ⟨ck,j,none⟩=some u)∧ck∈F1∧
  ∀v,qO (w.setCell ⟨ck,j,none⟩ (.int .i64 v)) {s with globals:=s.globals.set j v} GA gn gc TA tn tc HA hn hc xs F1 F2 bQ cb:=by
 obtain⟨ck,y,U,ci,ay,a,bJ⟩:=h.g.block ad;subst y U;have nd:=h.nd;have ng:∀b∈[]++(F2++(bQ++cb)),b≠ck:=eF (by simpa using nd);have rD:=h.gl;refine⟨ck,rfl,ci,a _,⟨.int .i64 (s.globals[j]'ad),ay _ _ (by rw[List.getElem?_map,List.getElem?_eq_getElem ad];rfl)⟩,by simp,fun v=>?_⟩;have ap:∀b,b≠ck→(w.setCell ⟨ck,j,none⟩ (.int .i64 v)).heap[b]?=w.heap[b]?:=fun b O=>aR O;have e0:=bJ j (.int .i64 v) ad;rw[show (s.globals.map dc).set j (.int .i64 v)=(s.globals.set j v).map dc from (List.map_set (f:=dc)).symm] at e0;exact⟨by simpa using h.gl,h.tl,h.hl,e0,h.t.ak fun b O=>ap b (ng b (by simp[O])),h.h.ak fun b O=>ap b (ng b (by simp[O])),h.hs.ak oj.ak fun b O=>ap b (ng b (by simp[O])),nd⟩
theorem qO.HU(h:qO w s GA gn gc TA tn tc HA hn hc xs F1 F2 bQ cb){T:List cy}{aX:Ls}{L:Nat}(hT:w.ownsRow 0 102 2 (.slice aX m L) m (T.flatMap bJ))(hl:m=T.length)(hd:∀b∈bq aX m L,b∉F1++(F2++(bQ++cb))):
  qO w {s with table:=T} GA gn gc aX m L HA hn hc xs F1 (bq aX m L) bQ cb:=by
 refine⟨h.gl,hl,h.hl,h.g,⟨hT,rfl⟩,h.h,h.hs,?_⟩;have nd:=h.nd;have n1:=List.nodup_append.1 nd;have n2:=List.nodup_append.1 n1.2.1;refine List.nodup_append.2 ⟨n1.1,List.nodup_append.2 ⟨?_,n2.2.1,fun a bx b O ay=>?_⟩,fun a bx b O ay=>?_⟩
 ·unfold bq;cases (Value.slice aX m L).ownBlock<;>simp
 ·subst ay;exact hd a bx (by simp at O ⊢;rcases O with O|O<;>simp[O])
 ·subst ay;rcases KP.1 O with O|O
  ·exact hd a O (by simp[bx])
  ·exact n1.2.2 a bx a (by simp at O ⊢;rcases O with O|O<;>simp[O]) rfl
end
theorem tK(l:List Int):l.flatMap cM=l.map dc:=tL l
theorem lQ(A:Ls)(n c:Nat)(l:List Int)(w:World)(h:cq (EF cM) 1 w w.heap.size A n l)(hn:n≤100000) :
  Calls prog 50 #[.slice A n c] w fun r ab=>∃I aK,r=.returned (.slice I n aK)∧ab.ownsRow w.heap.size 3 1 (.slice I n aK) n (l.map dc)∧Below w.heap.size w ab:=by
 have heq:=fun W=>rR (P:=prog) W 22 3 A n c 0 0 Tryz.underlying22;rcases A with _|a
 ·have aM:n=0:=by
   rcases Nat.eq_zero_or_pos n with h0|h0
   ·exact h0
   ·obtain⟨b,o,h,_⟩:=h.2 h0;cases h
  subst aM;have hT:l=[]:=List.eq_nil_of_length_eq_zero h.1;subst hT;go_enter func50,ntmps50;exact zH
 ·have ay:=Src.lx h (jA l) (mH l) ad;rw[tK] at ay;go_enter func50,ntmps50;go_wp2_with(at_builtin;refine fT _ de (by rfl) (.tmp 5) (.tmp 6) (by rfl) (by rfl) _ _ _ _ (by rfl) ay ad ad (fun h=>nomatch h) ?_;intro bY c1 aS bb bU);go_ret;exact⟨bY,c1,rfl,bb,bU⟩
theorem Sl.lQ{A:Ls}{n c:Nat}{l:List Int}{w:World}(h:Sl w (au w) A n (l.map D.i))(hn:n≤100000) :
  Calls prog 50 #[.slice A n c] w fun r ab=>∃I aK,r=.returned (.slice I n aK)∧Own ab 3 1 I n aK (l.map dc) (bq I n aK)∧(∀b∈bq I n aK,w.heap.size≤b∧b<ab.heap.size)∧Ext w ab:=
 (Go.Proofs.YtnhhdaggkiomoaaGreat.lQ A n c l w h.ints hn).mono fun r ab ⟨I,aK,a5,bn,O⟩=>⟨I,aK,a5,⟨g9 bn (Ld _),rfl⟩,fun b O=>bn.lt b (by simpa using O),Fr.of O⟩
theorem Sl.vJ{A:Ls}{n c:Nat}{l:List cy}{w:World}(h:Sl w (au w) A n (l.map lj))(hn:n≤5000):
  Calls prog 85 #[.slice A n c] w fun r ab=>∃I aK,r=.returned (.slice I n aK)∧Own ab 102 2 I n aK (l.flatMap bJ) (bq I n aK)∧(∀b∈bq I n aK,w.heap.size≤b∧b<ab.heap.size)∧Ext w ab:=
 (na A n c l w h.holds hn).mono fun r ab ⟨I,aK,a5,bn,O⟩=>⟨I,aK,a5,⟨g9 bn (Ld _),rfl⟩,fun b O=>bn.lt b (by simpa using O),Fr.of O⟩
section
variable {P:Program} {e t:TypeId} {z:Value} {size bytes:Nat}
theorem eW(A:Ls)(n c:Nat):(bq A n c).Nodup:=by unfold bq;cases (Value.slice A n c).ownBlock<;>simp
namespace Ca
theorem AW{p:Prop}(h:p:=by
 refine h I aK ab ⟨bP,rfl⟩ (Lo.grown a2 fun g a2=>.inl (by rw[h0.eq];simp[a2])) fun b O=>?_;have aX:(Value.slice I (n+1) aK).ownBlock=some b:=by simpa using O
 rcases H with H|H
 ·rw[H] at aX;exact .inl (by rw[h0.eq];simp[aX])
 ·have:=(bP.lt b aX).2;rw[H] at aX;injection aX with aX;right;simp at aX;omega
 ):p:=h
end Ca
open Ca in
theorem x4{K:Act→World→Prop}(bw:ch P t e z size bytes)(s x:Operand)
  (bn:o.op=.call {callee:=.builtin .append,args:=#[s,x],argTypes:=#[t,t]})
  {A:Ls} {n c:Nat} {xs:List Value} {F:List Nat} (h0:Own S e size A n c xs F) {cs:Array Value}
  (hs:a.eval s=.slice A n c) (hx:a.eval x=.slice (some ⟨S.heap.size,0,none⟩) 1 1) (T:cs.size=size) (ac:∀u∈cs.toList,u.oneCell'=true)
  (r:(n+1)*bytes≤140737488355328) (y:n+1≤140737488355328)
  (h:∀I aK ab,Own ab e size I (n+1) aK (xs++cs.toList) (bq I (n+1) aK)→Fr (fun b=>b∈F) S ab→(∀b∈bq I (n+1) aK,b∈F∨(S.heap.size≤b∧b<ab.heap.size))→K (a.put o.dst (.slice I (n+1) aK)) ab):o.wp P a (S.alloc (.cells cs e)) K Q:=by
 refine j8 _ bw s x bn 0 _ n xs hs (h0.row.alloc _) _ 1 1 cs.toList hx (Src.block (heap_alloc_new S _) 1 ad ac) r y (Ld _) (fun h=>nomatch h) fun G ab bP cU H=>?_;exact AV
theorem oe{ops:Array Oper}{rest:List Oper}(bw:ch P t e z size bytes)(i:o.guard=none)(s x:Operand)
  (bn:o.op=.call {callee:=.builtin .append,args:=#[s,x],argTypes:=#[t,t]})
  {A:Ls} {n c:Nat} {xs:List Value} {F:List Nat} (h0:Own S e size A n c xs F) {cs:Array Value}
  (hs:a.eval s=.slice A n c) (hx:a.eval x=.slice (some ⟨S.heap.size,0,none⟩) 1 1) (T:cs.size=size) (ac:∀u∈cs.toList,u.oneCell'=true)
  (r:(n+1)*bytes≤140737488355328) (y:n+1≤140737488355328)
  (h:∀I aK ab,Own ab e size I (n+1) aK (xs++cs.toList) (bq I (n+1) aK)→Fr (fun b=>b∈F) S ab→(∀b∈bq I (n+1) aK,b∈F∨(S.heap.size≤b∧b<ab.heap.size))→wpList P ops Q rest (a.put o.dst (.slice I (n+1) aK)) ab):wpList P ops Q (o::rest) a (S.alloc (.cells cs e)):=
 wpList_plain i fun _ hK=>x4 bw s x bn h0 hs hx T ac r y fun I aK ab cd g2 cS=>hK _ _ (h I aK ab cd g2 cS)
end
theorem xJ{bJ f I:List Nat}{a:Nat}(h:(bJ++bD).Nodup)(ak:∀x∈bJ++bD,x<a)(hI:I.Nodup)(d:∀x∈I,a≤x∧x<b)(hK:f.Nodup)(g:∀x∈f,x∈bJ∨b≤x)(ay:a≤b):(f++(bD++I)).Nodup:=by
 have h0:=List.nodup_append.1 h;refine List.nodup_append.2 ⟨hK,List.nodup_append.2 ⟨h0.2.1,hI,fun x hx y bb c=>?_⟩,fun x hx y bb c=>?_⟩
 ·have:=ak x (by simp[hx]);have:=d y bb;omega
 ·subst c;rcases KP.1 bb with bb|bb
  ·rcases g x hx with ac|ac
   ·exact h0.2.2 x ac x bb rfl
   ·have:=ak x (by simp[bb]);omega
  ·have av:=d x bb;rcases g x hx with ac|ac
   ·have:=ak x (by simp[ac]);omega
   ·omega
theorem Hq{X Y:List Nat}(hX:X.Nodup)(cr:Y.Nodup)(ac:∀x∈X,x<m)(av:∀y∈Y,m≤y):(X++Y).Nodup:=
 List.nodup_append.2 ⟨hX,cr,fun x hx y bb c=>by have:=ac x hx;have:=av y bb;omega⟩
theorem wh{F1 F2 bQ cb:List Nat}:(F1++(F2++(bQ++cb))).Nodup↔(bQ++(F1++(F2++cb))).Nodup:=by
 have h:(F1++(F2++(bQ++cb))).Perm (bQ++(F1++(F2++cb))):=by
  rw[←List.append_assoc F1 F2,←List.append_assoc (F1++F2) bQ,←List.append_assoc F1 F2 cb,←List.append_assoc bQ];exact List.perm_append_comm.append_right cb
 exact h.nodup_iff
structure Small(s:aj):Prop where
 g:s.globals.length≤1000
 t:s.table.length≤5000
 h:s.threads.length≤1000
 f:∀t∈s.threads,t.length≤1000000∧∀f∈t,f.ints.length≤100000∧f.av.length≤100000
structure FU(B:Nat)(w:World)(s:aj)(GA:Ls)(gn gc:Nat)(TA:Ls)(tn tc N k:Nat)(HA:Ls)(hc:Nat)(xs:List Value)(bQ cb:List Nat):Prop where
 st:qO w {s with threads:=s.threads.take k} GA gn gc TA tn tc HA k hc xs (bq GA gn gc) (bq TA tn tc) bQ cb
 o:aq w N 40 #[.slice GA gn gc,.slice TA tn tc,.slice HA k hc,.int .i64 s.fault]
 ne:N∉bq GA gn gc++(bq TA tn tc++(bQ++cb))
 lo:∀b∈bq GA gn gc++(bq TA tn tc++(bQ++cb)),B≤b∧b<w.heap.size
 go:B≤N
section
variable {B:Nat} {w ab:World} {s:aj} {GA TA HA:Ls} {gn gc tn tc N k hc:Nat} {xs:List Value} {bQ cb:List Nat}
theorem FU.ai(h:FU B w s GA gn gc TA tn tc N k HA hc xs bQ cb)(he:Ext w ab):FU B ab s GA gn gc TA tn tc N k HA hc xs bQ cb:=
 ⟨h.st.ak fun b O=>he.block b (h.lo b O).2 fun h=>h,h.o.ai he,h.ne,fun b O=>⟨(h.lo b O).1,KH (h.lo b O).2 he.size⟩,h.go⟩
theorem FU.step(h:FU B w s GA gn gc TA tn tc N k HA hc xs bQ cb)(bK:s.threads[k]?=some fs){FA:Ls}{n c:Nat}{cK:List Value}{bJ:List Nat}{aS aT:World}(he:Ext w aS)
  (bn:Own aS 73 4 FA n c cK bJ) (J:ka o9 aS fs cK bD) (hn:n=fs.length) (nd:(bJ++bD).Nodup) (hK:∀b∈bJ++bD,w.heap.size≤b∧b<aS.heap.size)
  {bf:Ls} {a3:Nat} (a5:Own aT 69 1 bf (k+1) a3 (xs++[.slice FA n c]) (bq bf (k+1) a3)) (bE:Fr (fun b=>b∈bQ) aS aT) (r:∀b∈bq bf (k+1) a3,b∈bQ∨(aS.heap.size≤b∧b<aT.heap.size)) {X:World}
  (hX:aT.setCell ⟨N,2,none⟩ (.slice bf (k+1) a3)=X):FU B X s GA gn gc TA tn tc N (k+1) bf a3 (xs++[.slice FA n c]) (bq bf (k+1) a3) (cb++(bJ++bD)):=by
 have hw:=he.size;have bR:=bE.size;have cW:N<w.heap.size:=h.o.lt;have m:=h.st.nd;have l:=wh.1 m;have n2:=List.nodup_append.1 l;have j:∀b∈bq GA gn gc++(bq TA tn tc++cb),b∉bQ:=fun b O aV=>n2.2.2 b aV b O rfl;have ak:∀b∈bq GA gn gc++(bq TA tn tc++cb),b<w.heap.size∧b≠N:=fun b O=>by
  have aX:b∈bq GA gn gc++(bq TA tn tc++(bQ++cb)):=by
   exact zj
  exact⟨(h.lo b aX).2,fun he=>h.ne (he▸aX)⟩
 have aY:∀b∈bQ,b<w.heap.size∧b≠N:=fun b O=>by
  have aX:b∈bq GA gn gc++(bq TA tn tc++(bQ++cb)):=by simp[O]
  exact⟨(h.lo b aX).2,fun he=>h.ne (he▸aX)⟩
 have i:∀b,b≠N→X.heap[b]?=aT.heap[b]?:=fun b O=>by rw[←hX];exact aR O
 have H:X.heap.size=aT.heap.size:=by rw[←hX];simp[World.setCell]
 have d:∀b∈bq GA gn gc++(bq TA tn tc++cb),X.heap[b]?=w.heap[b]?:=fun b O=>
  (i b (ak b O).2).trans ((bE.block b (by have:=(ak b O).1;omega) (j b O)).trans (he.block b (ak b O).1 fun h=>h))
 have f:∀b∈bJ++bD,X.heap[b]?=aS.heap[b]?:=fun b O=>
  (i b (aD (hK b O))).trans (bE.block b (hK b O).2 fun aV=>by have:=hK b O;have:=(aY b aV).1;omega)
 have g:∀b∈bq bf (k+1) a3,b≠N:=fun b O=>by
  rcases r b O with ac|ac
  ·exact(aY b ac).2
  ·omega
 have aL:oj X fs [.slice FA n c] (bJ++bD):=⟨FA,n,c,cK,bJ,bD,rfl,rfl,hn,bn.ak fun b O=>f b (by simp[O]),J.ak o9.ak fun b O=>f b (by simp[O])⟩
 have dL:s.threads.take (k+1)=s.threads.take k++[fs]:=aZ bK;refine⟨⟨h.st.gl,h.st.tl,?_,h.st.g.ak fun b O=>d b (by simp only[KP];exact .inl O),h.st.t.ak fun b O=>d b (by simp only[KP];exact .inr (.inl O)),a5.ak fun b O=>i b (g b O),?_,?_⟩,?_,?_,fun b O=>?_,h.go⟩
 ·have:=h.st.hl;show k+1=(s.threads.take (k+1)).length
  rw[dL,KI,←this];rfl
 ·show ka oj X (s.threads.take (k+1)) _ _
  rw[dL];exact(h.st.hs.ak oj.ak fun b O=>d b (by simp[O])).snoc aL
 ·refine wh.2 ?_;rw[show bq GA gn gc++(bq TA tn tc++(cb++(bJ++bD)))=(bq GA gn gc++(bq TA tn tc++cb))++(bJ++bD) by simp];refine xJ (a:=w.heap.size) (b:=aS.heap.size) l (fun x hx=>?_) nd hK (eW _ _ _) (fun x hx=>(r x hx).imp id fun h=>h.1) hw;rcases KP.1 hx with hx|hx
  ·exact(aY x hx).1
  ·exact(ak x hx).1
 ·have:=(h.o.ai he).on bE fun aV=>(aY _ aV).2 rfl;rw[←hX];exact this.aM 2 _
 ·intro a2;simp only[KP] at a2;have ac:=h.ne;simp only[KP] at ac;rcases a2 with a2|a2|a2|a2|a2|a2
  ·exact ac (.inl a2)
  ·exact ac (.inr (.inl a2))
  ·exact g _ a2 rfl
  ·exact ac (.inr (.inr (.inr a2)))
  ·have:=hK N (by simp[a2]);omega
  ·have:=hK N (by simp[a2]);omega
 ·rw[H];simp only[KP] at O;have hl:=h.lo;rcases O with O|O|O|O|O|O
  ·have:=hl b (by simp[O]);omega
  ·have:=hl b (by simp[O]);omega
  ·rcases r b O with ac|ac
   ·have:=hl b (by simp[ac]);omega
   ·have:=h.go;omega
  ·have:=hl b (by simp[O]);omega
  ·have:=hK b (by simp[O]);have:=h.go;omega
  ·have:=hK b (by simp[O]);have:=h.go;omega
end
end Go.Proofs.YtnhhdaggkiomoaaGreat

/- Part 16 of the proof (Sta Stb McA McB), without conditions of its own. -/
import Derived.Test.YtjhgbdckgkppnaaGreatQ15
namespace Go.Proofs.YtjhgbdckgkppnaaGreat
open Go.RowKit Go.Proofs.Tryz
set_option maxRecDepth 1000000
set_option maxHeartbeats 25600000
set_option linter.unusedVariables false
variable{a:Act}{Q:Exit→Act→World→Prop}{bI bq:List Nat}{cs:List Value}{fs:List aq}{b m:Nat}{o:Oper}{S:World}{f:aq}
structure kW(w:World)(P:Nat→Prop)(s:an)(GA:GR)(gn:Nat)(TA:GR)(tn:Nat)(HA:GR)(hn:Nat):Prop where
 g:Sl w P GA gn (s.globals.map .i)
 t:Sl w P TA tn (s.table.map mQ)
 h:Sl w P HA hn (s.threads.map kD)
section
variable {w ab:World} {P c8:Nat→Prop} {s:an} {GA TA HA:GR} {gn gc tn tc hn hc:Nat}
theorem kW.on(h:kW w (au w) s GA gn TA tn HA hn)(he:Ext w ab):kW ab (au ab) s GA gn TA tn HA hn:=⟨h.g.on (Fr.ext he),h.t.on (Fr.ext he),h.h.on (Fr.ext he)⟩
theorem kW.mono(h:kW w P s GA gn TA tn HA hn)(hp:∀b,P b→c8 b):kW w c8 s GA gn TA tn HA hn:=⟨h.g.mono hp,h.t.mono hp,h.h.mono hp⟩
theorem k4:(fh f).rep w P cs↔∃IA i ic bj l lc,cs=[.int .i64 f.proc,.int .i64 f.pc,.slice IA i ic,.slice bj l lc]∧i≤ic∧l≤lc∧Sl w P IA i (f.ints.map D.i)∧Sl w P bj l (f.av.map D.i):=by
 unfold fh;rw[bw];constructor
 ·intro h;obtain⟨y,rfl,ac⟩:=a9.1 h;obtain⟨b2,rfl,J⟩:=a9.1 ac;obtain⟨A,n,c,bu,rfl,hc,hs,aS⟩:=aJ.1 J;obtain⟨A2,bl,c2,bA,rfl,ce,bK,bo⟩:=aJ.1 aS;rw[aM] at bo;subst bo;exact⟨A,n,c,A2,bl,c2,rfl,hc,ce,hs,bK⟩
 ·rintro⟨A,n,c,A2,bl,c2,rfl,hc,ce,hs,bK⟩;exact a9.2 ⟨_,rfl,a9.2 ⟨_,rfl,aJ.2 ⟨A,n,c,_,rfl,hc,hs,aJ.2 ⟨A2,bl,c2,_,rfl,ce,bK,aM.2 rfl⟩⟩⟩⟩
theorem B0(f:aq):(fh f).sz=4:=rfl
theorem B1(t:List aq):(kD t).sz=1:=rfl
theorem iA{t:List aq}:(kD t).rep w P cs↔∃A n c,cs=[.slice A n c]∧n≤c∧Sl w P A n (t.map fh):=by
 unfold kD;rw[bw];constructor
 ·intro h;obtain⟨A,n,c,y,rfl,hc,hs,ac⟩:=aJ.1 h;rw[aM] at ac;subst ac;exact⟨A,n,c,rfl,hc,hs⟩
 ·rintro⟨A,n,c,rfl,hc,hs⟩;exact aJ.2 ⟨A,n,c,_,rfl,hc,hs,aM.2 rfl⟩
theorem Sl.mF{A:GR}{n:Nat}{l:List (List aq)}(h:Sl w P A n (l.map kD)){k:Nat}(ap:k<n):
  ∃b o t FA m c,A=some ⟨b,o,none⟩∧P b∧l[k]?=some t∧w.cell? ⟨b,o+k,none⟩=some (.slice FA m c)∧m≤c∧Sl w P FA m (t.map fh):=by
 obtain⟨b,o,t,cs,bb,O,hx,aX,_,hc⟩:=Sl.fJ (z:=1) h B1 ap;obtain⟨FA,m,c,rfl,ac,J⟩:=iA.1 aX;have aS:=hc 0 _ rfl;simp only[Nat.mul_one,Gl] at aS;exact⟨b,o,t,FA,m,c,bb,O,hx,aS,ac,J⟩
theorem Sl.n3{A:GR}{n:Nat}{l:List aq}(h:Sl w P A n (l.map fh)){k:Nat}(ap:k<n):
  ∃b o f IA i ic bj m lc,A=some ⟨b,o,none⟩∧P b∧l[k]?=some f∧w.cell? ⟨b,o+k*4,none⟩=some (.int .i64 f.proc)∧w.cell? ⟨b,o+k*4+1,none⟩=some (.int .i64 f.pc)∧w.cell? ⟨b,o+k*4+2,none⟩=some (.slice IA i ic)∧
   w.cell? ⟨b,o+k*4+3,none⟩=some (.slice bj m lc)∧i≤ic∧m≤lc∧Sl w P IA i (f.ints.map D.i)∧Sl w P bj m (f.av.map D.i):=by
 obtain⟨b,o,f,cs,bb,O,hx,aX,_,hc⟩:=Sl.fJ (z:=4) h B0 ap;obtain⟨IA,i,ic,bj,m,lc,rfl,ac,J,aS,bo⟩:=k4.1 aX;have cr:=hc 0 _ rfl;simp only[Gl] at cr;exact⟨b,o,f,IA,i,ic,bj,m,lc,bb,O,hx,cr,hc 1 _ rfl,hc 2 _ rfl,hc 3 _ rfl,ac,J,aS,bo⟩
end
abbrev bB(A:GR)(n c:Nat):List Nat:=(Value.slice A n c).ownBlock.toList
structure Own(w:World)(e:TypeId)(z:Nat)(A:GR)(n c:Nat)(xs:List Value)(F:List Nat):Prop where
 row:w.ownsRow 0 e z (.slice A n c) n xs
 eq:F=bB A n c
section
variable {w ab:World} {e:TypeId} {z n c:Nat} {A:GR} {xs:List Value} {F:List Nat}
theorem Own.ao(h:Own w e z A n c xs F)(ap:∀b∈F,ab.heap[b]?=w.heap[b]?):Own ab e z A n c xs F:=by
 refine⟨⟨h.row.1,?_⟩,h.eq⟩;rcases h.row.2 with J|⟨g,cap,cur,bC,O,aM,rest⟩
 ·exact .inl J
 ·exact .inr ⟨g,cap,cur,bC,O,(ap g (by rw[h.eq];unfold bB;rw[bC];simp[Value.ownBlock])).trans aM,rest⟩
theorem Own.cap(h:Own w e z A n c xs F):n≤c:=by
 obtain⟨az,aG,bC,ac,_⟩:=bT h.row;injection bC with _ _ bC;omega
theorem Own.lt(h:Own w e z A n c xs F):∀b∈F,b<w.heap.size:=fun b O=>by
 rw[h.eq] at O;exact(h.row.lt b (by simpa using O)).2
theorem Own.block(h:Own w e z A n c xs F)(hn:0<n):∃g,A=some ⟨g,0,none⟩∧F=[g]∧g<w.heap.size∧(∀j u,xs[j]?=some u→w.cell? ⟨g,j,none⟩=some u)∧(∀j,w.frozen? ⟨g,j,none⟩=false)∧
  ∀j u,j<n*z→Own (w.setCell ⟨g,j,none⟩ u) e z A n c (xs.set j u) F:=by
 obtain⟨g,bb,_,ao,hc,aw,hs⟩:=j9 h.row hn;subst bb;exact⟨g,rfl,h.eq,ao,hc,aw,fun j u ba=>⟨hs j u ba,h.eq⟩⟩
theorem Own.sl{l:List D}{P:Nat→Prop}(h:Own w e z A n c xs F)(aX:D.aL w P l xs)(hl:l.length=n)(hF:∀b∈F,P b):Sl w P A n l:=
 Sl.om h.row aX hl fun g aM _ _=>hF g (by rw[h.eq,aM];simp[Value.ownBlock])
theorem Own.shorter(h:Own w e z A n c xs F)(hm:m≤n)(hn:0<n):Own w e z A m c (xs.take (m*z)) F:=by
 refine⟨⟨by rw[List.length_take,h.row.1];exact Nat.min_eq_left (Nat.mul_le_mul_right _ hm),?_⟩,by rw[h.eq];cases A<;>rfl⟩;rcases h.row.2 with⟨_,J⟩|⟨g,cap,cur,bC,O,aM,ac,J,aS,bo⟩
 ·omega
 ·injection bC with bb _ hc;subst bb hc;exact .inr ⟨g,c,cur,rfl,O,aM,ad,J,aS,by rw[←bo,List.take_take,Nat.min_eq_left (Nat.mul_le_mul_right _ hm)]⟩
end
def jg{α:Type}(E:World→α→List Value→List Nat→Prop)(w:World):List α→List Value→List Nat→Prop
 | [],xs,F=>xs=[]∧F=[]
 | a::l,xs,F=>∃x y ak ar,xs=x++y∧F=ak++ar∧E w a x ak∧jg E w l y ar
section
variable {α:Type} {E:World→α→List Value→List Nat→Prop} {z:Nat}
def t4(E:World→α→List Value→List Nat→Prop):Prop:=∀(w ab:World) (a:α) (x:List Value) (F:List Nat),E w a x F→(∀b∈F,ab.heap[b]?=w.heap[b]?)→E ab a x F
def v5(z:Nat)(E:World→α→List Value→List Nat→Prop):Prop:=∀(w:World) (a:α) (x:List Value) (F:List Nat),E w a x F→x.length=z
theorem jg.ao(av:t4 E){w ab:World}:∀{l:List α} {xs:List Value} {F:List Nat},jg E w l xs F→(∀b∈F,ab.heap[b]?=w.heap[b]?)→jg E ab l xs F
 | [],_,_,h,_=>h
 | a::l,xs,F,h,ap=>by
  obtain⟨x,y,ak,ar,rfl,rfl,ac,J⟩:=h;exact⟨x,y,ak,ar,rfl,rfl,av _ _ _ _ _ ac fun b O=>ap b (by simp[O]),jg.ao av J fun b O=>ap b (by simp[O])⟩
theorem jg.snoc{w:World}{a:α}{x:List Value}{f:List Nat}:∀{l:List α} {xs:List Value} {F:List Nat},jg E w l xs F→E w a x f→jg E w (l++[a]) (xs++x) (F++f)
 | [],_,_,⟨ac,J⟩,he=>by
  subst ac J
  exact⟨x,[],f,[],by simp,by simp,he,rfl,rfl⟩
 | b::l,xs,F,h,he=>by
  obtain⟨Z,y,ak,ar,rfl,rfl,ac,J⟩:=h;exact⟨Z,y++x,ak,ar++f,by simp,by simp,ac,jg.snoc J he⟩
theorem jg.len(bv:v5 z E){w:World}:∀{l:List α} {xs:List Value} {F:List Nat},jg E w l xs F→xs.length=l.length*z
 | [],_,_,⟨ac,_⟩=>by simp[ac]
 | a::l,xs,F,h=>by
  obtain⟨x,y,ak,ar,rfl,rfl,ac,J⟩:=h;rw[Gd,bv _ _ _ _ ac,jg.len bv J,Gp,Nat.succ_mul];omega
theorem jg.take{w:World}(bv:v5 z E):∀{l:List α} {xs:List Value} {F:List Nat},jg E w l xs F→∀k,∃ak,jg E w (l.take k) (xs.take (k*z)) ak∧ak <+: F
 | [],xs,F,⟨ac,J⟩,k=>⟨[],by subst ac;simp[jg],by simp⟩
 | a::l,xs,F,h,0=>⟨[],by simp[jg],by simp⟩
 | a::l,xs,F,h,k+1=>by
  obtain⟨x,y,ak,ar,rfl,rfl,ac,J⟩:=h;obtain⟨bS,aS,bo⟩:=jg.take bv J k;refine⟨ak++bS,⟨x,y.take (k*z),ak,bS,?_,rfl,ac,aS⟩,by simpa using bo⟩;have:=bv _ _ _ _ ac;rw[List.take_append,Gj (by rw[this,Nat.succ_mul];omega),this,show (k+1)*z - z=k*z by rw[Nat.succ_mul];omega]
theorem jg.at_(av:t4 E)(bv:v5 z E){w:World}:∀{l:List α} {xs:List Value} {F:List Nat},jg E w l xs F→∀{k:Nat} {a:α},l[k]?=some a→
  ∃x ak f ar,F=ak++(f++ar)∧E w a x f∧(∀j u,x[j]?=some u→xs[k*z+j]?=some u)∧
   (∀ab I d,(∀b∈ak++ar,ab.heap[b]?=w.heap[b]?)→E ab I x d→jg E ab (l.set k I) xs (ak++(d++ar)))∧
   (∀ab I j u d,(∀b∈ak++ar,ab.heap[b]?=w.heap[b]?)→j<z→E ab I (x.set j u) d→jg E ab (l.set k I) (xs.set (k*z+j) u) (ak++(d++ar)))
 | [],_,_,_,k,a,ap=>by simp at ap
 | b::l,xs,F,h,0,a,ap=>by
  obtain⟨x,y,ak,ar,rfl,rfl,ac,J⟩:=h;simp only[List.getElem?_cons_zero,GI] at ap;subst ap;have hx:=bv _ _ _ _ ac;refine⟨x,[],ak,ar,by simp,ac,fun j u ba=>?_,fun ab I d ap he=>⟨x,y,d,ar,rfl,by simp,he,jg.ao av J fun b O=>ap b (by simp[O])⟩,fun ab I j u d ap ba he=>⟨x.set j u,y,d,ar,?_,by simp,he,jg.ao av J fun b O=>ap b (by simp[O])⟩⟩
  ·rw[Nat.zero_mul,Gv,List.getElem?_append_left (List.getElem?_eq_some_iff.1 ba).1];exact ba
  ·rw[Nat.zero_mul,Gv,List.set_append_left _ _ ad]
 | b::l,xs,F,h,k+1,a,ap=>by
  obtain⟨bD,y,g,U,rfl,rfl,ac,J⟩:=h;simp only[List.getElem?_cons_succ] at ap;have hx:=bv _ _ _ _ ac;obtain⟨x,ak,f,ar,rfl,aS,bo,cr,aY⟩:=jg.at_ av bv J ap;have i:∀j,(k+1)*z+j=bD.length+(k*z+j):=fun j=>by rw[hx,Nat.succ_mul];omega
  refine⟨x,g++ak,f,ar,by simp,aS,fun j u ba=>?_,fun ab I d ap he=>⟨bD,y,g,ak++(d++ar),rfl,by simp,av _ _ _ _ _ ac fun b O=>ap b (by simp[O]),cr ab I d (fun b O=>ap b (by simp at O ⊢;rcases O with O|O<;>simp[O])) he⟩,
   fun ab I j u d ap ba he=>⟨bD,y.set (k*z+j) u,g,ak++(d++ar),?_,by simp,av _ _ _ _ _ ac fun b O=>ap b (by simp[O]),aY ab I j u d (fun b O=>ap b (by simp at O ⊢;rcases O with O|O<;>simp[O])) ba he⟩⟩
  ·rw[i,List.getElem?_append_right ad,Nat.add_sub_cancel_left];exact bo j u ba
  ·rw[i,List.set_append_right _ _ ad,Nat.add_sub_cancel_left]
theorem jg.aL{w:World}{P:Nat→Prop}{enc:α→D}(aX:∀a x F,E w a x F→(∀b∈F,P b)→(enc a).rep w P x):∀{l:List α} {xs:List Value} {F:List Nat},jg E w l xs F→(∀b∈F,P b)→D.aL w P (l.map enc) xs
 | [],_,_,⟨ac,_⟩,_=>by simp only[GC,D.aL];exact ac
 | a::l,xs,F,h,ap=>by
  obtain⟨x,y,ak,ar,rfl,rfl,ac,J⟩:=h;simp only[Gh,D.aL];exact⟨x,y,rfl,aX _ _ _ ac fun b O=>ap b (by simp[O]),jg.aL aX J fun b O=>ap b (by simp[O])⟩
end
abbrev dV:Int→Value:=Value.int .i64
def nt(w:World)(f:aq)(cs:List Value)(F:List Nat):Prop:=∃IA i ic bj l lc ak ar,cs=[.int .i64 f.proc,.int .i64 f.pc,.slice IA i ic,.slice bj l lc]∧F=ak++ar∧
 i=f.ints.length∧l=f.av.length∧Own w 3 1 IA i ic (f.ints.map dV) ak∧Own w 3 1 bj l lc (f.av.map dV) ar
def mN(w:World)(fs:List aq)(cs:List Value)(F:List Nat):Prop:=∃FA n c xs ak ar,cs=[.slice FA n c]∧F=ak++ar∧n=fs.length∧Own w 76 4 FA n c xs ak∧jg nt w fs xs ar
structure oR(w:World)(s:an)(GA:GR)(gn gc:Nat)(TA:GR)(tn tc:Nat)(HA:GR)(hn hc:Nat)(xs:List Value)(ak ar bS bX:List Nat):Prop where
 gl:gn=s.globals.length
 tl:tn=s.table.length
 hl:hn=s.threads.length
 g:Own w 3 1 GA gn gc (s.globals.map dV) ak
 t:Own w 87 2 TA tn tc (s.table.flatMap bZ) ar
 h:Own w 80 1 HA hn hc xs bS
 hs:jg mN w s.threads xs bX
 nd:(ak++(ar++(bS++bX))).Nodup
theorem nt.ao:t4 nt:=fun w ab a x F h ap=>by
 obtain⟨IA,i,ic,bj,l,lc,ak,ar,rfl,rfl,aJ,hl,ac,J⟩:=h;exact⟨IA,i,ic,bj,l,lc,ak,ar,rfl,rfl,aJ,hl,ac.ao fun b O=>ap b (by simp[O]),J.ao fun b O=>ap b (by simp[O])⟩
theorem nt.len:v5 4 nt:=fun w a x F h=>by
 obtain⟨IA,i,ic,bj,l,lc,ak,ar,rfl,_⟩:=h;rfl
theorem mN.ao:t4 mN:=fun w ab a x F h ap=>by
 obtain⟨FA,n,c,xs,ak,ar,rfl,rfl,hn,ac,J⟩:=h;exact⟨FA,n,c,xs,ak,ar,rfl,rfl,hn,ac.ao fun b O=>ap b (by simp[O]),J.ao nt.ao fun b O=>ap b (by simp[O])⟩
theorem mN.len:v5 1 mN:=fun w a x F h=>by
 obtain⟨FA,n,c,xs,ak,ar,rfl,_⟩:=h;rfl
theorem d0{w:World}{P:Nat→Prop}:∀(l:List Int),D.aL w P (l.map D.i) (l.map dV)
 | []=>by simp only[GC,D.aL]
 | a::l=>by simp only[Gh];exact a9.2 ⟨_,rfl,d0 l⟩
theorem fZ{w:World}{P:Nat→Prop}:∀(l:List ct),D.aL w P (l.map mQ) (l.flatMap bZ)
 | []=>by simp only[GC,D.aL,List.flatMap_nil]
 | a::l=>by
  simp only[Gh,Gx,D.aL];exact⟨_,_,rfl,by unfold mQ;exact a9.2 ⟨_,rfl,a9.2 ⟨_,rfl,aM.2 rfl⟩⟩,fZ l⟩
theorem nt.rep{w:World}{P:Nat→Prop}(f:aq)(x:List Value)(F:List Nat)(h:nt w f x F)(U:∀b∈F,P b):(fh f).rep w P x:=by
 obtain⟨IA,i,ic,bj,l,lc,ak,ar,rfl,rfl,aJ,hl,ac,J⟩:=h;exact k4.2 ⟨IA,i,ic,bj,l,lc,rfl,ac.cap,J.cap,ac.sl (d0 _) (by simp[aJ]) fun b O=>U b (by simp[O]),J.sl (d0 _) (by simp[hl]) fun b O=>U b (by simp[O])⟩
theorem mN.rep{w:World}{P:Nat→Prop}(t:List aq)(x:List Value)(F:List Nat)(h:mN w t x F)(U:∀b∈F,P b):(kD t).rep w P x:=by
 obtain⟨FA,n,c,xs,ak,ar,rfl,rfl,hn,ac,J⟩:=h;exact iA.2 ⟨FA,n,c,rfl,ac.cap,ac.sl (J.aL nt.rep fun b O=>U b (by simp[O])) (by simp[hn]) fun b O=>U b (by simp[O])⟩
section
variable {w ab:World} {P c8:Nat→Prop} {s:an} {GA TA HA:GR} {gn gc tn tc hn hc:Nat} {xs:List Value} {ak ar bS bX:List Nat}
theorem oR.at_(h:oR w s GA gn gc TA tn tc HA hn hc xs ak ar bS bX)(U:∀b∈ak++(ar++(bS++bX)),P b):kW w P s GA gn TA tn HA hn:=
 ⟨h.g.sl (d0 _) (by simp[h.gl]) fun b O=>U b (by simp[O]),h.t.sl (fZ _) (by simp[h.tl]) fun b O=>U b (by simp[O]),h.h.sl (h.hs.aL mN.rep fun b O=>U b (by simp[O])) (by simp[h.hl]) fun b O=>U b (by simp[O])⟩
theorem oR.ao(h:oR w s GA gn gc TA tn tc HA hn hc xs ak ar bS bX)(ap:∀b∈ak++(ar++(bS++bX)),ab.heap[b]?=w.heap[b]?):oR ab s GA gn gc TA tn tc HA hn hc xs ak ar bS bX:=
 ⟨h.gl,h.tl,h.hl,h.g.ao fun b O=>ap b (by simp[O]),h.t.ao fun b O=>ap b (by simp[O]),h.h.ao fun b O=>ap b (by simp[O]),h.hs.ao mN.ao fun b O=>ap b (by simp[O]),h.nd⟩
end
theorem g6{A B:List Nat}{x:Nat}(h:(A++x::B).Nodup):∀b∈A++B,b≠x:=by
 intro b O he;subst he;have:=(List.perm_middle (a:=b) (l₁:=A) (l₂:=B)).nodup_iff.1 h;exact(List.nodup_cons.1 this).1 O
theorem j6{α:Type}{g:α→α}{x:α}:∀{l:List α} {k:Nat},l[k]?=some x→l.modify k g=l.set k (g x)
 | [],k,h=>by simp at h
 | a::l,0,h=>by simp at h;subst h;rfl
 | a::l,k+1,h=>by
  simp only[List.getElem?_cons_succ] at h;rw[List.modify_succ_cons,List.set_cons_succ,j6 h]
theorem jv{α:Type}(l:List α)(x:α):(l++[x]).dropLast=l:=by simp
theorem cX{w:World}{p:Addr}{u:Value}(h:b≠p.block):(w.setCell p u).heap[b]?=w.heap[b]?:=Below.heap_setCell w p u b h
section
variable {w ab:World} {P c8:Nat→Prop} {s:an} {GA TA HA:GR} {gn gc tn tc hn hc:Nat} {xs:List Value} {ak ar bS bX:List Nat}
theorem oR.top(h:oR w s GA gn gc TA tn tc HA hn hc xs ak ar bS bX){k:Nat}(bu:s.threads[k]?=some (fs++[f])):
  ∃O bY fc IA i ic bj l lc,HA=some ⟨O,0,none⟩∧k<hn∧O<w.heap.size∧bY<w.heap.size∧O∈bS∧bY∈bX∧i=f.ints.length∧l=f.av.length∧
   w.cell? ⟨O,k,none⟩=some (.slice (some ⟨bY,0,none⟩) (fs.length+1) fc)∧fs.length+1≤fc∧
   w.cell? ⟨bY,fs.length*4,none⟩=some (.int .i64 f.proc)∧w.cell? ⟨bY,fs.length*4+1,none⟩=some (.int .i64 f.pc)∧w.cell? ⟨bY,fs.length*4+2,none⟩=some (.slice IA i ic)∧w.cell? ⟨bY,fs.length*4+3,none⟩=some (.slice bj l lc)∧
   (∀j,w.frozen? ⟨O,j,none⟩=false)∧(∀j,w.frozen? ⟨bY,j,none⟩=false)∧
   (∀v,oR (w.setCell ⟨bY,fs.length*4+1,none⟩ (.int .i64 v)) {s with threads:=s.threads.set k (fs++[{f with pc:=v}])} GA gn gc TA tn tc HA hn hc xs ak ar bS bX)∧
   (∀j v,j<i→∃g,IA=some ⟨g,0,none⟩∧g<w.heap.size∧g∈bX∧w.frozen? ⟨g,j,none⟩=false∧(∃u,w.cell? ⟨g,j,none⟩=some u)∧oR (w.setCell ⟨g,j,none⟩ (.int .i64 v)) {s with threads:=s.threads.set k (fs++[{f with ints:=f.ints.set j v}])} GA gn gc TA tn tc HA hn hc xs ak ar bS bX)∧
   (∃e d,oR (w.setCell ⟨O,k,none⟩ (.slice (some ⟨bY,0,none⟩) fs.length fc)) {s with threads:=s.threads.set k fs} GA gn gc TA tn tc HA hn hc e ak ar bS d∧∀b∈d,b∈bX):=by
 obtain⟨x,I,V,t,z,M,hx,c1,c2⟩:=h.hs.at_ mN.ao mN.len bu;obtain⟨FA,n,c,cd,bI,bq,rfl,rfl,o,bi,aw⟩:=M;have bU:k<s.threads.length:=(List.getElem?_eq_some_iff.1 bu).1;have aY:k<hn:=by rw[h.hl];exact bU
 have ce:n=fs.length+1:=by simpa using o
 obtain⟨bY,rfl,rfl,b2,bc,a5,bp⟩:=bi.block ad;obtain⟨O,T,r,N,A,E,K⟩:=h.h.block ad;obtain⟨y,aX,G,bZ,rfl,D,a3,ca,aP⟩:=aw.at_ (k:=fs.length) (a:=f) nt.ao nt.len (by simp);obtain⟨IA,i,ic,bj,l,lc,q,M2,rfl,rfl,aJ,hl,B,bN⟩:=D;subst z r T;have nd:=h.nd;have nf:∀b∈(ak++(ar++([O]++I)))++(aX++((q++M2)++(bZ++t))),b≠bY:=g6 (by simpa [Gq] using nd);have F:∀b∈(ak++ar)++(I++(bY::(aX++(q++(M2++(bZ++t)))))),b≠O:=g6 (by simpa [Gq] using nd);refine⟨O,bY,c,IA,i,ic,bj,l,lc,rfl,aY,N,b2,by simp,by simp,aJ,hl,?_,?_,?_,?_,?_,?_,E,a5,fun v=>?_,fun j v ba=>?_,?_⟩
 ·rw[←ce];have:=hx 0 _ rfl;rw[Nat.mul_one,Gl] at this;exact A _ _ this
 ·rw[←ce];exact bi.cap
 ·exact bc _ _ (by have:=a3 0 _ rfl;rwa [Gl] at this)
 ·exact bc _ _ (a3 1 _ rfl)
 ·exact bc _ _ (a3 2 _ rfl)
 ·exact bc _ _ (a3 3 _ rfl)
 ·have ap:∀b,b≠bY→(w.setCell ⟨bY,fs.length*4+1,none⟩ (.int .i64 v)).heap[b]?=w.heap[b]?:=fun b O=>cX O;have e1:nt (w.setCell ⟨bY,fs.length*4+1,none⟩ (.int .i64 v)) {f with pc:=v} ([.int .i64 f.proc,.int .i64 f.pc,.slice IA i ic,.slice bj l lc].set 1 (.int .i64 v)) (q++M2):=
   ⟨IA,i,ic,bj,l,lc,q,M2,rfl,rfl,aJ,hl,B.ao fun b O=>ap b (nf b (by simp[O])),bN.ao fun b O=>ap b (nf b (by simp[O]))⟩
  have e2:=aP _ _ 1 (.int .i64 v) _ (fun b O=>ap b (nf b (by simp at O ⊢;rcases O with O|O<;>simp[O]))) ad e1;rw[List.set_append_right _ _ (Gb _),Nat.sub_self,List.set_cons_zero] at e2;have e3:mN (w.setCell ⟨bY,fs.length*4+1,none⟩ (.int .i64 v)) (fs++[{f with pc:=v}]) _ _:=⟨some ⟨bY,0,none⟩,n,c,_,[bY],_,rfl,rfl,by simpa using ce,bp _ (.int .i64 v) (by rw[ce];omega),e2⟩
  have ch:=c1 _ _ _ (fun b O=>ap b (nf b (by simp at O ⊢;rcases O with O|O<;>simp[O]))) e3;exact⟨h.gl,h.tl,by simpa using h.hl,h.g.ao fun b O=>ap b (nf b (by simp[O])),h.t.ao fun b O=>ap b (nf b (by simp[O])),h.h.ao fun b O=>ap b (nf b (by simp at O;simp[O])),ch,nd⟩
 ·obtain⟨g,rfl,rfl,cq,Z,H,aa⟩:=B.block ad;have dG:∀b∈(ak++(ar++([O]++(I++(bY::aX)))))++(M2++(bZ++t)),b≠g:=g6 (by simpa [Gq] using nd);have ap:∀b,b≠g→(w.setCell ⟨g,j,none⟩ (.int .i64 v)).heap[b]?=w.heap[b]?:=fun b O=>cX O;have e0:=aa j (.int .i64 v) ad;rw[show (f.ints.map dV).set j (.int .i64 v)=(f.ints.set j v).map dV from (List.map_set (f:=dV)).symm] at e0;have e1:nt (w.setCell ⟨g,j,none⟩ (.int .i64 v)) {f with ints:=f.ints.set j v} [.int .i64 f.proc,.int .i64 f.pc,.slice (some ⟨g,0,none⟩) i ic,.slice bj l lc] ([g]++M2):=
   ⟨some ⟨g,0,none⟩,i,ic,bj,l,lc,[g],M2,rfl,rfl,by simpa using aJ,hl,e0,bN.ao fun b O=>ap b (dG b (by simp[O]))⟩
  have e2:=ca _ _ _ (fun b O=>ap b (dG b (by simp at O ⊢;rcases O with O|O<;>simp[O]))) e1;rw[List.set_append_right _ _ (Gb _),Nat.sub_self,List.set_cons_zero] at e2;have e3:mN (w.setCell ⟨g,j,none⟩ (.int .i64 v)) (fs++[{f with ints:=f.ints.set j v}]) _ _:=⟨some ⟨bY,0,none⟩,n,c,_,[bY],_,rfl,rfl,by simpa using ce,bi.ao fun b O=>ap b (dG b (by simp at O;simp[O])),e2⟩
  have ch:=c1 _ _ _ (fun b O=>ap b (dG b (by simp at O ⊢;rcases O with O|O<;>simp[O]))) e3;refine⟨g,rfl,cq,by simp,H _,⟨.int .i64 (f.ints[j]'ad),Z _ _ (by rw[List.getElem?_map,List.getElem?_eq_getElem ad];rfl)⟩,h.gl,h.tl,by simpa using h.hl,h.g.ao fun b O=>ap b (dG b (by simp[O])),h.t.ao fun b O=>ap b (dG b (by simp[O])),h.h.ao fun b O=>ap b (dG b (by simp at O;simp[O])),ch,nd⟩
 ·have ap:∀b,b≠O→(w.setCell ⟨O,k,none⟩ (.slice (some ⟨bY,0,none⟩) fs.length c)).heap[b]?=w.heap[b]?:=fun b h=>cX h;obtain⟨U,hp,L⟩:=aw.take nt.len fs.length;rw[List.take_left] at hp;have C:∀b∈U,b∈aX++(q++(M2++bZ)):=fun b O=>by have:=L.subset O;simpa [Gq] using this
  have e3:mN (w.setCell ⟨O,k,none⟩ (.slice (some ⟨bY,0,none⟩) fs.length c)) fs ([.slice (some ⟨bY,0,none⟩) n c].set 0 (.slice (some ⟨bY,0,none⟩) fs.length c)) ([bY]++U):=
   ⟨some ⟨bY,0,none⟩,fs.length,c,_,[bY],U,rfl,rfl,rfl,(bi.shorter (m:=fs.length) ad ad).ao fun b O=>ap b (F b (by simp at O;simp[O])),hp.ao nt.ao fun b O=>ap b (F b (by have:=C b O;simp at this ⊢;rcases this with h|h|h|h<;>simp[h]))⟩
  have ch:=c2 _ _ 0 (.slice (some ⟨bY,0,none⟩) fs.length c) _ (fun b O=>ap b (F b (by simp at O ⊢;rcases O with O|O<;>simp[O]))) ad e3;rw[Nat.mul_one,Gl] at ch;refine⟨_,_,⟨h.gl,h.tl,by simpa using h.hl,h.g.ao fun b O=>ap b (F b (by simp[O])),h.t.ao fun b O=>ap b (F b (by simp[O])),K k _ ad,ch,?_⟩,fun b O=>?_⟩
  ·refine List.Sublist.nodup (l₂:=ak++(ar++([O]++(I++(([bY]++(aX++((q++M2)++bZ)))++t))))) ?_ nd;exact(List.Sublist.refl _).append ((List.Sublist.refl _).append ((List.Sublist.refl _).append ((List.Sublist.refl _).append (((List.Sublist.refl _).append L.sublist).append (List.Sublist.refl _)))))
  ·simp only[Gk] at O ⊢;rcases O with O|(O|O)|O
   ·exact .inl O
   ·exact .inr (.inl (.inl O))
   ·exact .inr (.inl (.inr (by have:=L.subset O;simpa only[Gk] using this)))
   ·exact .inr (.inr O)
theorem oR.da(h:oR w s GA gn gc TA tn tc HA hn hc xs ak ar bS bX){j:Nat}(ba:j<gn):∃b1,GA=some ⟨b1,0,none⟩∧b1<w.heap.size∧w.frozen? ⟨b1,j,none⟩=false∧(∃u,w.cell? ⟨b1,j,none⟩=some u)∧b1∈ak∧
  ∀v,oR (w.setCell ⟨b1,j,none⟩ (.int .i64 v)) {s with globals:=s.globals.set j v} GA gn gc TA tn tc HA hn hc xs ak ar bS bX:=by
 obtain⟨b1,T,ao,cc,aF,a,bZ⟩:=h.g.block ad;subst T ao;have nd:=h.nd;have ng:∀b∈[]++(ar++(bS++bX)),b≠b1:=g6 (by simpa using nd);have bC:=h.gl;refine⟨b1,rfl,cc,a _,⟨.int .i64 (s.globals[j]'ad),aF _ _ (by rw[List.getElem?_map,List.getElem?_eq_getElem ad];rfl)⟩,by simp,fun v=>?_⟩;have ap:∀b,b≠b1→(w.setCell ⟨b1,j,none⟩ (.int .i64 v)).heap[b]?=w.heap[b]?:=fun b O=>cX O;have e0:=bZ j (.int .i64 v) ad;rw[show (s.globals.map dV).set j (.int .i64 v)=(s.globals.set j v).map dV from (List.map_set (f:=dV)).symm] at e0;exact⟨by simpa using h.gl,h.tl,h.hl,e0,h.t.ao fun b O=>ap b (ng b (by simp[O])),h.h.ao fun b O=>ap b (ng b (by simp[O])),h.hs.ao mN.ao fun b O=>ap b (ng b (by simp[O])),nd⟩
theorem oR.FR(h:oR w s GA gn gc TA tn tc HA hn hc xs ak ar bS bX){T:List ct}{a3:GR}{L:Nat}(aR:w.ownsRow 0 87 2 (.slice a3 m L) m (T.flatMap bZ))(hl:m=T.length)(hd:∀b∈bB a3 m L,b∉ak++(ar++(bS++bX))):
  oR w {s with table:=T} GA gn gc a3 m L HA hn hc xs ak (bB a3 m L) bS bX:=by
 refine⟨h.gl,hl,h.hl,h.g,⟨aR,rfl⟩,h.h,h.hs,?_⟩;have nd:=h.nd;have n1:=List.nodup_append.1 nd;have bl:=List.nodup_append.1 n1.2.1;refine List.nodup_append.2 ⟨n1.1,List.nodup_append.2 ⟨?_,bl.2.1,fun a aV b O a9=>?_⟩,fun a aV b O a9=>?_⟩
 ·unfold bB;cases (Value.slice a3 m L).ownBlock<;>simp
 ·subst a9;exact hd a aV (by simp at O ⊢;rcases O with O|O<;>simp[O])
 ·subst a9;rcases Gk.1 O with O|O
  ·exact hd a O (by simp[aV])
  ·exact n1.2.2 a aV a (by simp at O ⊢;rcases O with O|O<;>simp[O]) rfl
end
theorem As(l:List Int):l.flatMap dB=l.map dV:=q9 l
theorem kA(A:GR)(n c:Nat)(l:List Int)(w:World)(h:cG (EF dB) 1 w w.heap.size A n l)(hn:n≤100000) :
  Calls prog 27 #[.slice A n c] w fun r ab=>∃az aG,r=.returned (.slice az n aG)∧ab.ownsRow w.heap.size 3 1 (.slice az n aG) n (l.map dV)∧Below w.heap.size w ab:=by
 have heq:=fun W=>pI (P:=prog) W 22 3 A n c 0 0 Tryz.underlying22;rcases A with _|a
 ·have u:n=0:=by
   rcases Nat.eq_zero_or_pos n with h0|h0
   ·exact h0
   ·obtain⟨b,o,h,_⟩:=h.2 h0;cases h
  subst u;have aR:l=[]:=List.eq_nil_of_length_eq_zero h.1;subst aR;go_enter func27,ntmps27;exact wF
 ·have aC:=Src.ru h (n8 l) (rA l) ad;rw[As] at aC;go_enter func27,ntmps27;go_wp2_with (at_builtin;refine mJ _ dj (by rfl) (.tmp 5) (.tmp 6) (by rfl) (by rfl) _ _ _ _ (by rfl) aC ad ad (fun h=>nomatch h) ?_;intro cC c1 aH t bQ);go_ret;exact⟨cC,c1,rfl,t,bQ⟩
theorem Sl.kA{A:GR}{n c:Nat}{l:List Int}{w:World}(h:Sl w (au w) A n (l.map D.i))(hn:n≤100000) :
  Calls prog 27 #[.slice A n c] w fun r ab=>∃az aG,r=.returned (.slice az n aG)∧Own ab 3 1 az n aG (l.map dV) (bB az n aG)∧(∀b∈bB az n aG,w.heap.size≤b∧b<ab.heap.size)∧Ext w ab:=
 (Go.Proofs.YtjhgbdckgkppnaaGreat.kA A n c l w h.ints hn).mono fun r ab ⟨az,aG,aX,bi,O⟩=>⟨az,aG,aX,⟨lr bi (Gz _),rfl⟩,fun b O=>bi.lt b (by simpa using O),Fr.of O⟩
theorem Sl.sS{A:GR}{n c:Nat}{l:List ct}{w:World}(h:Sl w (au w) A n (l.map mQ))(hn:n≤5000):
  Calls prog 89 #[.slice A n c] w fun r ab=>∃az aG,r=.returned (.slice az n aG)∧Own ab 87 2 az n aG (l.flatMap bZ) (bB az n aG)∧(∀b∈bB az n aG,w.heap.size≤b∧b<ab.heap.size)∧Ext w ab:=
 (lS A n c l w h.holds hn).mono fun r ab ⟨az,aG,aX,bi,O⟩=>⟨az,aG,aX,⟨lr bi (Gz _),rfl⟩,fun b O=>bi.lt b (by simpa using O),Fr.of O⟩
section
variable {P:Program} {e t:TypeId} {z:Value} {size bytes:Nat}
theorem eX(A:GR)(n c:Nat):(bB A n c).Nodup:=by unfold bB;cases (Value.slice A n c).ownBlock<;>simp
namespace zd
theorem xF{p:Prop}(h:p:=by
 refine h az aG ab ⟨bZ,rfl⟩ (GN.grown aM fun g aM=>.inl (by rw[h0.eq];simp[aM])) fun b O=>?_;have aN:(Value.slice az (n+1) aG).ownBlock=some b:=by simpa using O
 rcases cj with cj|cj
 ·rw[cj] at aN;exact .inl (by rw[h0.eq];simp[aN])
 ·have:=(bZ.lt b aN).2;rw[cj] at aN;injection aN with aN;right;simp at aN;omega
 ):p:=h
end zd
open zd in
theorem u0{K:Act→World→Prop}(bb:b0 P t e z size bytes)(s x:Operand)
  (bi:o.op=.call {callee:=.builtin .append,args:=#[s,x],argTypes:=#[t,t]})
  {A:GR} {n c:Nat} {xs:List Value} {F:List Nat} (h0:Own S e size A n c xs F) {cs:Array Value}
  (hs:a.eval s=.slice A n c) (hx:a.eval x=.slice (some ⟨S.heap.size,0,none⟩) 1 1) (T:cs.size=size) (ac:∀u∈cs.toList,u.oneCell'=true)
  (r:(n+1)*bytes≤140737488355328) (H:n+1≤140737488355328)
  (h:∀az aG ab,Own ab e size az (n+1) aG (xs++cs.toList) (bB az (n+1) aG)→Fr (fun b=>b∈F) S ab→(∀b∈bB az (n+1) aG,b∈F∨(S.heap.size≤b∧b<ab.heap.size))→K (a.put o.dst (.slice az (n+1) aG)) ab):o.wp P a (S.alloc (.cells cs e)) K Q:=by
 refine je _ bb s x bi 0 _ n xs hs (h0.row.alloc _) _ 1 1 cs.toList hx (Src.block (heap_alloc_new S _) 1 ad ac) r H (Gz _) (fun h=>nomatch h) fun M ab bZ cz cj=>?_;exact xE
theorem mK{ops:Array Oper}{rest:List Oper}(bb:b0 P t e z size bytes)(i:o.guard=none)(s x:Operand)
  (bi:o.op=.call {callee:=.builtin .append,args:=#[s,x],argTypes:=#[t,t]})
  {A:GR} {n c:Nat} {xs:List Value} {F:List Nat} (h0:Own S e size A n c xs F) {cs:Array Value}
  (hs:a.eval s=.slice A n c) (hx:a.eval x=.slice (some ⟨S.heap.size,0,none⟩) 1 1) (T:cs.size=size) (ac:∀u∈cs.toList,u.oneCell'=true)
  (r:(n+1)*bytes≤140737488355328) (H:n+1≤140737488355328)
  (h:∀az aG ab,Own ab e size az (n+1) aG (xs++cs.toList) (bB az (n+1) aG)→Fr (fun b=>b∈F) S ab→(∀b∈bB az (n+1) aG,b∈F∨(S.heap.size≤b∧b<ab.heap.size))→wpList P ops Q rest (a.put o.dst (.slice az (n+1) aG)) ab):wpList P ops Q (o::rest) a (S.alloc (.cells cs e)):=
 wpList_plain i fun _ hK=>u0 bb s x bi h0 hs hx T ac r H fun az aG ab b4 g2 cD=>hK _ _ (h az aG ab b4 g2 cD)
end
theorem uM{d I:List Nat}{a:Nat}(h:(bI++bq).Nodup)(ao:∀x∈bI++bq,x<a)(hI:I.Nodup)(g:∀x∈I,a≤x∧x<b)(hK:d.Nodup)(f:∀x∈d,x∈bI∨b≤x)(a9:a≤b):(d++(bq++I)).Nodup:=by
 have h0:=List.nodup_append.1 h;refine List.nodup_append.2 ⟨hK,List.nodup_append.2 ⟨h0.2.1,hI,fun x hx y a3 c=>?_⟩,fun x hx y a3 c=>?_⟩
 ·have:=ao x (by simp[hx]);have:=g y a3;omega
 ·subst c;rcases Gk.1 a3 with a3|a3
  ·rcases f x hx with ac|ac
   ·exact h0.2.2 x ac x a3 rfl
   ·have:=ao x (by simp[a3]);omega
  ·have J:=g x a3;rcases f x hx with ac|ac
   ·have:=ao x (by simp[ac]);omega
   ·omega
theorem Ee{X Y:List Nat}(ah:X.Nodup)(cb:Y.Nodup)(ac:∀x∈X,x<m)(J:∀y∈Y,m≤y):(X++Y).Nodup:=
 List.nodup_append.2 ⟨ah,cb,fun x hx y a3 c=>by have:=ac x hx;have:=J y a3;omega⟩
theorem tg{ak ar bS bX:List Nat}:(ak++(ar++(bS++bX))).Nodup↔(bS++(ak++(ar++bX))).Nodup:=by
 have h:(ak++(ar++(bS++bX))).Perm (bS++(ak++(ar++bX))):=by
  rw[←Gq ak ar,←Gq (ak++ar) bS,←Gq ak ar bX,←Gq bS];exact List.perm_append_comm.append_right bX
 exact h.nodup_iff
structure Small(s:an):Prop where
 g:s.globals.length≤1000
 t:s.table.length≤5000
 h:s.threads.length≤1000
 f:∀t∈s.threads,t.length≤1000000∧∀f∈t,f.ints.length≤100000∧f.av.length≤100000
structure CL(B:Nat)(w:World)(s:an)(GA:GR)(gn gc:Nat)(TA:GR)(tn tc G k:Nat)(HA:GR)(hc:Nat)(xs:List Value)(bS bX:List Nat):Prop where
 st:oR w {s with threads:=s.threads.take k} GA gn gc TA tn tc HA k hc xs (bB GA gn gc) (bB TA tn tc) bS bX
 o:ag w G 40 #[.slice GA gn gc,.slice TA tn tc,.slice HA k hc,.int .i64 s.fault]
 ne:G∉bB GA gn gc++(bB TA tn tc++(bS++bX))
 lo:∀b∈bB GA gn gc++(bB TA tn tc++(bS++bX)),B≤b∧b<w.heap.size
 go:B≤G
section
variable {B:Nat} {w ab:World} {s:an} {GA TA HA:GR} {gn gc tn tc G k hc:Nat} {xs:List Value} {bS bX:List Nat}
theorem CL.al(h:CL B w s GA gn gc TA tn tc G k HA hc xs bS bX)(he:Ext w ab):CL B ab s GA gn gc TA tn tc G k HA hc xs bS bX:=
 ⟨h.st.ao fun b O=>he.block b (h.lo b O).2 fun h=>h,h.o.al he,h.ne,fun b O=>⟨(h.lo b O).1,Gc (h.lo b O).2 he.size⟩,h.go⟩
theorem CL.step(h:CL B w s GA gn gc TA tn tc G k HA hc xs bS bX)(bu:s.threads[k]?=some fs){FA:GR}{n c:Nat}{cd:List Value}{aH aQ:World}(he:Ext w aH)
  (bi:Own aH 76 4 FA n c cd bI) (aw:jg nt aH fs cd bq) (hn:n=fs.length) (nd:(bI++bq).Nodup) (hK:∀b∈bI++bq,w.heap.size≤b∧b<aH.heap.size)
  {bF:GR} {a2:Nat} (aX:Own aQ 80 1 bF (k+1) a2 (xs++[.slice FA n c]) (bB bF (k+1) a2)) (bL:Fr (fun b=>b∈bS) aH aQ) (d:∀b∈bB bF (k+1) a2,b∈bS∨(aH.heap.size≤b∧b<aQ.heap.size)) {X:World}
  (ah:aQ.setCell ⟨G,2,none⟩ (.slice bF (k+1) a2)=X):CL B X s GA gn gc TA tn tc G (k+1) bF a2 (xs++[.slice FA n c]) (bB bF (k+1) a2) (bX++(bI++bq)):=by
 have hw:=he.size;have b9:=bL.size;have da:G<w.heap.size:=h.o.lt;have o:=h.st.nd;have m:=tg.1 o;have bl:=List.nodup_append.1 m;have l:∀b∈bB GA gn gc++(bB TA tn tc++bX),b∉bS:=fun b O aS=>bl.2.2 b aS b O rfl;have ao:∀b∈bB GA gn gc++(bB TA tn tc++bX),b<w.heap.size∧b≠G:=fun b O=>by
  have aN:b∈bB GA gn gc++(bB TA tn tc++(bS++bX)):=by
   exact wg
  exact⟨(h.lo b aN).2,fun he=>h.ne (he▸aN)⟩
 have r:∀b∈bS,b<w.heap.size∧b≠G:=fun b O=>by
  have aN:b∈bB GA gn gc++(bB TA tn tc++(bS++bX)):=by simp[O]
  exact⟨(h.lo b aN).2,fun he=>h.ne (he▸aN)⟩
 have j:∀b,b≠G→X.heap[b]?=aQ.heap[b]?:=fun b O=>by rw[←ah];exact cX O
 have cR:X.heap.size=aQ.heap.size:=by rw[←ah];simp[World.setCell]
 have f:∀b∈bB GA gn gc++(bB TA tn tc++bX),X.heap[b]?=w.heap[b]?:=fun b O=>
  (j b (ao b O).2).trans ((bL.block b (by have:=(ao b O).1;omega) (l b O)).trans (he.block b (ao b O).1 fun h=>h))
 have g:∀b∈bI++bq,X.heap[b]?=aH.heap[b]?:=fun b O=>
  (j b (aB (hK b O))).trans (bL.block b (hK b O).2 fun aS=>by have:=hK b O;have:=(r b aS).1;omega)
 have i:∀b∈bB bF (k+1) a2,b≠G:=fun b O=>by
  rcases d b O with ac|ac
  ·exact(r b ac).2
  ·omega
 have M:mN X fs [.slice FA n c] (bI++bq):=⟨FA,n,c,cd,bI,bq,rfl,rfl,hn,bi.ao fun b O=>g b (by simp[O]),aw.ao nt.ao fun b O=>g b (by simp[O])⟩
 have f5:s.threads.take (k+1)=s.threads.take k++[fs]:=bo bu;refine⟨⟨h.st.gl,h.st.tl,?_,h.st.g.ao fun b O=>f b (by simp only[Gk];exact .inl O),h.st.t.ao fun b O=>f b (by simp only[Gk];exact .inr (.inl O)),aX.ao fun b O=>j b (i b O),?_,?_⟩,?_,?_,fun b O=>?_,h.go⟩
 ·have:=h.st.hl;show k+1=(s.threads.take (k+1)).length
  rw[f5,Gd,←this];rfl
 ·show jg mN X (s.threads.take (k+1)) _ _
  rw[f5];exact(h.st.hs.ao mN.ao fun b O=>f b (by simp[O])).snoc M
 ·refine tg.2 ?_;rw[show bB GA gn gc++(bB TA tn tc++(bX++(bI++bq)))=(bB GA gn gc++(bB TA tn tc++bX))++(bI++bq) by simp];refine uM (a:=w.heap.size) (b:=aH.heap.size) m (fun x hx=>?_) nd hK (eX _ _ _) (fun x hx=>(d x hx).imp id fun h=>h.1) hw;rcases Gk.1 hx with hx|hx
  ·exact(r x hx).1
  ·exact(ao x hx).1
 ·have:=(h.o.al he).on bL fun aS=>(r _ aS).2 rfl;rw[←ah];exact this.aH 2 _
 ·intro aM;simp only[Gk] at aM;have ac:=h.ne;simp only[Gk] at ac;rcases aM with aM|aM|aM|aM|aM|aM
  ·exact ac (.inl aM)
  ·exact ac (.inr (.inl aM))
  ·exact i _ aM rfl
  ·exact ac (.inr (.inr (.inr aM)))
  ·have:=hK G (by simp[aM]);omega
  ·have:=hK G (by simp[aM]);omega
 ·rw[cR];simp only[Gk] at O;have hl:=h.lo;rcases O with O|O|O|O|O|O
  ·have:=hl b (by simp[O]);omega
  ·have:=hl b (by simp[O]);omega
  ·rcases d b O with ac|ac
   ·have:=hl b (by simp[ac]);omega
   ·have:=h.go;omega
  ·have:=hl b (by simp[O]);omega
  ·have:=hK b (by simp[O]);have:=h.go;omega
  ·have:=hK b (by simp[O]);have:=h.go;omega
end
end Go.Proofs.YtjhgbdckgkppnaaGreat

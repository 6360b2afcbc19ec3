/- Part 12 of the proof. No condition of its own. -/
import Derived.Test.YtajlmkkidmjgoaaGreatDoorQ08
import Derived.Test.YtajlmkkidmjgoaaGreatDoorQ10
import Derived.Test.YtajlmkkidmjgoaaGreatDoorQ11
namespace Go.Proofs.YtajlmkkidmjgoaaGreatDoor
open Go.RowKit Go.Proofs.Tryz
set_option maxRecDepth 1000000
set_option maxHeartbeats 25600000
set_option linter.unusedVariables false
variable{a:Act}{Q:Exit->Act->World->Prop}{cs:List Value}{fs:List ao}{b m:Nat}{o:Oper}{S:World}{f:ao}{u:ax}
structure DC(w:World)(P:Nat->Prop)(x:az)(cs:List Value)(eo en:Int)(es:ByteArray)(EA:IP)(em ec:Nat)(QA:IP)(qm qc:Nat)(IA:IP)(i ic:Nat)(KA:IP)(k kc:Nat):Prop where
 cells:cs=[.int .i64 x.op,.int .i64 x.target,.bool x.dw,.int .i64 eo,.int .i64 en,.string es,.slice EA em ec,.bool x.place.param,.int .i64 x.place.index,.slice QA qm qc,.slice IA i ic,.slice KA k kc]
 expr:(nP x.expr).rep w P [.int .i64 eo,.int .i64 en,.string es,.slice EA em ec]
 place:(c9 x.place).rep w P [.bool x.place.param,.int .i64 x.place.index,.slice QA qm qc]
 ints:Sl w P IA i (x.ints.map a7)
 ES:i<=ic
 places:Sl w P KA k (x.places.map c9)
 EW:k<=kc
theorem tZ{w:World}{P:Nat->Prop}{x:az}(h:(dN x).rep w P cs):∃eo en es EA em ec QA qm qc IA i ic KA k kc,DC w P x cs eo en es EA em ec QA qm qc IA i ic KA k kc:=by
 unfold dN at h;rw[bw,a2] at h;obtain⟨y,rfl,h⟩:=h;rw[a2] at h;obtain⟨y,rfl,h⟩:=h;rw[eS] at h;obtain⟨y,rfl,h⟩:=h;simp only[D.aO] at h;obtain⟨ce,bp,rfl,he,c,aJ,rfl,hp,ci,G,rfl,ak,b,a,rfl,ap,rfl⟩:=h;obtain⟨eo,en,es,EA,em,ec,rfl⟩:=oN he;obtain⟨QA,qm,qc,rfl,_,_⟩:=eh.1 hp;obtain⟨IA,ic,i,rfl,Z,ak⟩:=D.rH.1 ak;obtain⟨KA,kc,k,rfl,aU,ap⟩:=D.rH.1 ap;exact⟨eo,en,es,EA,em,ec,QA,qm,qc,IA,i,ic,KA,k,kc,rfl,he,hp,ak,Z,ap,aU⟩
theorem AZ(p:c7):(fQ p).sz=5:=rfl
theorem sj{w:World}{P:Nat->Prop}{p:c7}(h:(fQ p).rep w P cs):∃A n c,cs=[.string p.name,.int .i64 p.ints,.int .i64 p.aw,.int .i64 p.locals,.slice A n c]/\n<=c/\Sl w P A n (p.code.map dN):=by
 unfold fQ at h;rw[bw,b9] at h;obtain⟨y,rfl,h⟩:=h;exact DX
structure gW(w:World)(P:Nat->Prop)(u:ax)(GA:IP)(gn:Nat)(MA:IP)(mn:Nat)(PA:IP)(pn:Nat):Prop where
 g:Sl w P GA gn (u.globals.map .i)
 m:Sl w P MA mn (u.af.map er)
 p:Sl w P PA pn (u.procs.map fQ)
theorem oO{w:World}{P:Nat->Prop}(h:(uc u).rep w P cs):∃GA gn gc MA mn mc PA pn pc,cs=[.slice GA gn gc,.slice MA mn mc,.slice PA pn pc,.int .i64 u.main]/\gn<=gc/\mn<=mc/\pn<=pc/\gW w P u GA gn MA mn PA pn:=by
 unfold uc at h;rw[bw] at h;obtain⟨A,n,c,y,rfl,hc,hs,h⟩:=aA.1 h;obtain⟨A2,cd,c2,bp,rfl,cf,bz,h⟩:=aA.1 h;obtain⟨cl,bY,c3,aJ,rfl,o,cx,h⟩:=aA.1 h;obtain⟨G,rfl,bv⟩:=a2.1 h;exact x7
theorem gW.on{w ab:World}{u:ax}{GA:IP}{gn:Nat}{MA:IP}{mn:Nat}{PA:IP}{pn:Nat}(h:gW w (av w) u GA gn MA mn PA pn)(he:Ext w ab):gW ab (av ab) u GA gn MA mn PA pn:=
 ⟨h.g.on (Fr.ext he),h.m.on (Fr.ext he),h.p.on (Fr.ext he)⟩
theorem gW.proc{w:World}{P:Nat->Prop}{GA:IP}{gn:Nat}{MA:IP}{mn:Nat}{PA:IP}{pn:Nat}(h:gW w P u GA gn MA mn PA pn){k:Nat}(ap:k<pn):
  ∃b o p S n c,PA=some ⟨b,o,none⟩/\P b/\u.procs[k]?=some p/\w.cell? ⟨b,o+k*5,none⟩=some (.string p.name)/\w.cell? ⟨b,o+k*5+1,none⟩=some (.int .i64 p.ints)/\w.cell? ⟨b,o+k*5+2,none⟩=some (.int .i64 p.aw)/\
   w.cell? ⟨b,o+k*5+3,none⟩=some (.int .i64 p.locals)/\w.cell? ⟨b,o+k*5+4,none⟩=some (.slice S n c)/\n<=c/\Sl w P S n (p.code.map dN):=by
 obtain⟨b,o,p,cs,bj,O,hp,aY,hl,hc⟩:=Sl.gH (z:=5) h.p AZ ap;obtain⟨S,n,c,rfl,ac,J⟩:=sj aY;exact⟨b,o,p,S,n,c,bj,O,hp,hc 0 _ rfl,hc 1 _ rfl,hc 2 _ rfl,hc 3 _ rfl,hc 4 _ rfl,ac,J⟩
theorem Sl.Bi{w:World}{P:Nat->Prop}{A:IP}{n:Nat}{l:List az}(h:Sl w P A n (l.map dN)){k:Nat}(ap:k<n):
  ∃b o x cs eo en es EA em ec QA qm qc IA i ic KA m mc,A=some ⟨b,o,none⟩/\P b/\l[k]?=some x/\DC w P x cs eo en es EA em ec QA qm qc IA i ic KA m mc/\∀j v,cs[j]?=some v->w.cell? ⟨b,o+k*12+j,none⟩=some v:=by
 obtain⟨b,o,x,cs,bj,O,hx,aY,hl,hc⟩:=Sl.gH (z:=12) h l5 ap;obtain⟨eo,en,es,EA,em,ec,QA,qm,qc,IA,i,ic,KA,m,mc,ak⟩:=tZ aY;exact⟨b,o,x,cs,eo,en,es,EA,em,ec,QA,qm,qc,IA,i,ic,KA,m,mc,bj,O,hx,ak,hc⟩
theorem Sl.rB{w:World}{P:Nat->Prop}{A:IP}{n:Nat}{l:List bK}(h:Sl w P A n (l.map c9)){k:Nat}(ap:k<n):
  ∃b o x QA m c,A=some ⟨b,o,none⟩/\P b/\l[k]?=some x/\w.cell? ⟨b,o+k*3,none⟩=some (.bool x.param)/\w.cell? ⟨b,o+k*3+1,none⟩=some (.int .i64 x.index)/\w.cell? ⟨b,o+k*3+2,none⟩=some (.slice QA m c)/\m<=c/\Sl w P QA m (x.at_.toList.map a7):=by
 obtain⟨b,o,x,cs,bj,O,hx,aY,hl,hc⟩:=Sl.gH (z:=3) h (λ_=>rfl) ap;obtain⟨QA,m,c,rfl,ac,J⟩:=eh.1 aY;exact⟨b,o,x,QA,m,c,bj,O,hx,hc 0 _ rfl,hc 1 _ rfl,hc 2 _ rfl,ac,J⟩
def lA(u:ax)(i:g7):Prop:=∃p,0<=i.proc/\u.procs[i.proc.toNat]?=some p/\(i.aw.length:Int)=p.aw
structure k9(w:World)(P:Nat->Prop)(s:ah)(GA:IP)(gn:Nat)(TA:IP)(tn:Nat)(HA:IP)(hn:Nat):Prop where
 g:Sl w P GA gn (s.globals.map .i)
 t:Sl w P TA tn (s.table.map l4)
 h:Sl w P HA hn (s.threads.map ly)
section
variable {w ab:World} {P bW:Nat->Prop} {s:ah} {GA TA HA:IP} {gn gc tn tc hn hc:Nat}
theorem FT:(FR s).rep w P cs↔∃GA gn gc TA tn tc HA hn hc,cs=[.slice GA gn gc,.slice TA tn tc,.slice HA hn hc,.int .i64 s.fault]/\gn<=gc/\tn<=tc/\hn<=hc/\k9 w P s GA gn TA tn HA hn:=by
 unfold FR;rw[bw];constructor
 .intro h;obtain⟨A,n,c,y,rfl,hc,hs,ac⟩:=aA.1 h;obtain⟨A2,cd,c2,bp,rfl,cf,bz,J⟩:=aA.1 ac;obtain⟨cl,bY,c3,aJ,rfl,o,cx,aR⟩:=aA.1 J;obtain⟨G,rfl,bv⟩:=a2.1 aR;exact x7
 .rintro⟨A,n,c,A2,cd,c2,cl,bY,c3,rfl,hc,cf,o,hs,bz,cx⟩;exact aA.2 ⟨A,n,c,_,rfl,hc,hs,aA.2 ⟨A2,cd,c2,_,rfl,cf,bz,aA.2 ⟨cl,bY,c3,_,rfl,o,cx,a2.2 ⟨[],rfl,aM.2 rfl⟩⟩⟩⟩
theorem k9.on(h:k9 w (av w) s GA gn TA tn HA hn)(he:Ext w ab):k9 ab (av ab) s GA gn TA tn HA hn:=⟨h.g.on (Fr.ext he),h.t.on (Fr.ext he),h.h.on (Fr.ext he)⟩
theorem k9.mono(h:k9 w P s GA gn TA tn HA hn)(hp:∀b,P b->bW b):k9 w bW s GA gn TA tn HA hn:=⟨h.g.mono hp,h.t.mono hp,h.h.mono hp⟩
theorem iQ:(gb f).rep w P cs↔∃IA i ic bo l lc,cs=[.int .i64 f.proc,.int .i64 f.pc,.slice IA i ic,.slice bo l lc]/\i<=ic/\l<=lc/\Sl w P IA i (f.ints.map D.i)/\Sl w P bo l (f.aw.map D.i):=by
 unfold gb;rw[bw];constructor
 .intro h;obtain⟨y,rfl,ac⟩:=a2.1 h;obtain⟨cj,rfl,J⟩:=a2.1 ac;obtain⟨A,n,c,bp,rfl,hc,hs,aR⟩:=aA.1 J;obtain⟨A2,cd,c2,aJ,rfl,cf,bz,bv⟩:=aA.1 aR;rw[aM] at bv;subst bv;exact⟨A,n,c,A2,cd,c2,rfl,hc,cf,hs,bz⟩
 .rintro⟨A,n,c,A2,cd,c2,rfl,hc,cf,hs,bz⟩;exact a2.2 ⟨_,rfl,a2.2 ⟨_,rfl,aA.2 ⟨A,n,c,_,rfl,hc,hs,aA.2 ⟨A2,cd,c2,_,rfl,cf,bz,aM.2 rfl⟩⟩⟩⟩
theorem CP(f:ao):(gb f).sz=4:=rfl
theorem CQ(t:List ao):(ly t).sz=1:=rfl
theorem eW{t:List ao}:(ly t).rep w P cs↔∃A n c,cs=[.slice A n c]/\n<=c/\Sl w P A n (t.map gb):=by
 unfold ly;rw[bw];constructor
 .intro h;obtain⟨A,n,c,y,rfl,hc,hs,ac⟩:=aA.1 h;rw[aM] at ac;subst ac;exact⟨A,n,c,rfl,hc,hs⟩
 .rintro⟨A,n,c,rfl,hc,hs⟩;exact aA.2 ⟨A,n,c,_,rfl,hc,hs,aM.2 rfl⟩
theorem Sl.te{A:IP}{n:Nat}{l:List (List ao)}(h:Sl w P A n (l.map ly)){k:Nat}(ap:k<n):
  ∃b o t FA m c,A=some ⟨b,o,none⟩/\P b/\l[k]?=some t/\w.cell? ⟨b,o+k,none⟩=some (.slice FA m c)/\m<=c/\Sl w P FA m (t.map gb):=by
 obtain⟨b,o,t,cs,bj,O,hx,aY,_,hc⟩:=Sl.gH (z:=1) h CQ ap;obtain⟨FA,m,c,rfl,ac,J⟩:=eW.1 aY;have aR:=hc 0 _ rfl;simp only[Nat.mul_one,Ij] at aR;exact⟨b,o,t,FA,m,c,bj,O,hx,aR,ac,J⟩
theorem Sl.wc{A:IP}{n:Nat}{l:List ao}(h:Sl w P A n (l.map gb)){k:Nat}(ap:k<n):
  ∃b o f IA i ic bo m lc,A=some ⟨b,o,none⟩/\P b/\l[k]?=some f/\w.cell? ⟨b,o+k*4,none⟩=some (.int .i64 f.proc)/\w.cell? ⟨b,o+k*4+1,none⟩=some (.int .i64 f.pc)/\w.cell? ⟨b,o+k*4+2,none⟩=some (.slice IA i ic)/\
   w.cell? ⟨b,o+k*4+3,none⟩=some (.slice bo m lc)/\i<=ic/\m<=lc/\Sl w P IA i (f.ints.map D.i)/\Sl w P bo m (f.aw.map D.i):=by
 obtain⟨b,o,f,cs,bj,O,hx,aY,_,hc⟩:=Sl.gH (z:=4) h CP ap;obtain⟨IA,i,ic,bo,m,lc,rfl,ac,J,aR,bv⟩:=iQ.1 aY;have ct:=hc 0 _ rfl;simp only[Ij] at ct;exact⟨b,o,f,IA,i,ic,bo,m,lc,bj,O,hx,ct,hc 1 _ rfl,hc 2 _ rfl,hc 3 _ rfl,ac,J,aR,bv⟩
end
abbrev bt(A:IP)(n c:Nat):List Nat:=(Value.slice A n c).ownBlock.toList
structure Own(w:World)(e:TypeId)(z:Nat)(A:IP)(n c:Nat)(xs:List Value)(F:List Nat):Prop where
 row:w.ownsRow 0 e z (.slice A n c) n xs
 eq:F=bt A n c
section
variable {w ab:World} {e:TypeId} {z n c:Nat} {A:IP} {xs:List Value} {F:List Nat}
theorem Own.al(h:Own w e z A n c xs F)(ap:∀b∈F,ab.heap[b]?=w.heap[b]?):Own ab e z A n c xs F:=by
 refine⟨⟨h.row.1,?_⟩,h.eq⟩;rcases h.row.2 with J|⟨g,cap,cur,bC,O,aM,rest⟩
 .exact .inl J
 .exact .inr ⟨g,cap,cur,bC,O,(ap g (by rw[h.eq];unfold bt;rw[bC];simp[Value.ownBlock])).trans aM,rest⟩
theorem Own.cap(h:Own w e z A n c xs F):n<=c:=by
 obtain⟨aE,L,bC,ac,_⟩:=bI h.row;injection bC with _ _ bC;omega
theorem Own.lt(h:Own w e z A n c xs F):∀b∈F,b<w.heap.size:=λb O=>by
 rw[h.eq] at O;exact(h.row.lt b (by simpa using O)).2
theorem Own.block(h:Own w e z A n c xs F)(hn:0<n):∃g,A=some ⟨g,0,none⟩/\F=[g]/\g<w.heap.size/\(∀j u,xs[j]?=some u->w.cell? ⟨g,j,none⟩=some u)/\(∀j,w.frozen? ⟨g,j,none⟩=false)/\
  ∀j u,j<n*z->Own (w.setCell ⟨g,j,none⟩ u) e z A n c (xs.set j u) F:=by
 obtain⟨g,bj,_,al,hc,aA,hs⟩:=kQ h.row hn;subst bj;exact⟨g,rfl,h.eq,al,hc,aA,λj u a1=>⟨hs j u a1,h.eq⟩⟩
theorem Own.sl{l:List D}{P:Nat->Prop}(h:Own w e z A n c xs F)(aY:D.aO w P l xs)(hl:l.length=n)(hF:∀b∈F,P b):Sl w P A n l:=
 Sl.sH h.row aY hl λg aM _ _=>hF g (by rw[h.eq,aM];simp[Value.ownBlock])
theorem Own.shorter(h:Own w e z A n c xs F)(hm:m<=n)(hn:0<n):Own w e z A m c (xs.take (m*z)) F:=by
 refine⟨⟨by rw[List.length_take,h.row.1];exact Nat.min_eq_left (Nat.mul_le_mul_right _ hm),?_⟩,by rw[h.eq];cases A<;>rfl⟩;rcases h.row.2 with⟨_,J⟩|⟨g,cap,cur,bC,O,aM,ac,J,aR,bv⟩
 .omega
 .injection bC with bj _ hc;subst bj hc;exact .inr ⟨g,c,cur,rfl,O,aM,ad,J,aR,by rw[<-bv,List.take_take,Nat.min_eq_left (Nat.mul_le_mul_right _ hm)]⟩
end
def jN{α:Type}(E:World->α->List Value->List Nat->Prop)(w:World):List α->List Value->List Nat->Prop
 | [],xs,F=>xs=[]/\F=[]
 | a::l,xs,F=>∃x y aq ar,xs=x++y/\F=aq++ar/\E w a x aq/\jN E w l y ar
section
variable {α:Type} {E:World->α->List Value->List Nat->Prop} {z:Nat}
def vv(E:World->α->List Value->List Nat->Prop):Prop:=∀(w ab:World) (a:α) (x:List Value) (F:List Nat),E w a x F->(∀b∈F,ab.heap[b]?=w.heap[b]?)->E ab a x F
def xT(z:Nat)(E:World->α->List Value->List Nat->Prop):Prop:=∀(w:World) (a:α) (x:List Value) (F:List Nat),E w a x F->x.length=z
theorem jN.al(aw:vv E){w ab:World}:∀{l:List α} {xs:List Value} {F:List Nat},jN E w l xs F->(∀b∈F,ab.heap[b]?=w.heap[b]?)->jN E ab l xs F
 | [],_,_,h,_=>h
 | a::l,xs,F,h,ap=>by
  obtain⟨x,y,aq,ar,rfl,rfl,ac,J⟩:=h;exact⟨x,y,aq,ar,rfl,rfl,aw _ _ _ _ _ ac λb O=>ap b (by simp[O]),jN.al aw J λb O=>ap b (by simp[O])⟩
theorem jN.snoc{w:World}{a:α}{x:List Value}{f:List Nat}:∀{l:List α} {xs:List Value} {F:List Nat},jN E w l xs F->E w a x f->jN E w (l++[a]) (xs++x) (F++f)
 | [],_,_,⟨ac,J⟩,he=>by
  subst ac J
  exact⟨x,[],f,[],by simp,by simp,he,rfl,rfl⟩
 | b::l,xs,F,h,he=>by
  obtain⟨Z,y,aq,ar,rfl,rfl,ac,J⟩:=h;exact⟨Z,y++x,aq,ar++f,by simp,by simp,ac,jN.snoc J he⟩
theorem jN.len(bi:xT z E){w:World}:∀{l:List α} {xs:List Value} {F:List Nat},jN E w l xs F->xs.length=l.length*z
 | [],_,_,⟨ac,_⟩=>by simp[ac]
 | a::l,xs,F,h=>by
  obtain⟨x,y,aq,ar,rfl,rfl,ac,J⟩:=h;rw[Hz,bi _ _ _ _ ac,jN.len bi J,Im,Nat.succ_mul];omega
theorem jN.take{w:World}(bi:xT z E):∀{l:List α} {xs:List Value} {F:List Nat},jN E w l xs F->∀k,∃aq,jN E w (l.take k) (xs.take (k*z)) aq/\aq <+: F
 | [],xs,F,⟨ac,J⟩,k=>⟨[],by subst ac;simp[jN],by simp⟩
 | a::l,xs,F,h,0=>⟨[],by simp[jN],by simp⟩
 | a::l,xs,F,h,k+1=>by
  obtain⟨x,y,aq,ar,rfl,rfl,ac,J⟩:=h;obtain⟨bN,aR,bv⟩:=jN.take bi J k;refine⟨aq++bN,⟨x,y.take (k*z),aq,bN,?_,rfl,ac,aR⟩,by simpa using bv⟩;have:=bi _ _ _ _ ac;rw[List.take_append,Ih (by rw[this,Nat.succ_mul];omega),this,show (k+1)*z - z=k*z by rw[Nat.succ_mul];omega]
theorem jN.at_(aw:vv E)(bi:xT z E){w:World}:∀{l:List α} {xs:List Value} {F:List Nat},jN E w l xs F->∀{k:Nat} {a:α},l[k]?=some a->
  ∃x aq f ar,F=aq++(f++ar)/\E w a x f/\(∀j u,x[j]?=some u->xs[k*z+j]?=some u)/\
   (∀ab r d,(∀b∈aq++ar,ab.heap[b]?=w.heap[b]?)->E ab r x d->jN E ab (l.set k r) xs (aq++(d++ar)))/\
   (∀ab r j u d,(∀b∈aq++ar,ab.heap[b]?=w.heap[b]?)->j<z->E ab r (x.set j u) d->jN E ab (l.set k r) (xs.set (k*z+j) u) (aq++(d++ar)))
 | [],_,_,_,k,a,ap=>by simp at ap
 | b::l,xs,F,h,0,a,ap=>by
  obtain⟨x,y,aq,ar,rfl,rfl,ac,J⟩:=h;simp only[List.getElem?_cons_zero,IE] at ap;subst ap;have hx:=bi _ _ _ _ ac;refine⟨x,[],aq,ar,by simp,ac,λj u a1=>?_,λab r d ap he=>⟨x,y,d,ar,rfl,by simp,he,jN.al aw J λb O=>ap b (by simp[O])⟩,λab r j u d ap a1 he=>⟨x.set j u,y,d,ar,?_,by simp,he,jN.al aw J λb O=>ap b (by simp[O])⟩⟩
  .rw[Nat.zero_mul,It,List.getElem?_append_left (List.getElem?_eq_some_iff.1 a1).1];exact a1
  .rw[Nat.zero_mul,It,List.set_append_left _ _ ad]
 | b::l,xs,F,h,k+1,a,ap=>by
  obtain⟨bU,y,g,af,rfl,rfl,ac,J⟩:=h;simp only[List.getElem?_cons_succ] at ap;have hx:=bi _ _ _ _ ac;obtain⟨x,aq,f,ar,rfl,aR,bv,ct,Q⟩:=jN.at_ aw bi J ap;have i:∀j,(k+1)*z+j=bU.length+(k*z+j):=λj=>by rw[hx,Nat.succ_mul];omega
  refine⟨x,g++aq,f,ar,by simp,aR,λj u a1=>?_,λab r d ap he=>⟨bU,y,g,aq++(d++ar),rfl,by simp,aw _ _ _ _ _ ac λb O=>ap b (by simp[O]),ct ab r d (λb O=>ap b (by simp at O ⊢;rcases O with O|O<;>simp[O])) he⟩,
   λab r j u d ap a1 he=>⟨bU,y.set (k*z+j) u,g,aq++(d++ar),?_,by simp,aw _ _ _ _ _ ac λb O=>ap b (by simp[O]),Q ab r j u d (λb O=>ap b (by simp at O ⊢;rcases O with O|O<;>simp[O])) a1 he⟩⟩
  .rw[i,List.getElem?_append_right ad,Nat.add_sub_cancel_left];exact bv j u a1
  .rw[i,List.set_append_right _ _ ad,Nat.add_sub_cancel_left]
theorem jN.aO{w:World}{P:Nat->Prop}{enc:α->D}(aY:∀a x F,E w a x F->(∀b∈F,P b)->(enc a).rep w P x):∀{l:List α} {xs:List Value} {F:List Nat},jN E w l xs F->(∀b∈F,P b)->D.aO w P (l.map enc) xs
 | [],_,_,⟨ac,_⟩,_=>by simp only[Iy,D.aO];exact ac
 | a::l,xs,F,h,ap=>by
  obtain⟨x,y,aq,ar,rfl,rfl,ac,J⟩:=h;simp only[Ie,D.aO];exact⟨x,y,rfl,aY _ _ _ ac λb O=>ap b (by simp[O]),jN.aO aY J λb O=>ap b (by simp[O])⟩
end
abbrev dK:Int->Value:=Value.int .i64
def oh(w:World)(f:ao)(cs:List Value)(F:List Nat):Prop:=∃IA i ic bo l lc aq ar,cs=[.int .i64 f.proc,.int .i64 f.pc,.slice IA i ic,.slice bo l lc]/\F=aq++ar/\
 i=f.ints.length/\l=f.aw.length/\Own w 3 1 IA i ic (f.ints.map dK) aq/\Own w 3 1 bo l lc (f.aw.map dK) ar
def nM(w:World)(fs:List ao)(cs:List Value)(F:List Nat):Prop:=∃FA n c xs aq ar,cs=[.slice FA n c]/\F=aq++ar/\n=fs.length/\Own w 139 4 FA n c xs aq/\jN oh w fs xs ar
structure pP(w:World)(s:ah)(GA:IP)(gn gc:Nat)(TA:IP)(tn tc:Nat)(HA:IP)(hn hc:Nat)(xs:List Value)(aq ar bN bR:List Nat):Prop where
 gl:gn=s.globals.length
 tl:tn=s.table.length
 hl:hn=s.threads.length
 g:Own w 3 1 GA gn gc (s.globals.map dK) aq
 t:Own w 137 2 TA tn tc (s.table.flatMap ca) ar
 h:Own w 77 1 HA hn hc xs bN
 hs:jN nM w s.threads xs bR
 nd:(aq++(ar++(bN++bR))).Nodup
theorem oh.al:vv oh:=λw ab a x F h ap=>by
 obtain⟨IA,i,ic,bo,l,lc,aq,ar,rfl,rfl,ak,hl,ac,J⟩:=h;exact⟨IA,i,ic,bo,l,lc,aq,ar,rfl,rfl,ak,hl,ac.al λb O=>ap b (by simp[O]),J.al λb O=>ap b (by simp[O])⟩
theorem oh.len:xT 4 oh:=λw a x F h=>by
 obtain⟨IA,i,ic,bo,l,lc,aq,ar,rfl,_⟩:=h;rfl
theorem nM.al:vv nM:=λw ab a x F h ap=>by
 obtain⟨FA,n,c,xs,aq,ar,rfl,rfl,hn,ac,J⟩:=h;exact⟨FA,n,c,xs,aq,ar,rfl,rfl,hn,ac.al λb O=>ap b (by simp[O]),J.al oh.al λb O=>ap b (by simp[O])⟩
theorem nM.len:xT 1 nM:=λw a x F h=>by
 obtain⟨FA,n,c,xs,aq,ar,rfl,_⟩:=h;rfl
theorem cB{w:World}{P:Nat->Prop}:∀(l:List Int),D.aO w P (l.map D.i) (l.map dK)
 | []=>by simp only[Iy,D.aO]
 | a::l=>by simp only[Ie];exact a2.2 ⟨_,rfl,cB l⟩
theorem eH{w:World}{P:Nat->Prop}:∀(l:List cQ),D.aO w P (l.map l4) (l.flatMap ca)
 | []=>by simp only[Iy,D.aO,List.flatMap_nil]
 | a::l=>by
  simp only[Ie,Iv,D.aO];exact⟨_,_,rfl,by unfold l4;exact a2.2 ⟨_,rfl,a2.2 ⟨_,rfl,aM.2 rfl⟩⟩,eH l⟩
theorem oh.rep{w:World}{P:Nat->Prop}(f:ao)(x:List Value)(F:List Nat)(h:oh w f x F)(U:∀b∈F,P b):(gb f).rep w P x:=by
 obtain⟨IA,i,ic,bo,l,lc,aq,ar,rfl,rfl,ak,hl,ac,J⟩:=h;exact iQ.2 ⟨IA,i,ic,bo,l,lc,rfl,ac.cap,J.cap,ac.sl (cB _) (by simp[ak]) λb O=>U b (by simp[O]),J.sl (cB _) (by simp[hl]) λb O=>U b (by simp[O])⟩
theorem nM.rep{w:World}{P:Nat->Prop}(t:List ao)(x:List Value)(F:List Nat)(h:nM w t x F)(U:∀b∈F,P b):(ly t).rep w P x:=by
 obtain⟨FA,n,c,xs,aq,ar,rfl,rfl,hn,ac,J⟩:=h;exact eW.2 ⟨FA,n,c,rfl,ac.cap,ac.sl (J.aO oh.rep λb O=>U b (by simp[O])) (by simp[hn]) λb O=>U b (by simp[O])⟩
section
variable {w ab:World} {P bW:Nat->Prop} {s:ah} {GA TA HA:IP} {gn gc tn tc hn hc:Nat} {xs:List Value} {aq ar bN bR:List Nat}
theorem pP.at_(h:pP w s GA gn gc TA tn tc HA hn hc xs aq ar bN bR)(U:∀b∈aq++(ar++(bN++bR)),P b):k9 w P s GA gn TA tn HA hn:=
 ⟨h.g.sl (cB _) (by simp[h.gl]) λb O=>U b (by simp[O]),h.t.sl (eH _) (by simp[h.tl]) λb O=>U b (by simp[O]),h.h.sl (h.hs.aO nM.rep λb O=>U b (by simp[O])) (by simp[h.hl]) λb O=>U b (by simp[O])⟩
theorem pP.al(h:pP w s GA gn gc TA tn tc HA hn hc xs aq ar bN bR)(ap:∀b∈aq++(ar++(bN++bR)),ab.heap[b]?=w.heap[b]?):pP ab s GA gn gc TA tn tc HA hn hc xs aq ar bN bR:=
 ⟨h.gl,h.tl,h.hl,h.g.al λb O=>ap b (by simp[O]),h.t.al λb O=>ap b (by simp[O]),h.h.al λb O=>ap b (by simp[O]),h.hs.al nM.al λb O=>ap b (by simp[O]),h.nd⟩
end
theorem fF{A B:List Nat}{x:Nat}(h:(A++x::B).Nodup):∀b∈A++B,b≠x:=by
 intro b O he;subst he;have:=(List.perm_middle (a:=b) (l₁:=A) (l₂:=B)).nodup_iff.1 h;exact(List.nodup_cons.1 this).1 O
theorem kN{α:Type}{g:α->α}{x:α}:∀{l:List α} {k:Nat},l[k]?=some x->l.modify k g=l.set k (g x)
 | [],k,h=>by simp at h
 | a::l,0,h=>by simp at h;subst h;rfl
 | a::l,k+1,h=>by
  simp only[List.getElem?_cons_succ] at h;rw[List.modify_succ_cons,List.set_cons_succ,kN h]
theorem j5{α:Type}(l:List α)(x:α):(l++[x]).dropLast=l:=by simp
theorem aP{w:World}{p:Addr}{u:Value}(h:b≠p.block):(w.setCell p u).heap[b]?=w.heap[b]?:=Below.heap_setCell w p u b h
section
variable {w ab:World} {P bW:Nat->Prop} {s:ah} {GA TA HA:IP} {gn gc tn tc hn hc:Nat} {xs:List Value} {aq ar bN bR:List Nat}
theorem pP.top(h:pP w s GA gn gc TA tn tc HA hn hc xs aq ar bN bR){k:Nat}(bp:s.threads[k]?=some (fs++[f])):
  ∃O b3 fc IA i ic bo l lc,HA=some ⟨O,0,none⟩/\k<hn/\O<w.heap.size/\b3<w.heap.size/\O∈bN/\b3∈bR/\i=f.ints.length/\l=f.aw.length/\
   w.cell? ⟨O,k,none⟩=some (.slice (some ⟨b3,0,none⟩) (fs.length+1) fc)/\fs.length+1<=fc/\
   w.cell? ⟨b3,fs.length*4,none⟩=some (.int .i64 f.proc)/\w.cell? ⟨b3,fs.length*4+1,none⟩=some (.int .i64 f.pc)/\w.cell? ⟨b3,fs.length*4+2,none⟩=some (.slice IA i ic)/\w.cell? ⟨b3,fs.length*4+3,none⟩=some (.slice bo l lc)/\
   (∀j,w.frozen? ⟨O,j,none⟩=false)/\(∀j,w.frozen? ⟨b3,j,none⟩=false)/\
   (∀v,pP (w.setCell ⟨b3,fs.length*4+1,none⟩ (.int .i64 v)) {s with threads:=s.threads.set k (fs++[{f with pc:=v}])} GA gn gc TA tn tc HA hn hc xs aq ar bN bR)/\
   (∀j v,j<i->∃H,IA=some ⟨H,0,none⟩/\H<w.heap.size/\H∈bR/\w.frozen? ⟨H,j,none⟩=false/\(∃u,w.cell? ⟨H,j,none⟩=some u)/\pP (w.setCell ⟨H,j,none⟩ (.int .i64 v)) {s with threads:=s.threads.set k (fs++[{f with ints:=f.ints.set j v}])} GA gn gc TA tn tc HA hn hc xs aq ar bN bR)/\
   (∃e d,pP (w.setCell ⟨O,k,none⟩ (.slice (some ⟨b3,0,none⟩) fs.length fc)) {s with threads:=s.threads.set k fs} GA gn gc TA tn tc HA hn hc e aq ar bN d/\∀b∈d,b∈bR):=by
 obtain⟨x,r,S,o,z,bi,hx,c1,c2⟩:=h.hs.at_ nM.al nM.len bp;obtain⟨FA,n,c,cA,fZ,bE,rfl,rfl,bA,bu,aA⟩:=bi;have bb:k<s.threads.length:=(List.getElem?_eq_some_iff.1 bp).1;have Q:k<hn:=by rw[h.hl];exact bb
 have cb:n=fs.length+1:=by simpa using bA
 obtain⟨b3,rfl,rfl,b7,az,bS,bZ⟩:=bu.block ad;obtain⟨O,mQ,R,T,t,A,K⟩:=h.h.block ad;obtain⟨y,aY,D,a0,rfl,B,a4,d1,d2⟩:=aA.at_ (k:=fs.length) (a:=f) oh.al oh.len (by simp);obtain⟨IA,i,ic,bo,l,lc,g,M2,rfl,rfl,ak,hl,q,bq⟩:=B;subst z R mQ;have nd:=h.nd;have nf:∀b∈(aq++(ar++([O]++r)))++(aY++((g++M2)++(a0++o))),b≠b3:=fF (by simpa[Io] using nd);have C:∀b∈(aq++ar)++(r++(b3::(aY++(g++(M2++(a0++o)))))),b≠O:=fF (by simpa[Io] using nd);refine⟨O,b3,c,IA,i,ic,bo,l,lc,rfl,Q,T,b7,by simp,by simp,ak,hl,?_,?_,?_,?_,?_,?_,A,bS,λv=>?_,λj v a1=>?_,?_⟩
 .rw[<-cb];have:=hx 0 _ rfl;rw[Nat.mul_one,Ij] at this;exact t _ _ this
 .rw[<-cb];exact bu.cap
 .exact az _ _ (by have:=a4 0 _ rfl;rwa [Ij] at this)
 .exact az _ _ (a4 1 _ rfl)
 .exact az _ _ (a4 2 _ rfl)
 .exact az _ _ (a4 3 _ rfl)
 .have ap:∀b,b≠b3->(w.setCell ⟨b3,fs.length*4+1,none⟩ (.int .i64 v)).heap[b]?=w.heap[b]?:=λb O=>aP O;have e1:oh (w.setCell ⟨b3,fs.length*4+1,none⟩ (.int .i64 v)) {f with pc:=v} ([.int .i64 f.proc,.int .i64 f.pc,.slice IA i ic,.slice bo l lc].set 1 (.int .i64 v)) (g++M2):=
   ⟨IA,i,ic,bo,l,lc,g,M2,rfl,rfl,ak,hl,q.al λb O=>ap b (nf b (by simp[O])),bq.al λb O=>ap b (nf b (by simp[O]))⟩
  have e2:=d2 _ _ 1 (.int .i64 v) _ (λb O=>ap b (nf b (by simp at O ⊢;rcases O with O|O<;>simp[O]))) ad e1;rw[List.set_append_right _ _ (Hx _),Nat.sub_self,List.set_cons_zero] at e2;have e3:nM (w.setCell ⟨b3,fs.length*4+1,none⟩ (.int .i64 v)) (fs++[{f with pc:=v}]) _ _:=⟨some ⟨b3,0,none⟩,n,c,_,[b3],_,rfl,rfl,by simpa using cb,bZ _ (.int .i64 v) (by rw[cb];omega),e2⟩
  have cH:=c1 _ _ _ (λb O=>ap b (nf b (by simp at O ⊢;rcases O with O|O<;>simp[O]))) e3;exact⟨h.gl,h.tl,by simpa using h.hl,h.g.al λb O=>ap b (nf b (by simp[O])),h.t.al λb O=>ap b (nf b (by simp[O])),h.h.al λb O=>ap b (nf b (by simp at O;simp[O])),cH,nd⟩
 .obtain⟨H,rfl,rfl,cc,Z,N,au⟩:=q.block ad;have dB:∀b∈(aq++(ar++([O]++(r++(b3::aY)))))++(M2++(a0++o)),b≠H:=fF (by simpa[Io] using nd);have ap:∀b,b≠H->(w.setCell ⟨H,j,none⟩ (.int .i64 v)).heap[b]?=w.heap[b]?:=λb O=>aP O;have e0:=au j (.int .i64 v) ad;rw[show (f.ints.map dK).set j (.int .i64 v)=(f.ints.set j v).map dK from (List.map_set (f:=dK)).symm] at e0;have e1:oh (w.setCell ⟨H,j,none⟩ (.int .i64 v)) {f with ints:=f.ints.set j v} [.int .i64 f.proc,.int .i64 f.pc,.slice (some ⟨H,0,none⟩) i ic,.slice bo l lc] ([H]++M2):=
   ⟨some ⟨H,0,none⟩,i,ic,bo,l,lc,[H],M2,rfl,rfl,by simpa using ak,hl,e0,bq.al λb O=>ap b (dB b (by simp[O]))⟩
  have e2:=d1 _ _ _ (λb O=>ap b (dB b (by simp at O ⊢;rcases O with O|O<;>simp[O]))) e1;rw[List.set_append_right _ _ (Hx _),Nat.sub_self,List.set_cons_zero] at e2;have e3:nM (w.setCell ⟨H,j,none⟩ (.int .i64 v)) (fs++[{f with ints:=f.ints.set j v}]) _ _:=⟨some ⟨b3,0,none⟩,n,c,_,[b3],_,rfl,rfl,by simpa using cb,bu.al λb O=>ap b (dB b (by simp at O;simp[O])),e2⟩
  have cH:=c1 _ _ _ (λb O=>ap b (dB b (by simp at O ⊢;rcases O with O|O<;>simp[O]))) e3;refine⟨H,rfl,cc,by simp,N _,⟨.int .i64 (f.ints[j]'ad),Z _ _ (by rw[List.getElem?_map,List.getElem?_eq_getElem ad];rfl)⟩,h.gl,h.tl,by simpa using h.hl,h.g.al λb O=>ap b (dB b (by simp[O])),h.t.al λb O=>ap b (dB b (by simp[O])),h.h.al λb O=>ap b (dB b (by simp at O;simp[O])),cH,nd⟩
 .have ap:∀b,b≠O->(w.setCell ⟨O,k,none⟩ (.slice (some ⟨b3,0,none⟩) fs.length c)).heap[b]?=w.heap[b]?:=λb h=>aP h;obtain⟨af,hp,I⟩:=aA.take oh.len fs.length;rw[List.take_left] at hp;have M:∀b∈af,b∈aY++(g++(M2++a0)):=λb O=>by have:=I.subset O;simpa[Io] using this
  have e3:nM (w.setCell ⟨O,k,none⟩ (.slice (some ⟨b3,0,none⟩) fs.length c)) fs ([.slice (some ⟨b3,0,none⟩) n c].set 0 (.slice (some ⟨b3,0,none⟩) fs.length c)) ([b3]++af):=
   ⟨some ⟨b3,0,none⟩,fs.length,c,_,[b3],af,rfl,rfl,rfl,(bu.shorter (m:=fs.length) ad ad).al λb O=>ap b (C b (by simp at O;simp[O])),hp.al oh.al λb O=>ap b (C b (by have:=M b O;simp at this ⊢;rcases this with h|h|h|h<;>simp[h]))⟩
  have cH:=c2 _ _ 0 (.slice (some ⟨b3,0,none⟩) fs.length c) _ (λb O=>ap b (C b (by simp at O ⊢;rcases O with O|O<;>simp[O]))) ad e3;rw[Nat.mul_one,Ij] at cH;refine⟨_,_,⟨h.gl,h.tl,by simpa using h.hl,h.g.al λb O=>ap b (C b (by simp[O])),h.t.al λb O=>ap b (C b (by simp[O])),K k _ ad,cH,?_⟩,λb O=>?_⟩
  .refine List.Sublist.nodup (l₂:=aq++(ar++([O]++(r++(([b3]++(aY++((g++M2)++a0)))++o))))) ?_ nd;exact(List.Sublist.refl _).append ((List.Sublist.refl _).append ((List.Sublist.refl _).append ((List.Sublist.refl _).append (((List.Sublist.refl _).append I.sublist).append (List.Sublist.refl _)))))
  .simp only[Ii] at O ⊢;rcases O with O|(O|O)|O
   .exact .inl O
   .exact .inr (.inl (.inl O))
   .exact .inr (.inl (.inr (by have:=I.subset O;simpa only[Ii] using this)))
   .exact .inr (.inr O)
theorem pP.dw(h:pP w s GA gn gc TA tn tc HA hn hc xs aq ar bN bR){j:Nat}(a1:j<gn):∃aN,GA=some ⟨aN,0,none⟩/\aN<w.heap.size/\w.frozen? ⟨aN,j,none⟩=false/\(∃u,w.cell? ⟨aN,j,none⟩=some u)/\aN∈aq/\
  ∀v,pP (w.setCell ⟨aN,j,none⟩ (.int .i64 v)) {s with globals:=s.globals.set j v} GA gn gc TA tn tc HA hn hc xs aq ar bN bR:=by
 obtain⟨aN,I,t,cg,T,a,bY⟩:=h.g.block ad;subst I t;have nd:=h.nd;have ng:∀b∈[]++(ar++(bN++bR)),b≠aN:=fF (by simpa using nd);have bT:=h.gl;refine⟨aN,rfl,cg,a _,⟨.int .i64 (s.globals[j]'ad),T _ _ (by rw[List.getElem?_map,List.getElem?_eq_getElem ad];rfl)⟩,by simp,λv=>?_⟩;have ap:∀b,b≠aN->(w.setCell ⟨aN,j,none⟩ (.int .i64 v)).heap[b]?=w.heap[b]?:=λb O=>aP O;have e0:=bY j (.int .i64 v) ad;rw[show (s.globals.map dK).set j (.int .i64 v)=(s.globals.set j v).map dK from (List.map_set (f:=dK)).symm] at e0;exact⟨by simpa using h.gl,h.tl,h.hl,e0,h.t.al λb O=>ap b (ng b (by simp[O])),h.h.al λb O=>ap b (ng b (by simp[O])),h.hs.al nM.al λb O=>ap b (ng b (by simp[O])),nd⟩
theorem pP.Gp(h:pP w s GA gn gc TA tn tc HA hn hc xs aq ar bN bR){T:List cQ}{aX:IP}{S:Nat}(a5:w.ownsRow 0 137 2 (.slice aX m S) m (T.flatMap ca))(hl:m=T.length)(hd:∀b∈bt aX m S,b∉aq++(ar++(bN++bR))):
  pP w {s with table:=T} GA gn gc aX m S HA hn hc xs aq (bt aX m S) bN bR:=by
 refine⟨h.gl,hl,h.hl,h.g,⟨a5,rfl⟩,h.h,h.hs,?_⟩;have nd:=h.nd;have n1:=List.nodup_append.1 nd;have cd:=List.nodup_append.1 n1.2.1;refine List.nodup_append.2 ⟨n1.1,List.nodup_append.2 ⟨?_,cd.2.1,λa I b O ax=>?_⟩,λa I b O ax=>?_⟩
 .unfold bt;cases (Value.slice aX m S).ownBlock<;>simp
 .subst ax;exact hd a I (by simp at O ⊢;rcases O with O|O<;>simp[O])
 .subst ax;rcases Ii.1 O with O|O
  .exact hd a O (by simp[I])
  .exact n1.2.2 a I a (by simp at O ⊢;rcases O with O|O<;>simp[O]) rfl
end
theorem FV(l:List Int):l.flatMap cD=l.map dK:=sq l
theorem lu(A:IP)(n c:Nat)(l:List Int)(w:World)(h:cJ (EF cD) 1 w w.heap.size A n l)(hn:n<=100000) :
  Calls prog 42 #[.slice A n c] w λr ab=>∃aE L,r=.returned (.slice aE n L)/\ab.ownsRow w.heap.size 3 1 (.slice aE n L) n (l.map dK)/\Below w.heap.size w ab:=by
 have heq:=λW=>qE (P:=prog) W 22 3 A n c 0 0 Tryz.underlying22;rcases A with _|a
 .have ax:n=0:=by
   rcases Nat.eq_zero_or_pos n with h0|h0
   .exact h0
   .obtain⟨b,o,h,_⟩:=h.2 h0;cases h
  subst ax;have a5:l=[]:=List.eq_nil_of_length_eq_zero h.1;subst a5;go_enter func42,ntmps42;exact yg
 .have ao:=Src.wu h (me l) (BC l) ad;rw[FV] at ao;go_enter func42,ntmps42;go_wp2_with(at_builtin;refine nH _ dT (by rfl) (.tmp 5) (.tmp 6) (by rfl) (by rfl) _ _ _ _ (by rfl) ao ad ad (λh=>nomatch h) ?_;intro cF c1 aO az bo);go_ret;exact⟨cF,c1,rfl,az,bo⟩
theorem Sl.lu{A:IP}{n c:Nat}{l:List Int}{w:World}(h:Sl w (av w) A n (l.map D.i))(hn:n<=100000) :
  Calls prog 42 #[.slice A n c] w λr ab=>∃aE L,r=.returned (.slice aE n L)/\Own ab 3 1 aE n L (l.map dK) (bt aE n L)/\(∀b∈bt aE n L,w.heap.size<=b/\b<ab.heap.size)/\Ext w ab:=
 (Go.Proofs.YtajlmkkidmjgoaaGreatDoor.lu A n c l w h.ints hn).mono λr ab ⟨aE,L,aY,bu,O⟩=>⟨aE,L,aY,⟨mj bu (Ix _),rfl⟩,λb O=>bu.lt b (by simpa using O),Fr.of O⟩
theorem Sl.tX{A:IP}{n c:Nat}{l:List cQ}{w:World}(h:Sl w (av w) A n (l.map l4))(hn:n<=5000):
  Calls prog 103 #[.slice A n c] w λr ab=>∃aE L,r=.returned (.slice aE n L)/\Own ab 137 2 aE n L (l.flatMap ca) (bt aE n L)/\(∀b∈bt aE n L,w.heap.size<=b/\b<ab.heap.size)/\Ext w ab:=
 (mM A n c l w h.holds hn).mono λr ab ⟨aE,L,aY,bu,O⟩=>⟨aE,L,aY,⟨mj bu (Ix _),rfl⟩,λb O=>bu.lt b (by simpa using O),Fr.of O⟩
section
variable {P:Program} {e t:TypeId} {z:Value} {size bytes:Nat}
theorem gx(A:IP)(n c:Nat):(bt A n c).Nodup:=by unfold bt;cases (Value.slice A n c).ownBlock<;>simp
namespace zY
theorem y7{p:Prop}(h:p:=by
 refine h aE L ab ⟨bZ,rfl⟩ (IK.grown aM λg aM=>.inl (by rw[h0.eq];simp[aM])) λb O=>?_;have aX:(Value.slice aE (n+1) L).ownBlock=some b:=by simpa using O
 rcases b5 with b5|b5
 .rw[b5] at aX;exact .inl (by rw[h0.eq];simp[aX])
 .have:=(bZ.lt b aX).2;rw[b5] at aX;injection aX with aX;right;simp at aX;omega
 ):p:=h
end zY
open zY in
theorem wL{K:Act->World->Prop}(bj:b2 P t e z size bytes)(s x:Operand)
  (bu:o.op=.call {callee:=.builtin .append,args:=#[s,x],argTypes:=#[t,t]})
  {A:IP} {n c:Nat} {xs:List Value} {F:List Nat} (h0:Own S e size A n c xs F) {cs:Array Value}
  (hs:a.eval s=.slice A n c) (hx:a.eval x=.slice (some ⟨S.heap.size,0,none⟩) 1 1) (T:cs.size=size) (ac:∀u∈cs.toList,u.oneCell'=true)
  (r:(n+1)*bytes<=140737488355328) (y:n+1<=140737488355328)
  (h:∀aE L ab,Own ab e size aE (n+1) L (xs++cs.toList) (bt aE (n+1) L)->Fr (λb=>b∈F) S ab->(∀b∈bt aE (n+1) L,b∈F\/(S.heap.size<=b/\b<ab.heap.size))->K (a.put o.dst (.slice aE (n+1) L)) ab):o.wp P a (S.alloc (.cells cs e)) K Q:=by
 refine kr _ bj s x bu 0 _ n xs hs (h0.row.alloc _) _ 1 1 cs.toList hx (Src.block (heap_alloc_new S _) 1 ad ac) r y (Ix _) (λh=>nomatch h) λH ab bZ cC b5=>?_;exact y6
theorem nI{ops:Array Oper}{rest:List Oper}(bj:b2 P t e z size bytes)(i:o.guard=none)(s x:Operand)
  (bu:o.op=.call {callee:=.builtin .append,args:=#[s,x],argTypes:=#[t,t]})
  {A:IP} {n c:Nat} {xs:List Value} {F:List Nat} (h0:Own S e size A n c xs F) {cs:Array Value}
  (hs:a.eval s=.slice A n c) (hx:a.eval x=.slice (some ⟨S.heap.size,0,none⟩) 1 1) (T:cs.size=size) (ac:∀u∈cs.toList,u.oneCell'=true)
  (r:(n+1)*bytes<=140737488355328) (y:n+1<=140737488355328)
  (h:∀aE L ab,Own ab e size aE (n+1) L (xs++cs.toList) (bt aE (n+1) L)->Fr (λb=>b∈F) S ab->(∀b∈bt aE (n+1) L,b∈F\/(S.heap.size<=b/\b<ab.heap.size))->wpList P ops Q rest (a.put o.dst (.slice aE (n+1) L)) ab):wpList P ops Q (o::rest) a (S.alloc (.cells cs e)):=
 wpList_plain i λ_ hK=>wL bj s x bu h0 hs hx T ac r y λaE L ab b0 g2 cB=>hK _ _ (h aE L ab b0 g2 cB)
end
theorem wm{fZ bE d I:List Nat}{a:Nat}(h:(fZ++bE).Nodup)(al:∀x∈fZ++bE,x<a)(hI:I.Nodup)(g:∀x∈I,a<=x/\x<b)(hK:d.Nodup)(f:∀x∈d,x∈fZ\/b<=x)(ax:a<=b):(d++(bE++I)).Nodup:=by
 have h0:=List.nodup_append.1 h;refine List.nodup_append.2 ⟨hK,List.nodup_append.2 ⟨h0.2.1,hI,λx hx y a4 c=>?_⟩,λx hx y a4 c=>?_⟩
 .have:=al x (by simp[hx]);have:=g y a4;omega
 .subst c;rcases Ii.1 a4 with a4|a4
  .rcases f x hx with ac|ac
   .exact h0.2.2 x ac x a4 rfl
   .have:=al x (by simp[a4]);omega
  .have J:=g x a4;rcases f x hx with ac|ac
   .have:=al x (by simp[ac]);omega
   .omega
theorem E0{X Y:List Nat}(hX:X.Nodup)(ca:Y.Nodup)(ac:∀x∈X,x<m)(J:∀y∈Y,m<=y):(X++Y).Nodup:=
 List.nodup_append.2 ⟨hX,ca,λx hx y a4 c=>by have:=ac x hx;have:=J y a4;omega⟩
theorem uC{aq ar bN bR:List Nat}:(aq++(ar++(bN++bR))).Nodup↔(bN++(aq++(ar++bR))).Nodup:=by
 have h:(aq++(ar++(bN++bR))).Perm (bN++(aq++(ar++bR))):=by
  rw[<-List.append_assoc aq ar,<-List.append_assoc (aq++ar) bN,<-List.append_assoc aq ar bR,<-List.append_assoc bN];exact List.perm_append_comm.append_right bR
 exact h.nodup_iff
structure Small(s:ah):Prop where
 g:s.globals.length<=1000
 t:s.table.length<=5000
 h:s.threads.length<=1000
 f:∀t∈s.threads,t.length<=1000000/\∀f∈t,f.ints.length<=100000/\f.aw.length<=100000
structure DA(B:Nat)(w:World)(s:ah)(GA:IP)(gn gc:Nat)(TA:IP)(tn tc G k:Nat)(HA:IP)(hc:Nat)(xs:List Value)(bN bR:List Nat):Prop where
 st:pP w {s with threads:=s.threads.take k} GA gn gc TA tn tc HA k hc xs (bt GA gn gc) (bt TA tn tc) bN bR
 o:an w G 45 #[.slice GA gn gc,.slice TA tn tc,.slice HA k hc,.int .i64 s.fault]
 ne:G∉bt GA gn gc++(bt TA tn tc++(bN++bR))
 lo:∀b∈bt GA gn gc++(bt TA tn tc++(bN++bR)),B<=b/\b<w.heap.size
 go:B<=G
section
variable {B:Nat} {w ab:World} {s:ah} {GA TA HA:IP} {gn gc tn tc G k hc:Nat} {xs:List Value} {bN bR:List Nat}
theorem DA.aj(h:DA B w s GA gn gc TA tn tc G k HA hc xs bN bR)(he:Ext w ab):DA B ab s GA gn gc TA tn tc G k HA hc xs bN bR:=
 ⟨h.st.al λb O=>he.block b (h.lo b O).2 λh=>h,h.o.aj he,h.ne,λb O=>⟨(h.lo b O).1,Hy (h.lo b O).2 he.size⟩,h.go⟩
theorem DA.step(h:DA B w s GA gn gc TA tn tc G k HA hc xs bN bR)(bp:s.threads[k]?=some fs){FA:IP}{n c:Nat}{cA:List Value}{fZ bE:List Nat}{aO aT:World}(he:Ext w aO)
  (bu:Own aO 139 4 FA n c cA fZ) (aA:jN oh aO fs cA bE) (hn:n=fs.length) (nd:(fZ++bE).Nodup) (hK:∀b∈fZ++bE,w.heap.size<=b/\b<aO.heap.size)
  {bc:IP} {aZ:Nat} (aY:Own aT 77 1 bc (k+1) aZ (xs++[.slice FA n c]) (bt bc (k+1) aZ)) (a1:Fr (λb=>b∈bN) aO aT) (d:∀b∈bt bc (k+1) aZ,b∈bN\/(aO.heap.size<=b/\b<aT.heap.size)) {X:World}
  (hX:aT.setCell ⟨G,2,none⟩ (.slice bc (k+1) aZ)=X):DA B X s GA gn gc TA tn tc G (k+1) bc aZ (xs++[.slice FA n c]) (bt bc (k+1) aZ) (bR++(fZ++bE)):=by
 have hw:=he.size;have cb:=a1.size;have cJ:G<w.heap.size:=h.o.lt;have o:=h.st.nd;have m:=uC.1 o;have cd:=List.nodup_append.1 m;have l:∀b∈bt GA gn gc++(bt TA tn tc++bR),b∉bN:=λb O aR=>cd.2.2 b aR b O rfl;have al:∀b∈bt GA gn gc++(bt TA tn tc++bR),b<w.heap.size/\b≠G:=λb O=>by
  have aX:b∈bt GA gn gc++(bt TA tn tc++(bN++bR)):=by
   exact D8
  exact⟨(h.lo b aX).2,λhe=>h.ne (he▸aX)⟩
 have R:∀b∈bN,b<w.heap.size/\b≠G:=λb O=>by
  have aX:b∈bt GA gn gc++(bt TA tn tc++(bN++bR)):=by simp[O]
  exact⟨(h.lo b aX).2,λhe=>h.ne (he▸aX)⟩
 have j:∀b,b≠G->X.heap[b]?=aT.heap[b]?:=λb O=>by rw[<-hX];exact aP O
 have b9:X.heap.size=aT.heap.size:=by rw[<-hX];simp[World.setCell]
 have f:∀b∈bt GA gn gc++(bt TA tn tc++bR),X.heap[b]?=w.heap[b]?:=λb O=>
  (j b (al b O).2).trans ((a1.block b (by have:=(al b O).1;omega) (l b O)).trans (he.block b (al b O).1 λh=>h))
 have g:∀b∈fZ++bE,X.heap[b]?=aO.heap[b]?:=λb O=>
  (j b (aC (hK b O))).trans (a1.block b (hK b O).2 λaR=>by have:=hK b O;have:=(R b aR).1;omega)
 have i:∀b∈bt bc (k+1) aZ,b≠G:=λb O=>by
  rcases d b O with ac|ac
  .exact(R b ac).2
  .omega
 have bi:nM X fs [.slice FA n c] (fZ++bE):=⟨FA,n,c,cA,fZ,bE,rfl,rfl,hn,bu.al λb O=>g b (by simp[O]),aA.al oh.al λb O=>g b (by simp[O])⟩
 have c6:s.threads.take (k+1)=s.threads.take k++[fs]:=a0 bp;refine⟨⟨h.st.gl,h.st.tl,?_,h.st.g.al λb O=>f b (by simp only[Ii];exact .inl O),h.st.t.al λb O=>f b (by simp only[Ii];exact .inr (.inl O)),aY.al λb O=>j b (i b O),?_,?_⟩,?_,?_,λb O=>?_,h.go⟩
 .have:=h.st.hl;show k+1=(s.threads.take (k+1)).length
  rw[c6,Hz,<-this];rfl
 .show jN nM X (s.threads.take (k+1)) _ _
  rw[c6];exact(h.st.hs.al nM.al λb O=>f b (by simp[O])).snoc bi
 .refine uC.2 ?_;rw[show bt GA gn gc++(bt TA tn tc++(bR++(fZ++bE)))=(bt GA gn gc++(bt TA tn tc++bR))++(fZ++bE) by simp];refine wm (a:=w.heap.size) (b:=aO.heap.size) m (λx hx=>?_) nd hK (gx _ _ _) (λx hx=>(d x hx).imp id λh=>h.1) hw;rcases Ii.1 hx with hx|hx
  .exact(R x hx).1
  .exact(al x hx).1
 .have:=(h.o.aj he).on a1 λaR=>(R _ aR).2 rfl;rw[<-hX];exact this.aI 2 _
 .intro aM;simp only[Ii] at aM;have ac:=h.ne;simp only[Ii] at ac;rcases aM with aM|aM|aM|aM|aM|aM
  .exact ac (.inl aM)
  .exact ac (.inr (.inl aM))
  .exact i _ aM rfl
  .exact ac (.inr (.inr (.inr aM)))
  .have:=hK G (by simp[aM]);omega
  .have:=hK G (by simp[aM]);omega
 .rw[b9];simp only[Ii] at O;have hl:=h.lo;rcases O with O|O|O|O|O|O
  .have:=hl b (by simp[O]);omega
  .have:=hl b (by simp[O]);omega
  .rcases d b O with ac|ac
   .have:=hl b (by simp[ac]);omega
   .have:=h.go;omega
  .have:=hl b (by simp[O]);omega
  .have:=hK b (by simp[O]);have:=h.go;omega
  .have:=hK b (by simp[O]);have:=h.go;omega
end
end Go.Proofs.YtajlmkkidmjgoaaGreatDoor

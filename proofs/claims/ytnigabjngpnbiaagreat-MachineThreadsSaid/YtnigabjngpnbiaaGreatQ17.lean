/- Part 17 of the proof. No condition of its own. -/
import Derived.Test.YtnigabjngpnbiaaGreatQ10
import Derived.Test.YtnigabjngpnbiaaGreatQ13
import Derived.Test.YtnigabjngpnbiaaGreatQ16
namespace Go.Proofs.YtnigabjngpnbiaaGreat
open Go.RowKit Go.Proofs.Tryz
set_option maxRecDepth 1000000
set_option maxHeartbeats 25600000
set_option linter.unusedVariables false
variable{cs:List Value}{k m:Nat}{f:ai}{u:ay}
structure E7(w:World)(P:Nat->Prop)(x:ax)(cs:List Value)(eo en:Int)(es:ByteArray)(EA:Kj)(em ec:Nat)(QA:Kj)(qm qc:Nat)(IA:Kj)(i ic:Nat)(KA:Kj)(k kc:Nat):Prop where
 cells:cs=[.int .i64 x.op,.int .i64 x.target,.bool x.c5,.int .i64 eo,.int .i64 en,.string es,.slice EA em ec,.bool x.place.param,.int .i64 x.place.index,.slice QA qm qc,.slice IA i ic,.slice KA k kc]
 expr:(m8 x.expr).rep w P [.int .i64 eo,.int .i64 en,.string es,.slice EA em ec]
 place:(c8 x.place).rep w P [.bool x.place.param,.int .i64 x.place.index,.slice QA qm qc]
 ints:Sl w P IA i (x.ints.map bB)
 GD:i<=ic
 places:Sl w P KA k (x.places.map c8)
 GG:k<=kc
theorem tY{w:World}{P:Nat->Prop}{x:ax}(h:(dH x).rep w P cs):∃eo en es EA em ec QA qm qc IA i ic KA k kc,E7 w P x cs eo en es EA em ec QA qm qc IA i ic KA k kc:=by
 unfold dH at h;rw[bK,bm] at h;obtain⟨y,rfl,h⟩:=h;rw[bm] at h;obtain⟨y,rfl,h⟩:=h;rw[eN] at h;obtain⟨y,rfl,h⟩:=h;simp only[D.aR] at h;obtain⟨ce,b3,rfl,he,c,bA,rfl,hp,ci,cO,rfl,I,b,a,rfl,aj,rfl⟩:=h;obtain⟨eo,en,es,EA,em,ec,rfl⟩:=og he;obtain⟨QA,qm,qc,rfl,_,_⟩:=dB.1 hp;obtain⟨IA,ic,i,rfl,bJ,I⟩:=D.rH.1 I;obtain⟨KA,kc,k,rfl,aA,aj⟩:=D.rH.1 aj;exact⟨eo,en,es,EA,em,ec,QA,qm,qc,IA,i,ic,KA,k,kc,rfl,he,hp,I,bJ,aj,aA⟩
theorem CR(p:cG):(fB p).sz=5:=rfl
theorem sb{w:World}{P:Nat->Prop}{p:cG}(h:(fB p).rep w P cs):∃A n c,cs=[.string p.name,.int .i64 p.ints,.int .i64 p.aq,.int .i64 p.locals,.slice A n c]/\n<=c/\Sl w P A n (p.code.map dH):=by
 unfold fB at h;rw[bK,dj] at h;obtain⟨y,rfl,h⟩:=h;exact FO
structure jf(w:World)(P:Nat->Prop)(u:ay)(GA:Kj)(gn:Nat)(MA:Kj)(mn:Nat)(PA:Kj)(pn:Nat):Prop where
 g:Sl w P GA gn (u.globals.map .i)
 m:Sl w P MA mn (u.af.map eL)
 p:Sl w P PA pn (u.procs.map fB)
theorem ua{w:World}{P:Nat->Prop}(h:(CS u).rep w P cs):∃GA gn gc MA mn mc PA pn pc,cs=[.slice GA gn gc,.slice MA mn mc,.slice PA pn pc,.int .i64 u.main]/\gn<=gc/\mn<=mc/\pn<=pc/\jf w P u GA gn MA mn PA pn:=by
 unfold CS at h;rw[bK] at h;obtain⟨A,n,c,y,rfl,hc,hs,h⟩:=aO.1 h;obtain⟨bg,n2,c2,b3,rfl,ck,bz,h⟩:=aO.1 h;obtain⟨bU,n3,c3,bA,rfl,a,cu,h⟩:=aO.1 h;obtain⟨cO,rfl,bt⟩:=bm.1 h;rw[aS] at bt;subst bt;exact⟨A,n,c,bg,n2,c2,bU,n3,c3,rfl,hc,ck,a,hs,bz,cu⟩
theorem jf.on{w J:World}{u:ay}{GA:Kj}{gn:Nat}{MA:Kj}{mn:Nat}{PA:Kj}{pn:Nat}(h:jf w (ao w) u GA gn MA mn PA pn)(he:Ext w J):jf J (ao J) u GA gn MA mn PA pn:=
 ⟨h.g.on (Fr.ext he),h.m.on (Fr.ext he),h.p.on (Fr.ext he)⟩
theorem jf.proc{w:World}{P:Nat->Prop}{GA:Kj}{gn:Nat}{MA:Kj}{mn:Nat}{PA:Kj}{pn:Nat}(h:jf w P u GA gn MA mn PA pn)(aj:k<pn):
  ∃b o p S n c,PA=some ⟨b,o,none⟩/\P b/\u.procs[k]?=some p/\w.cell? ⟨b,o+k*5,none⟩=some (.string p.name)/\w.cell? ⟨b,o+k*5+1,none⟩=some (.int .i64 p.ints)/\w.cell? ⟨b,o+k*5+2,none⟩=some (.int .i64 p.aq)/\
   w.cell? ⟨b,o+k*5+3,none⟩=some (.int .i64 p.locals)/\w.cell? ⟨b,o+k*5+4,none⟩=some (.slice S n c)/\n<=c/\Sl w P S n (p.code.map dH):=by
 obtain⟨b,o,p,cs,bu,O,hp,aZ,hl,hc⟩:=Sl.iG (z:=5) h.p CR aj;obtain⟨S,n,c,rfl,ac,ap⟩:=sb aZ;exact⟨b,o,p,S,n,c,bu,O,hp,hc 0 _ rfl,hc 1 _ rfl,hc 2 _ rfl,hc 3 _ rfl,hc 4 _ rfl,ac,ap⟩
theorem Sl.Hq{w:World}{P:Nat->Prop}{A:Kj}{n:Nat}{l:List ax}(h:Sl w P A n (l.map dH))(aj:k<n):
  ∃b o x cs eo en es EA em ec QA qm qc IA i ic KA m mc,A=some ⟨b,o,none⟩/\P b/\l[k]?=some x/\E7 w P x cs eo en es EA em ec QA qm qc IA i ic KA m mc/\∀j v,cs[j]?=some v->w.cell? ⟨b,o+k*12+j,none⟩=some v:=by
 obtain⟨b,o,x,cs,bu,O,hx,aZ,hl,hc⟩:=Sl.iG (z:=12) h lE aj;obtain⟨eo,en,es,EA,em,ec,QA,qm,qc,IA,i,ic,KA,m,mc,I⟩:=tY aZ;exact⟨b,o,x,cs,eo,en,es,EA,em,ec,QA,qm,qc,IA,i,ic,KA,m,mc,bu,O,hx,I,hc⟩
theorem Sl.rD{w:World}{P:Nat->Prop}{A:Kj}{n:Nat}{l:List bN}(h:Sl w P A n (l.map c8))(aj:k<n):
  ∃b o x QA m c,A=some ⟨b,o,none⟩/\P b/\l[k]?=some x/\w.cell? ⟨b,o+k*3,none⟩=some (.bool x.param)/\w.cell? ⟨b,o+k*3+1,none⟩=some (.int .i64 x.index)/\w.cell? ⟨b,o+k*3+2,none⟩=some (.slice QA m c)/\m<=c/\Sl w P QA m (x.at_.toList.map bB):=by
 obtain⟨b,o,x,cs,bu,O,hx,aZ,hl,hc⟩:=Sl.iG (z:=3) h (λ_=>rfl) aj;obtain⟨QA,m,c,rfl,ac,ap⟩:=dB.1 aZ;exact⟨b,o,x,QA,m,c,bu,O,hx,hc 0 _ rfl,hc 1 _ rfl,hc 2 _ rfl,ac,ap⟩
structure kR(w:World)(P:Nat->Prop)(s:ah)(GA:Kj)(gn:Nat)(TA:Kj)(tn:Nat)(HA:Kj)(hn:Nat):Prop where
 g:Sl w P GA gn (s.globals.map .i)
 t:Sl w P TA tn (s.table.map kE)
 h:Sl w P HA hn (s.threads.map jg)
section
variable {w J:World} {P c5v:Nat->Prop} {s:ah} {GA TA HA:Kj} {gn gc tn tc hn hc:Nat}
theorem kR.on(h:kR w (ao w) s GA gn TA tn HA hn)(he:Ext w J):kR J (ao J) s GA gn TA tn HA hn:=⟨h.g.on (Fr.ext he),h.t.on (Fr.ext he),h.h.on (Fr.ext he)⟩
theorem kR.mono(h:kR w P s GA gn TA tn HA hn)(hp:∀b,P b->c5v b):kR w c5v s GA gn TA tn HA hn:=⟨h.g.mono hp,h.t.mono hp,h.h.mono hp⟩
theorem fy:(dP f).rep w P cs↔∃IA i ic bo l lc,cs=[.int .i64 f.proc,.int .i64 f.pc,.slice IA i ic,.slice bo l lc]/\i<=ic/\l<=lc/\Sl w P IA i (f.ints.map D.i)/\Sl w P bo l (f.aq.map D.i):=by
 unfold dP;rw[bK];constructor
 .intro h;obtain⟨y,rfl,ac⟩:=bm.1 h;obtain⟨b5,rfl,ap⟩:=bm.1 ac;obtain⟨A,n,c,b3,rfl,hc,hs,aD⟩:=aO.1 ap;obtain⟨bg,n2,c2,bA,rfl,ck,bz,bt⟩:=aO.1 aD;rw[aS] at bt;subst bt;exact⟨A,n,c,bg,n2,c2,rfl,hc,ck,hs,bz⟩
 .rintro⟨A,n,c,bg,n2,c2,rfl,hc,ck,hs,bz⟩;exact bm.2 ⟨_,rfl,bm.2 ⟨_,rfl,aO.2 ⟨A,n,c,_,rfl,hc,hs,aO.2 ⟨bg,n2,c2,_,rfl,ck,bz,aS.2 rfl⟩⟩⟩⟩
theorem Eg(f:ai):(dP f).sz=4:=rfl
theorem Eh(t:List ai):(jg t).sz=1:=rfl
theorem ei{t:List ai}:(jg t).rep w P cs↔∃A n c,cs=[.slice A n c]/\n<=c/\Sl w P A n (t.map dP):=by
 unfold jg;rw[bK];constructor
 .intro h;obtain⟨A,n,c,y,rfl,hc,hs,ac⟩:=aO.1 h;rw[aS] at ac;subst ac;exact⟨A,n,c,rfl,hc,hs⟩
 .rintro⟨A,n,c,rfl,hc,hs⟩;exact aO.2 ⟨A,n,c,_,rfl,hc,hs,aS.2 rfl⟩
theorem Sl.kN{A:Kj}{n:Nat}{l:List (List ai)}(h:Sl w P A n (l.map jg))(aj:k<n):
  ∃b o t FA m c,A=some ⟨b,o,none⟩/\P b/\l[k]?=some t/\w.cell? ⟨b,o+k,none⟩=some (.slice FA m c)/\m<=c/\Sl w P FA m (t.map dP):=by
 obtain⟨b,o,t,cs,bu,O,hx,aZ,_,hc⟩:=Sl.iG (z:=1) h Eh aj;obtain⟨FA,m,c,rfl,ac,ap⟩:=ei.1 aZ;have aD:=hc 0 _ rfl;simp only[Nat.mul_one,JS] at aD;exact⟨b,o,t,FA,m,c,bu,O,hx,aD,ac,ap⟩
theorem Sl.oq{A:Kj}{n:Nat}{l:List ai}(h:Sl w P A n (l.map dP))(aj:k<n):
  ∃b o f IA i ic bo m lc,A=some ⟨b,o,none⟩/\P b/\l[k]?=some f/\w.cell? ⟨b,o+k*4,none⟩=some (.int .i64 f.proc)/\w.cell? ⟨b,o+k*4+1,none⟩=some (.int .i64 f.pc)/\w.cell? ⟨b,o+k*4+2,none⟩=some (.slice IA i ic)/\
   w.cell? ⟨b,o+k*4+3,none⟩=some (.slice bo m lc)/\i<=ic/\m<=lc/\Sl w P IA i (f.ints.map D.i)/\Sl w P bo m (f.aq.map D.i):=by
 obtain⟨b,o,f,cs,bu,O,hx,aZ,_,hc⟩:=Sl.iG (z:=4) h Eg aj;obtain⟨IA,i,ic,bo,m,lc,rfl,ac,ap,aD,bt⟩:=fy.1 aZ;have cl:=hc 0 _ rfl;simp only[JS] at cl;exact⟨b,o,f,IA,i,ic,bo,m,lc,bu,O,hx,cl,hc 1 _ rfl,hc 2 _ rfl,hc 3 _ rfl,ac,ap,aD,bt⟩
end
abbrev bd(A:Kj)(n c:Nat):List Nat:=(Value.slice A n c).ownBlock.toList
structure Own(w:World)(e:TypeId)(z:Nat)(A:Kj)(n c:Nat)(xs:List Value)(F:List Nat):Prop where
 row:w.ownsRow 0 e z (.slice A n c) n xs
 eq:F=bd A n c
section
variable {w J:World} {e:TypeId} {z n c:Nat} {A:Kj} {xs:List Value} {F:List Nat}
theorem Own.al(h:Own w e z A n c xs F)(aj:∀b∈F,J.heap[b]?=w.heap[b]?):Own J e z A n c xs F:=by
 refine⟨⟨h.row.1,?_⟩,h.eq⟩;rcases h.row.2 with ap|⟨g,cap,cur,bD,O,aS,rest⟩
 .exact .inl ap
 .exact .inr ⟨g,cap,cur,bD,O,(aj g (by rw[h.eq];unfold bd;rw[bD];simp[Value.ownBlock])).trans aS,rest⟩
theorem Own.cap(h:Own w e z A n c xs F):n<=c:=by
 obtain⟨a1,aW,bD,ac,_⟩:=cj h.row;injection bD with _ _ bD;omega
theorem Own.lt(h:Own w e z A n c xs F):∀b∈F,b<w.heap.size:=λb O=>by
 rw[h.eq] at O;exact(h.row.lt b (by simpa using O)).2
theorem Own.block(h:Own w e z A n c xs F)(hn:0<n):∃g,A=some ⟨g,0,none⟩/\F=[g]/\g<w.heap.size/\(∀j u,xs[j]?=some u->w.cell? ⟨g,j,none⟩=some u)/\(∀j,w.frozen? ⟨g,j,none⟩=false)/\
  ∀j u,j<n*z->Own (w.setCell ⟨g,j,none⟩ u) e z A n c (xs.set j u) F:=by
 obtain⟨g,bu,_,aq,hc,aA,hs⟩:=hj h.row hn;subst bu;exact⟨g,rfl,h.eq,aq,hc,aA,λj u be=>⟨hs j u be,h.eq⟩⟩
theorem Own.sl{l:List D}{P:Nat->Prop}(h:Own w e z A n c xs F)(aZ:D.aR w P l xs)(hl:l.length=n)(hF:∀b∈F,P b):Sl w P A n l:=
 Sl.oJ h.row aZ hl λg aS _ _=>hF g (by rw[h.eq,aS];simp[Value.ownBlock])
theorem Own.shorter(h:Own w e z A n c xs F)(hm:m<=n)(hn:0<n):Own w e z A m c (xs.take (m*z)) F:=by
 refine⟨⟨by rw[List.length_take,h.row.1];exact Nat.min_eq_left (Nat.mul_le_mul_right _ hm),?_⟩,by rw[h.eq];cases A<;>rfl⟩;rcases h.row.2 with⟨_,ap⟩|⟨g,cap,cur,bD,O,aS,ac,ap,aD,bt⟩
 .omega
 .injection bD with bu _ hc;subst bu hc;exact .inr ⟨g,c,cur,rfl,O,aS,ad,ap,aD,by rw[<-bt,List.take_take,Nat.min_eq_left (Nat.mul_le_mul_right _ hm)]⟩
end
def jC{α:Type}(E:World->α->List Value->List Nat->Prop)(w:World):List α->List Value->List Nat->Prop
 | [],xs,F=>xs=[]/\F=[]
 | a::l,xs,F=>∃x y F1 F2,xs=x++y/\F=F1++F2/\E w a x F1/\jC E w l y F2
section
variable {α:Type} {E:World->α->List Value->List Nat->Prop} {z:Nat}
def vA(E:World->α->List Value->List Nat->Prop):Prop:=∀(w J:World) (a:α) (x:List Value) (F:List Nat),E w a x F->(∀b∈F,J.heap[b]?=w.heap[b]?)->E J a x F
def xR(z:Nat)(E:World->α->List Value->List Nat->Prop):Prop:=∀(w:World) (a:α) (x:List Value) (F:List Nat),E w a x F->x.length=z
theorem jC.al(ar:vA E){w J:World}:∀{l:List α} {xs:List Value} {F:List Nat},jC E w l xs F->(∀b∈F,J.heap[b]?=w.heap[b]?)->jC E J l xs F
 | [],_,_,h,_=>h
 | a::l,xs,F,h,aj=>by
  obtain⟨x,y,F1,F2,rfl,rfl,ac,ap⟩:=h;exact⟨x,y,F1,F2,rfl,rfl,ar _ _ _ _ _ ac λb O=>aj b (by simp[O]),jC.al ar ap λb O=>aj b (by simp[O])⟩
theorem jC.snoc{w:World}{a:α}{x:List Value}{f:List Nat}:∀{l:List α} {xs:List Value} {F:List Nat},jC E w l xs F->E w a x f->jC E w (l++[a]) (xs++x) (F++f)
 | [],_,_,⟨ac,ap⟩,he=>by
  subst ac ap
  exact⟨x,[],f,[],by simp,by simp,he,rfl,rfl⟩
 | b::l,xs,F,h,he=>by
  obtain⟨Z,y,F1,F2,rfl,rfl,ac,ap⟩:=h;exact⟨Z,y++x,F1,F2++f,by simp,by simp,ac,jC.snoc ap he⟩
theorem jC.len(bi:xR z E){w:World}:∀{l:List α} {xs:List Value} {F:List Nat},jC E w l xs F->xs.length=l.length*z
 | [],_,_,⟨ac,_⟩=>by simp[ac]
 | a::l,xs,F,h=>by
  obtain⟨x,y,F1,F2,rfl,rfl,ac,ap⟩:=h;rw[JK,bi _ _ _ _ ac,jC.len bi ap,JV,Nat.succ_mul];omega
theorem jC.take{w:World}(bi:xR z E):∀{l:List α} {xs:List Value} {F:List Nat},jC E w l xs F->∀k,∃F1,jC E w (l.take k) (xs.take (k*z)) F1/\F1 <+: F
 | [],xs,F,⟨ac,ap⟩,k=>⟨[],by subst ac;simp[jC],by simp⟩
 | a::l,xs,F,h,0=>⟨[],by simp[jC],by simp⟩
 | a::l,xs,F,h,k+1=>by
  obtain⟨x,y,F1,F2,rfl,rfl,ac,ap⟩:=h;obtain⟨bj,aD,bt⟩:=jC.take bi ap k;refine⟨F1++bj,⟨x,y.take (k*z),F1,bj,?_,rfl,ac,aD⟩,by simpa using bt⟩;have:=bi _ _ _ _ ac;rw[List.take_append,JQ (by rw[this,Nat.succ_mul];omega),this,show (k+1)*z - z=k*z by rw[Nat.succ_mul];omega]
theorem jC.at_(ar:vA E)(bi:xR z E){w:World}:∀{l:List α} {xs:List Value} {F:List Nat},jC E w l xs F->∀{k:Nat} {a:α},l[k]?=some a->
  ∃x F1 f F2,F=F1++(f++F2)/\E w a x f/\(∀j u,x[j]?=some u->xs[k*z+j]?=some u)/\
   (∀J q d,(∀b∈F1++F2,J.heap[b]?=w.heap[b]?)->E J q x d->jC E J (l.set k q) xs (F1++(d++F2)))/\
   (∀J q j u d,(∀b∈F1++F2,J.heap[b]?=w.heap[b]?)->j<z->E J q (x.set j u) d->jC E J (l.set k q) (xs.set (k*z+j) u) (F1++(d++F2)))
 | [],_,_,_,k,a,aj=>by simp at aj
 | b::l,xs,F,h,0,a,aj=>by
  obtain⟨x,y,F1,F2,rfl,rfl,ac,ap⟩:=h;simp only[List.getElem?_cons_zero,Ka] at aj;subst aj;have hx:=bi _ _ _ _ ac;refine⟨x,[],F1,F2,by simp,ac,λj u be=>?_,λJ q d aj he=>⟨x,y,d,F2,rfl,by simp,he,jC.al ar ap λb O=>aj b (by simp[O])⟩,λJ q j u d aj be he=>⟨x.set j u,y,d,F2,?_,by simp,he,jC.al ar ap λb O=>aj b (by simp[O])⟩⟩
  .rw[Nat.zero_mul,J0,List.getElem?_append_left (List.getElem?_eq_some_iff.1 be).1];exact be
  .rw[Nat.zero_mul,J0,List.set_append_left _ _ ad]
 | b::l,xs,F,h,k+1,a,aj=>by
  obtain⟨bl,y,g,S,rfl,rfl,ac,ap⟩:=h;simp only[List.getElem?_cons_succ] at aj;have hx:=bi _ _ _ _ ac;obtain⟨x,F1,f,F2,rfl,aD,bt,cl,Q⟩:=jC.at_ ar bi ap aj;have af:∀j,(k+1)*z+j=bl.length+(k*z+j):=λj=>by rw[hx,Nat.succ_mul];omega
  refine⟨x,g++F1,f,F2,by simp,aD,λj u be=>?_,λJ q d aj he=>⟨bl,y,g,F1++(d++F2),rfl,by simp,ar _ _ _ _ _ ac λb O=>aj b (by simp[O]),cl J q d (λb O=>aj b (by simp at O ⊢;rcases O with O|O<;>simp[O])) he⟩,
   λJ q j u d aj be he=>⟨bl,y.set (k*z+j) u,g,F1++(d++F2),?_,by simp,ar _ _ _ _ _ ac λb O=>aj b (by simp[O]),Q J q j u d (λb O=>aj b (by simp at O ⊢;rcases O with O|O<;>simp[O])) be he⟩⟩
  .rw[af,List.getElem?_append_right ad,Nat.add_sub_cancel_left];exact bt j u be
  .rw[af,List.set_append_right _ _ ad,Nat.add_sub_cancel_left]
theorem jC.aR{w:World}{P:Nat->Prop}{enc:α->D}(aZ:∀a x F,E w a x F->(∀b∈F,P b)->(enc a).rep w P x):∀{l:List α} {xs:List Value} {F:List Nat},jC E w l xs F->(∀b∈F,P b)->D.aR w P (l.map enc) xs
 | [],_,_,⟨ac,_⟩,_=>by simp only[J5,D.aR];exact ac
 | a::l,xs,F,h,aj=>by
  obtain⟨x,y,F1,F2,rfl,rfl,ac,ap⟩:=h;simp only[JO,D.aR];exact⟨x,y,rfl,aZ _ _ _ ac λb O=>aj b (by simp[O]),jC.aR aZ ap λb O=>aj b (by simp[O])⟩
end
abbrev cX:Int->Value:=Value.int .i64
def nK(w:World)(f:ai)(cs:List Value)(F:List Nat):Prop:=∃IA i ic bo l lc F1 F2,cs=[.int .i64 f.proc,.int .i64 f.pc,.slice IA i ic,.slice bo l lc]/\F=F1++F2/\
 i=f.ints.length/\l=f.aq.length/\Own w 3 1 IA i ic (f.ints.map cX) F1/\Own w 3 1 bo l lc (f.aq.map cX) F2
def m5(w:World)(fs:List ai)(cs:List Value)(F:List Nat):Prop:=∃FA n c xs F1 F2,cs=[.slice FA n c]/\F=F1++F2/\n=fs.length/\Own w 59 4 FA n c xs F1/\jC nK w fs xs F2
structure pz(w:World)(s:ah)(GA:Kj)(gn gc:Nat)(TA:Kj)(tn tc:Nat)(HA:Kj)(hn hc:Nat)(xs:List Value)(F1 F2 bj bI:List Nat):Prop where
 gl:gn=s.globals.length
 tl:tn=s.table.length
 hl:hn=s.threads.length
 g:Own w 3 1 GA gn gc (s.globals.map cX) F1
 t:Own w 89 2 TA tn tc (s.table.flatMap bA) F2
 h:Own w 56 1 HA hn hc xs bj
 hs:jC m5 w s.threads xs bI
 nd:(F1++(F2++(bj++bI))).Nodup
theorem nK.al:vA nK:=λw J a x F h aj=>by
 obtain⟨IA,i,ic,bo,l,lc,F1,F2,rfl,rfl,I,hl,ac,ap⟩:=h;exact⟨IA,i,ic,bo,l,lc,F1,F2,rfl,rfl,I,hl,ac.al λb O=>aj b (by simp[O]),ap.al λb O=>aj b (by simp[O])⟩
theorem nK.len:xR 4 nK:=λw a x F h=>by
 obtain⟨IA,i,ic,bo,l,lc,F1,F2,rfl,_⟩:=h;rfl
theorem m5.al:vA m5:=λw J a x F h aj=>by
 obtain⟨FA,n,c,xs,F1,F2,rfl,rfl,hn,ac,ap⟩:=h;exact⟨FA,n,c,xs,F1,F2,rfl,rfl,hn,ac.al λb O=>aj b (by simp[O]),ap.al nK.al λb O=>aj b (by simp[O])⟩
theorem m5.len:xR 1 m5:=λw a x F h=>by
 obtain⟨FA,n,c,xs,F1,F2,rfl,_⟩:=h;rfl
theorem ck{w:World}{P:Nat->Prop}:∀(l:List Int),D.aR w P (l.map D.i) (l.map cX)
 | []=>by simp only[J5,D.aR]
 | a::l=>by simp only[JO];exact bm.2 ⟨_,rfl,ck l⟩
theorem dd{w:World}{P:Nat->Prop}:∀(l:List cp),D.aR w P (l.map kE) (l.flatMap bA)
 | []=>by simp only[J5,D.aR,List.flatMap_nil]
 | a::l=>by
  simp only[JO,J2,D.aR];exact⟨_,_,rfl,by unfold kE;exact bm.2 ⟨_,rfl,bm.2 ⟨_,rfl,aS.2 rfl⟩⟩,dd l⟩
theorem nK.rep{w:World}{P:Nat->Prop}(f:ai)(x:List Value)(F:List Nat)(h:nK w f x F)(S:∀b∈F,P b):(dP f).rep w P x:=by
 obtain⟨IA,i,ic,bo,l,lc,F1,F2,rfl,rfl,I,hl,ac,ap⟩:=h;exact fy.2 ⟨IA,i,ic,bo,l,lc,rfl,ac.cap,ap.cap,ac.sl (ck _) (by simp[I]) λb O=>S b (by simp[O]),ap.sl (ck _) (by simp[hl]) λb O=>S b (by simp[O])⟩
theorem m5.rep{w:World}{P:Nat->Prop}(t:List ai)(x:List Value)(F:List Nat)(h:m5 w t x F)(S:∀b∈F,P b):(jg t).rep w P x:=by
 obtain⟨FA,n,c,xs,F1,F2,rfl,rfl,hn,ac,ap⟩:=h;exact ei.2 ⟨FA,n,c,rfl,ac.cap,ac.sl (ap.aR nK.rep λb O=>S b (by simp[O])) (by simp[hn]) λb O=>S b (by simp[O])⟩
section
variable {w J:World} {P c5v:Nat->Prop} {s:ah} {GA TA HA:Kj} {gn gc tn tc hn hc:Nat} {xs:List Value} {F1 F2 bj bI:List Nat}
theorem pz.at_(h:pz w s GA gn gc TA tn tc HA hn hc xs F1 F2 bj bI)(S:∀b∈F1++(F2++(bj++bI)),P b):kR w P s GA gn TA tn HA hn:=
 ⟨h.g.sl (ck _) (by simp[h.gl]) λb O=>S b (by simp[O]),h.t.sl (dd _) (by simp[h.tl]) λb O=>S b (by simp[O]),h.h.sl (h.hs.aR m5.rep λb O=>S b (by simp[O])) (by simp[h.hl]) λb O=>S b (by simp[O])⟩
theorem pz.al(h:pz w s GA gn gc TA tn tc HA hn hc xs F1 F2 bj bI)(aj:∀b∈F1++(F2++(bj++bI)),J.heap[b]?=w.heap[b]?):pz J s GA gn gc TA tn tc HA hn hc xs F1 F2 bj bI:=
 ⟨h.gl,h.tl,h.hl,h.g.al λb O=>aj b (by simp[O]),h.t.al λb O=>aj b (by simp[O]),h.h.al λb O=>aj b (by simp[O]),h.hs.al m5.al λb O=>aj b (by simp[O]),h.nd⟩
end
theorem dZ{A B:List Nat}{x:Nat}(h:(A++x::B).Nodup):∀b∈A++B,b≠x:=by
 intro b O he;subst he;have:=(List.perm_middle (a:=b) (l₁:=A) (l₂:=B)).nodup_iff.1 h;exact(List.nodup_cons.1 this).1 O
theorem kr{α:Type}{g:α->α}{x:α}:∀{l:List α} {k:Nat},l[k]?=some x->l.modify k g=l.set k (g x)
 | [],k,h=>by simp at h
 | a::l,0,h=>by simp at h;subst h;rfl
 | a::l,k+1,h=>by
  simp only[List.getElem?_cons_succ] at h;rw[List.modify_succ_cons,List.set_cons_succ,kr h]
theorem jY{α:Type}(l:List α)(x:α):(l++[x]).dropLast=l:=by simp
theorem aJ{w:World}{p:Addr}{u:Value}{b:Nat}(h:b≠p.block):(w.setCell p u).heap[b]?=w.heap[b]?:=Below.heap_setCell w p u b h
section
variable {w J:World} {P c5v:Nat->Prop} {s:ah} {GA TA HA:Kj} {gn gc tn tc hn hc:Nat} {xs:List Value} {F1 F2 bj bI:List Nat}
theorem pz.top(h:pz w s GA gn gc TA tn tc HA hn hc xs F1 F2 bj bI){fs:List ai}(bx:s.threads[k]?=some (fs++[f])):
  ∃O bT fc IA i ic bo l lc,HA=some ⟨O,0,none⟩/\k<hn/\O<w.heap.size/\bT<w.heap.size/\O∈bj/\bT∈bI/\i=f.ints.length/\l=f.aq.length/\
   w.cell? ⟨O,k,none⟩=some (.slice (some ⟨bT,0,none⟩) (fs.length+1) fc)/\fs.length+1<=fc/\
   w.cell? ⟨bT,fs.length*4,none⟩=some (.int .i64 f.proc)/\w.cell? ⟨bT,fs.length*4+1,none⟩=some (.int .i64 f.pc)/\w.cell? ⟨bT,fs.length*4+2,none⟩=some (.slice IA i ic)/\w.cell? ⟨bT,fs.length*4+3,none⟩=some (.slice bo l lc)/\
   (∀j,w.frozen? ⟨O,j,none⟩=false)/\(∀j,w.frozen? ⟨bT,j,none⟩=false)/\
   (∀v,pz (w.setCell ⟨bT,fs.length*4+1,none⟩ (.int .i64 v)) {s with threads:=s.threads.set k (fs++[{f with pc:=v}])} GA gn gc TA tn tc HA hn hc xs F1 F2 bj bI)/\
   (∀j v,j<i->∃T,IA=some ⟨T,0,none⟩/\T<w.heap.size/\T∈bI/\w.frozen? ⟨T,j,none⟩=false/\(∃u,w.cell? ⟨T,j,none⟩=some u)/\pz (w.setCell ⟨T,j,none⟩ (.int .i64 v)) {s with threads:=s.threads.set k (fs++[{f with ints:=f.ints.set j v}])} GA gn gc TA tn tc HA hn hc xs F1 F2 bj bI)/\
   (∃o d,pz (w.setCell ⟨O,k,none⟩ (.slice (some ⟨bT,0,none⟩) fs.length fc)) {s with threads:=s.threads.set k fs} GA gn gc TA tn tc HA hn hc o F1 F2 bj d/\∀b∈d,b∈bI):=by
 obtain⟨x,z,M,e,G,a5,hx,c1,c2⟩:=h.hs.at_ m5.al m5.len bx;obtain⟨FA,n,c,co,ay,aw,rfl,rfl,cd,bb,aA⟩:=a5;have bM:k<s.threads.length:=(List.getElem?_eq_some_iff.1 bx).1;have aT:k<hn:=by rw[h.hl];exact bM
 have ck:n=fs.length+1:=by simpa using cd
 obtain⟨bT,rfl,rfl,b3,ax,g,bq⟩:=bb.block ad;obtain⟨O,lJ,bZ,bG,t,A,E⟩:=h.h.block ad;obtain⟨y,bU,L,q,rfl,H,aa,d1,d2⟩:=aA.at_ (k:=fs.length) (a:=f) nK.al nK.len (by simp);obtain⟨IA,i,ic,bo,l,lc,B,M2,rfl,rfl,I,hl,D,bc⟩:=H;subst G bZ lJ;have nd:=h.nd;have nf:∀b∈(F1++(F2++([O]++z)))++(bU++((B++M2)++(q++e))),b≠bT:=dZ (by simpa[JW] using nd);have C:∀b∈(F1++F2)++(z++(bT::(bU++(B++(M2++(q++e)))))),b≠O:=dZ (by simpa[JW] using nd);refine⟨O,bT,c,IA,i,ic,bo,l,lc,rfl,aT,bG,b3,by simp,by simp,I,hl,?_,?_,?_,?_,?_,?_,A,g,λv=>?_,λj v be=>?_,?_⟩
 .rw[<-ck];have:=hx 0 _ rfl;rw[Nat.mul_one,JS] at this;exact t _ _ this
 .rw[<-ck];exact bb.cap
 .exact ax _ _ (by have:=aa 0 _ rfl;rwa [JS] at this)
 .exact ax _ _ (aa 1 _ rfl)
 .exact ax _ _ (aa 2 _ rfl)
 .exact ax _ _ (aa 3 _ rfl)
 .have aj:∀b,b≠bT->(w.setCell ⟨bT,fs.length*4+1,none⟩ (.int .i64 v)).heap[b]?=w.heap[b]?:=λb O=>aJ O;have e1:nK (w.setCell ⟨bT,fs.length*4+1,none⟩ (.int .i64 v)) {f with pc:=v} ([.int .i64 f.proc,.int .i64 f.pc,.slice IA i ic,.slice bo l lc].set 1 (.int .i64 v)) (B++M2):=
   ⟨IA,i,ic,bo,l,lc,B,M2,rfl,rfl,I,hl,D.al λb O=>aj b (nf b (by simp[O])),bc.al λb O=>aj b (nf b (by simp[O]))⟩
  have e2:=d2 _ _ 1 (.int .i64 v) _ (λb O=>aj b (nf b (by simp at O ⊢;rcases O with O|O<;>simp[O]))) ad e1;rw[List.set_append_right _ _ (JI _),Nat.sub_self,List.set_cons_zero] at e2;have e3:m5 (w.setCell ⟨bT,fs.length*4+1,none⟩ (.int .i64 v)) (fs++[{f with pc:=v}]) _ _:=⟨some ⟨bT,0,none⟩,n,c,_,[bT],_,rfl,rfl,by simpa using ck,bq _ (.int .i64 v) (by rw[ck];omega),e2⟩
  have cn:=c1 _ _ _ (λb O=>aj b (nf b (by simp at O ⊢;rcases O with O|O<;>simp[O]))) e3;exact⟨h.gl,h.tl,by simpa using h.hl,h.g.al λb O=>aj b (nf b (by simp[O])),h.t.al λb O=>aj b (nf b (by simp[O])),h.h.al λb O=>aj b (nf b (by simp at O;simp[O])),cn,nd⟩
 .obtain⟨T,rfl,rfl,cC,bJ,r,K⟩:=D.block ad;have dJ:∀b∈(F1++(F2++([O]++(z++(bT::bU)))))++(M2++(q++e)),b≠T:=dZ (by simpa[JW] using nd);have aj:∀b,b≠T->(w.setCell ⟨T,j,none⟩ (.int .i64 v)).heap[b]?=w.heap[b]?:=λb O=>aJ O;have e0:=K j (.int .i64 v) ad;rw[show (f.ints.map cX).set j (.int .i64 v)=(f.ints.set j v).map cX from (List.map_set (f:=cX)).symm] at e0;have e1:nK (w.setCell ⟨T,j,none⟩ (.int .i64 v)) {f with ints:=f.ints.set j v} [.int .i64 f.proc,.int .i64 f.pc,.slice (some ⟨T,0,none⟩) i ic,.slice bo l lc] ([T]++M2):=
   ⟨some ⟨T,0,none⟩,i,ic,bo,l,lc,[T],M2,rfl,rfl,by simpa using I,hl,e0,bc.al λb O=>aj b (dJ b (by simp[O]))⟩
  have e2:=d1 _ _ _ (λb O=>aj b (dJ b (by simp at O ⊢;rcases O with O|O<;>simp[O]))) e1;rw[List.set_append_right _ _ (JI _),Nat.sub_self,List.set_cons_zero] at e2;have e3:m5 (w.setCell ⟨T,j,none⟩ (.int .i64 v)) (fs++[{f with ints:=f.ints.set j v}]) _ _:=⟨some ⟨bT,0,none⟩,n,c,_,[bT],_,rfl,rfl,by simpa using ck,bb.al λb O=>aj b (dJ b (by simp at O;simp[O])),e2⟩
  have cn:=c1 _ _ _ (λb O=>aj b (dJ b (by simp at O ⊢;rcases O with O|O<;>simp[O]))) e3;refine⟨T,rfl,cC,by simp,r _,⟨.int .i64 (f.ints[j]'ad),bJ _ _ (by rw[List.getElem?_map,List.getElem?_eq_getElem ad];rfl)⟩,h.gl,h.tl,by simpa using h.hl,h.g.al λb O=>aj b (dJ b (by simp[O])),h.t.al λb O=>aj b (dJ b (by simp[O])),h.h.al λb O=>aj b (dJ b (by simp at O;simp[O])),cn,nd⟩
 .have aj:∀b,b≠O->(w.setCell ⟨O,k,none⟩ (.slice (some ⟨bT,0,none⟩) fs.length c)).heap[b]?=w.heap[b]?:=λb h=>aJ h;obtain⟨S,hp,F⟩:=aA.take nK.len fs.length;rw[List.take_left] at hp;have R:∀b∈S,b∈bU++(B++(M2++q)):=λb O=>by have:=F.subset O;simpa[JW] using this
  have e3:m5 (w.setCell ⟨O,k,none⟩ (.slice (some ⟨bT,0,none⟩) fs.length c)) fs ([.slice (some ⟨bT,0,none⟩) n c].set 0 (.slice (some ⟨bT,0,none⟩) fs.length c)) ([bT]++S):=
   ⟨some ⟨bT,0,none⟩,fs.length,c,_,[bT],S,rfl,rfl,rfl,(bb.shorter (m:=fs.length) ad ad).al λb O=>aj b (C b (by simp at O;simp[O])),hp.al nK.al λb O=>aj b (C b (by have:=R b O;simp at this ⊢;rcases this with h|h|h|h<;>simp[h]))⟩
  have cn:=c2 _ _ 0 (.slice (some ⟨bT,0,none⟩) fs.length c) _ (λb O=>aj b (C b (by simp at O ⊢;rcases O with O|O<;>simp[O]))) ad e3;rw[Nat.mul_one,JS] at cn;refine⟨_,_,⟨h.gl,h.tl,by simpa using h.hl,h.g.al λb O=>aj b (C b (by simp[O])),h.t.al λb O=>aj b (C b (by simp[O])),E k _ ad,cn,?_⟩,λb O=>?_⟩
  .refine List.Sublist.nodup (l₂:=F1++(F2++([O]++(z++(([bT]++(bU++((B++M2)++q)))++e))))) ?_ nd;exact(List.Sublist.refl _).append ((List.Sublist.refl _).append ((List.Sublist.refl _).append ((List.Sublist.refl _).append (((List.Sublist.refl _).append F.sublist).append (List.Sublist.refl _)))))
  .simp only[JR] at O ⊢;rcases O with O|(O|O)|O
   .exact .inl O
   .exact .inr (.inl (.inl O))
   .exact .inr (.inl (.inr (by have:=F.subset O;simpa only[JR] using this)))
   .exact .inr (.inr O)
theorem pz.c5(h:pz w s GA gn gc TA tn tc HA hn hc xs F1 F2 bj bI){j:Nat}(be:j<gn):∃a1,GA=some ⟨a1,0,none⟩/\a1<w.heap.size/\w.frozen? ⟨a1,j,none⟩=false/\(∃u,w.cell? ⟨a1,j,none⟩=some u)/\a1∈F1/\
  ∀v,pz (w.setCell ⟨a1,j,none⟩ (.int .i64 v)) {s with globals:=s.globals.set j v} GA gn gc TA tn tc HA hn hc xs F1 F2 bj bI:=by
 obtain⟨a1,aQ,z,bC,an,a,aH⟩:=h.g.block ad;subst aQ z;have nd:=h.nd;have ng:∀b∈[]++(F2++(bj++bI)),b≠a1:=dZ (by simpa using nd);have rU:=h.gl;refine⟨a1,rfl,bC,a _,⟨.int .i64 (s.globals[j]'ad),an _ _ (by rw[List.getElem?_map,List.getElem?_eq_getElem ad];rfl)⟩,by simp,λv=>?_⟩;have aj:∀b,b≠a1->(w.setCell ⟨a1,j,none⟩ (.int .i64 v)).heap[b]?=w.heap[b]?:=λb O=>aJ O;have e0:=aH j (.int .i64 v) ad;rw[show (s.globals.map cX).set j (.int .i64 v)=(s.globals.set j v).map cX from (List.map_set (f:=cX)).symm] at e0;exact⟨by simpa using h.gl,h.tl,h.hl,e0,h.t.al λb O=>aj b (ng b (by simp[O])),h.h.al λb O=>aj b (ng b (by simp[O])),h.hs.al m5.al λb O=>aj b (ng b (by simp[O])),nd⟩
theorem pz.G6(h:pz w s GA gn gc TA tn tc HA hn hc xs F1 F2 bj bI){T:List cp}{S:Kj}{aX:Nat}(hT:w.ownsRow 0 89 2 (.slice S m aX) m (T.flatMap bA))(hl:m=T.length)(hd:∀b∈bd S m aX,b∉F1++(F2++(bj++bI))):
  pz w {s with table:=T} GA gn gc S m aX HA hn hc xs F1 (bd S m aX) bj bI:=by
 refine⟨h.gl,hl,h.hl,h.g,⟨hT,rfl⟩,h.h,h.hs,?_⟩;have nd:=h.nd;have n1:=List.nodup_append.1 nd;have n2:=List.nodup_append.1 n1.2.1;refine List.nodup_append.2 ⟨n1.1,List.nodup_append.2 ⟨?_,n2.2.1,λa bE b O ai=>?_⟩,λa bE b O ai=>?_⟩
 .unfold bd;cases (Value.slice S m aX).ownBlock<;>simp
 .subst ai;exact hd a bE (by simp at O ⊢;rcases O with O|O<;>simp[O])
 .subst ai;rcases JR.1 O with O|O
  .exact hd a O (by simp[bE])
  .exact n1.2.2 a bE a (by simp at O ⊢;rcases O with O|O<;>simp[O]) rfl
end
end Go.Proofs.YtnigabjngpnbiaaGreat

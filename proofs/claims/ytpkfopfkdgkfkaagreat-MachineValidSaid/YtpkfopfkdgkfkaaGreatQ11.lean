/- Part 11 of the proof. No condition of its own. -/
import Derived.Test.YtpkfopfkdgkfkaaGreatQ07
import Derived.Test.YtpkfopfkdgkfkaaGreatQ09
import Derived.Test.YtpkfopfkdgkfkaaGreatQ10
namespace Go.Proofs.YtpkfopfkdgkfkaaGreat
open Go.RowKit Go.Proofs.Tryz
set_option maxRecDepth 1000000
set_option maxHeartbeats 25600000
set_option linter.unusedVariables false
variable{a:Act}{cs:List Value}{fs:List al}{b j m:Nat}{o:Oper}{FA:Mt}{rest:PT}{p:Prop}{S:World}{u:aA}{f:al}
structure G3(w:World)(P:Nat->Prop)(x:aC)(cs:List Value)(eo en:Int)(es:ByteArray)(EA:Mt)(em ec:Nat)(QA:Mt)(qm qc:Nat)(IA:Mt)(i ic:Nat)(KA:Mt)(k kc:Nat):Prop where
 cells:cs=[.int .i64 x.op,.int .i64 x.target,.bool x.dv,.int .i64 eo,.int .i64 en,.string es,.slice EA em ec,.bool x.place.param,.int .i64 x.place.index,.slice QA qm qc,.slice IA i ic,.slice KA k kc]
 expr:(oD x.expr).rep w P [.int .i64 eo,.int .i64 en,.string es,.slice EA em ec]
 place:(dy x.place).rep w P [.bool x.place.param,.int .i64 x.place.index,.slice QA qm qc]
 ints:Sl w P IA i (x.ints.map bm)
 Iy:i<=ic
 places:Sl w P KA k (x.places.map dy)
 IB:k<=kc
theorem wa{w:World}{P:Nat->Prop}{x:aC}(h:(ew x).rep w P cs):∃eo en es EA em ec QA qm qc IA i ic KA k kc,G3 w P x cs eo en es EA em ec QA qm qc IA i ic KA k kc:=by
 unfold ew at h;rw[bN,bo] at h;obtain⟨y,rfl,h⟩:=h;rw[bo] at h;obtain⟨y,rfl,h⟩:=h;rw[fD] at h;obtain⟨y,rfl,h⟩:=h;simp only[D.aM] at h;obtain⟨ce,cX,rfl,he,c,bx,rfl,hp,ci,bK,rfl,aX,b,a,rfl,aj,rfl⟩:=h;obtain⟨eo,en,es,EA,em,ec,rfl⟩:=pU he;obtain⟨QA,qm,qc,rfl,_,_⟩:=eh.1 hp;obtain⟨IA,ic,i,rfl,cH,aX⟩:=D.tq.1 aX;obtain⟨KA,kc,k,rfl,ab,aj⟩:=D.tq.1 aj;exact⟨eo,en,es,EA,em,ec,QA,qm,qc,IA,i,ic,KA,k,kc,rfl,he,hp,aX,cH,aj,ab⟩
theorem Eo(p:cM):(gv p).sz=5:=rfl
theorem tV{w:World}{P:Nat->Prop}{p:cM}(h:(gv p).rep w P cs):∃A n c,cs=[.string p.name,.int .i64 p.ints,.int .i64 p.an,.int .i64 p.locals,.slice A n c]/\n<=c/\Sl w P A n (p.code.map ew):=by
 unfold gv at h;rw[bN,cu] at h;obtain⟨y,rfl,h⟩:=h;exact HF
structure hP(w:World)(P:Nat->Prop)(u:aA)(GA:Mt)(gn:Nat)(MA:Mt)(mn:Nat)(PA:Mt)(pn:Nat):Prop where
 g:Sl w P GA gn (u.globals.map .i)
 m:Sl w P MA mn (u.af.map eK)
 p:Sl w P PA pn (u.procs.map gv)
theorem l4{w:World}{P:Nat->Prop}(h:(tW u).rep w P cs):∃GA gn gc MA mn mc PA pn pc,cs=[.slice GA gn gc,.slice MA mn mc,.slice PA pn pc,.int .i64 u.main]/\gn<=gc/\mn<=mc/\pn<=pc/\hP w P u GA gn MA mn PA pn:=by
 unfold tW at h;rw[bN] at h;obtain⟨A,n,c,y,rfl,hc,hs,h⟩:=aO.1 h;obtain⟨A2,n2,c2,cX,rfl,cb,bS,h⟩:=aO.1 h;obtain⟨cC,n3,c3,bx,rfl,a9,cQ,h⟩:=aO.1 h;obtain⟨bK,rfl,bz⟩:=bo.1 h;rw[aR] at bz;subst bz;exact⟨A,n,c,A2,n2,c2,cC,n3,c3,rfl,hc,cb,a9,hs,bS,cQ⟩
theorem hP.on{w ab:World}{u:aA}{GA:Mt}{gn:Nat}{MA:Mt}{mn:Nat}{PA:Mt}{pn:Nat}(h:hP w (aq w) u GA gn MA mn PA pn)(he:Ext w ab):hP ab (aq ab) u GA gn MA mn PA pn:=
 ⟨h.g.on (Fr.ext he),h.m.on (Fr.ext he),h.p.on (Fr.ext he)⟩
theorem hP.proc{w:World}{P:Nat->Prop}{GA:Mt}{gn:Nat}{MA:Mt}{mn:Nat}{PA:Mt}{pn:Nat}(h:hP w P u GA gn MA mn PA pn){k:Nat}(aj:k<pn):
  ∃b o p S n c,PA=some ⟨b,o,none⟩/\P b/\u.procs[k]?=some p/\w.cell? ⟨b,o+k*5,none⟩=some (.string p.name)/\w.cell? ⟨b,o+k*5+1,none⟩=some (.int .i64 p.ints)/\w.cell? ⟨b,o+k*5+2,none⟩=some (.int .i64 p.an)/\
   w.cell? ⟨b,o+k*5+3,none⟩=some (.int .i64 p.locals)/\w.cell? ⟨b,o+k*5+4,none⟩=some (.slice S n c)/\n<=c/\Sl w P S n (p.code.map ew):=by
 obtain⟨b,o,p,cs,bG,O,hp,a5,hl,hc⟩:=Sl.hf (z:=5) h.p Eo aj;obtain⟨S,n,c,rfl,ac,ap⟩:=tV a5;exact⟨b,o,p,S,n,c,bG,O,hp,hc 0 _ rfl,hc 1 _ rfl,hc 2 _ rfl,hc 3 _ rfl,hc 4 _ rfl,ac,ap⟩
theorem Sl.EH{w:World}{P:Nat->Prop}{A:Mt}{n:Nat}{l:List aC}(h:Sl w P A n (l.map ew)){k:Nat}(aj:k<n):
  ∃b o x cs eo en es EA em ec QA qm qc IA i ic KA m mc,A=some ⟨b,o,none⟩/\P b/\l[k]?=some x/\G3 w P x cs eo en es EA em ec QA qm qc IA i ic KA m mc/\∀j v,cs[j]?=some v->w.cell? ⟨b,o+k*12+j,none⟩=some v:=by
 obtain⟨b,o,x,cs,bG,O,hx,a5,hl,hc⟩:=Sl.hf (z:=12) h mF aj;obtain⟨eo,en,es,EA,em,ec,QA,qm,qc,IA,i,ic,KA,m,mc,aX⟩:=wa a5;exact⟨b,o,x,cs,eo,en,es,EA,em,ec,QA,qm,qc,IA,i,ic,KA,m,mc,bG,O,hx,aX,hc⟩
theorem Sl.o5{w:World}{P:Nat->Prop}{A:Mt}{n:Nat}{l:List bU}(h:Sl w P A n (l.map dy)){k:Nat}(aj:k<n):
  ∃b o x QA m c,A=some ⟨b,o,none⟩/\P b/\l[k]?=some x/\w.cell? ⟨b,o+k*3,none⟩=some (.bool x.param)/\w.cell? ⟨b,o+k*3+1,none⟩=some (.int .i64 x.index)/\w.cell? ⟨b,o+k*3+2,none⟩=some (.slice QA m c)/\m<=c/\Sl w P QA m (x.at_.toList.map bm):=by
 obtain⟨b,o,x,cs,bG,O,hx,a5,hl,hc⟩:=Sl.hf (z:=3) h (λ_=>rfl) aj;obtain⟨QA,m,c,rfl,ac,ap⟩:=eh.1 a5;exact⟨b,o,x,QA,m,c,bG,O,hx,hc 0 _ rfl,hc 1 _ rfl,hc 2 _ rfl,ac,ap⟩
def l5(u:aA)(i:h5):Prop:=∃p,0<=i.proc/\u.procs[i.proc.toNat]?=some p/\(i.an.length:Int)=p.an
structure lP(w:World)(P:Nat->Prop)(s:ak)(GA:Mt)(gn:Nat)(TA:Mt)(tn:Nat)(HA:Mt)(hn:Nat):Prop where
 g:Sl w P GA gn (s.globals.map .i)
 t:Sl w P TA tn (s.table.map ky)
 h:Sl w P HA hn (s.threads.map fI)
section
variable {w ab:World} {P de:Nat->Prop} {s:ak} {GA TA HA:Mt} {gn gc tn tc hn hc:Nat}
theorem lP.on(h:lP w (aq w) s GA gn TA tn HA hn)(he:Ext w ab):lP ab (aq ab) s GA gn TA tn HA hn:=⟨h.g.on (Fr.ext he),h.t.on (Fr.ext he),h.h.on (Fr.ext he)⟩
theorem lP.mono(h:lP w P s GA gn TA tn HA hn)(hp:∀b,P b->de b):lP w de s GA gn TA tn HA hn:=⟨h.g.mono hp,h.t.mono hp,h.h.mono hp⟩
theorem c7:(dh f).rep w P cs↔∃IA i ic bw l lc,cs=[.int .i64 f.proc,.int .i64 f.pc,.slice IA i ic,.slice bw l lc]/\i<=ic/\l<=lc/\Sl w P IA i (f.ints.map D.i)/\Sl w P bw l (f.an.map D.i):=by
 unfold dh;rw[bN];constructor
 .intro h;obtain⟨y,rfl,ac⟩:=bo.1 h;obtain⟨cp,rfl,ap⟩:=bo.1 ac;obtain⟨A,n,c,cX,rfl,hc,hs,aV⟩:=aO.1 ap;obtain⟨A2,n2,c2,bx,rfl,cb,bS,bz⟩:=aO.1 aV;rw[aR] at bz;subst bz;exact⟨A,n,c,A2,n2,c2,rfl,hc,cb,hs,bS⟩
 .rintro⟨A,n,c,A2,n2,c2,rfl,hc,cb,hs,bS⟩;exact bo.2 ⟨_,rfl,bo.2 ⟨_,rfl,aO.2 ⟨A,n,c,_,rfl,hc,hs,aO.2 ⟨A2,n2,c2,_,rfl,cb,bS,aR.2 rfl⟩⟩⟩⟩
theorem Ge(f:al):(dh f).sz=4:=rfl
theorem Gf(t:List al):(fI t).sz=1:=rfl
theorem dn{t:List al}:(fI t).rep w P cs↔∃A n c,cs=[.slice A n c]/\n<=c/\Sl w P A n (t.map dh):=by
 unfold fI;rw[bN];constructor
 .intro h;obtain⟨A,n,c,y,rfl,hc,hs,ac⟩:=aO.1 h;rw[aR] at ac;subst ac;exact⟨A,n,c,rfl,hc,hs⟩
 .rintro⟨A,n,c,rfl,hc,hs⟩;exact aO.2 ⟨A,n,c,_,rfl,hc,hs,aR.2 rfl⟩
theorem Sl.m4{A:Mt}{n:Nat}{l:List (List al)}(h:Sl w P A n (l.map fI)){k:Nat}(aj:k<n):
  ∃b o t FA m c,A=some ⟨b,o,none⟩/\P b/\l[k]?=some t/\w.cell? ⟨b,o+k,none⟩=some (.slice FA m c)/\m<=c/\Sl w P FA m (t.map dh):=by
 obtain⟨b,o,t,cs,bG,O,hx,a5,_,hc⟩:=Sl.hf (z:=1) h Gf aj;obtain⟨FA,m,c,rfl,ac,ap⟩:=dn.1 a5;have aV:=hc 0 _ rfl;simp only[Nat.mul_one,LW] at aV;exact⟨b,o,t,FA,m,c,bG,O,hx,aV,ac,ap⟩
theorem Sl.rL{A:Mt}{n:Nat}{l:List al}(h:Sl w P A n (l.map dh)){k:Nat}(aj:k<n):
  ∃b o f IA i ic bw m lc,A=some ⟨b,o,none⟩/\P b/\l[k]?=some f/\w.cell? ⟨b,o+k*4,none⟩=some (.int .i64 f.proc)/\w.cell? ⟨b,o+k*4+1,none⟩=some (.int .i64 f.pc)/\w.cell? ⟨b,o+k*4+2,none⟩=some (.slice IA i ic)/\
   w.cell? ⟨b,o+k*4+3,none⟩=some (.slice bw m lc)/\i<=ic/\m<=lc/\Sl w P IA i (f.ints.map D.i)/\Sl w P bw m (f.an.map D.i):=by
 obtain⟨b,o,f,cs,bG,O,hx,a5,_,hc⟩:=Sl.hf (z:=4) h Ge aj;obtain⟨IA,i,ic,bw,m,lc,rfl,ac,ap,aV,bz⟩:=c7.1 a5;have cI:=hc 0 _ rfl;simp only[LW] at cI;exact⟨b,o,f,IA,i,ic,bw,m,lc,bG,O,hx,cI,hc 1 _ rfl,hc 2 _ rfl,hc 3 _ rfl,ac,ap,aV,bz⟩
end
abbrev br(A:Mt)(n c:Nat):List Nat:=(Value.slice A n c).ownBlock.toList
structure Own(w:World)(e:TypeId)(z:Nat)(A:Mt)(n c:Nat)(xs:List Value)(F:List Nat):Prop where
 row:w.ownsRow 0 e z (.slice A n c) n xs
 eq:F=br A n c
section
variable {w ab:World} {e:TypeId} {z n c:Nat} {A:Mt} {xs:List Value} {F:List Nat}
theorem Own.ai(h:Own w e z A n c xs F)(aj:∀b∈F,ab.heap[b]?=w.heap[b]?):Own ab e z A n c xs F:=by
 refine⟨⟨h.row.1,?_⟩,h.eq⟩;rcases h.row.2 with ap|⟨g,cap,cur,bE,O,aR,rest⟩
 .exact .inl ap
 .exact .inr ⟨g,cap,cur,bE,O,(aj g (by rw[h.eq];unfold br;rw[bE];simp[Value.ownBlock])).trans aR,rest⟩
theorem Own.cap(h:Own w e z A n c xs F):n<=c:=by
 obtain⟨I,aE,bE,ac,_⟩:=bT h.row;injection bE with _ _ bE;omega
theorem Own.lt(h:Own w e z A n c xs F):∀b∈F,b<w.heap.size:=λb O=>by
 rw[h.eq] at O;exact(h.row.lt b (by simpa using O)).2
theorem Own.block(h:Own w e z A n c xs F)(hn:0<n):∃g,A=some ⟨g,0,none⟩/\F=[g]/\g<w.heap.size/\(∀j u,xs[j]?=some u->w.cell? ⟨g,j,none⟩=some u)/\(∀j,w.frozen? ⟨g,j,none⟩=false)/\
  ∀j u,j<n*z->Own (w.setCell ⟨g,j,none⟩ u) e z A n c (xs.set j u) F:=by
 obtain⟨g,bG,_,an,hc,J,hs⟩:=g1 h.row hn;subst bG;exact⟨g,rfl,h.eq,an,hc,J,λj u bd=>⟨hs j u bd,h.eq⟩⟩
theorem Own.sl{l:List D}{P:Nat->Prop}(h:Own w e z A n c xs F)(a5:D.aM w P l xs)(hl:l.length=n)(hF:∀b∈F,P b):Sl w P A n l:=
 Sl.mQ h.row a5 hl λg aR _ _=>hF g (by rw[h.eq,aR];simp[Value.ownBlock])
theorem Own.shorter(h:Own w e z A n c xs F)(hm:m<=n)(hn:0<n):Own w e z A m c (xs.take (m*z)) F:=by
 refine⟨⟨by rw[List.length_take,h.row.1];exact Nat.min_eq_left (Nat.mul_le_mul_right _ hm),?_⟩,by rw[h.eq];cases A<;>rfl⟩;rcases h.row.2 with⟨_,ap⟩|⟨g,cap,cur,bE,O,aR,ac,ap,aV,bz⟩
 .omega
 .injection bE with bG _ hc;subst bG hc;exact .inr ⟨g,c,cur,rfl,O,aR,ad,ap,aV,by rw[<-bz,List.take_take,Nat.min_eq_left (Nat.mul_le_mul_right _ hm)]⟩
end
def ko{α:Type}(E:World->α->List Value->List Nat->Prop)(w:World):List α->List Value->List Nat->Prop
 | [],xs,F=>xs=[]/\F=[]
 | a::l,xs,F=>∃x y F1 F2,xs=x++y/\F=F1++F2/\E w a x F1/\ko E w l y F2
section
variable {α:Type} {E:World->α->List Value->List Nat->Prop} {z:Nat}
def xC(E:World->α->List Value->List Nat->Prop):Prop:=∀(w ab:World) (a:α) (x:List Value) (F:List Nat),E w a x F->(∀b∈F,ab.heap[b]?=w.heap[b]?)->E ab a x F
def zv(z:Nat)(E:World->α->List Value->List Nat->Prop):Prop:=∀(w:World) (a:α) (x:List Value) (F:List Nat),E w a x F->x.length=z
theorem ko.ai(aw:xC E){w ab:World}:∀{l:List α} {xs:List Value} {F:List Nat},ko E w l xs F->(∀b∈F,ab.heap[b]?=w.heap[b]?)->ko E ab l xs F
 | [],_,_,h,_=>h
 | a::l,xs,F,h,aj=>by
  obtain⟨x,y,F1,F2,rfl,rfl,ac,ap⟩:=h;exact⟨x,y,F1,F2,rfl,rfl,aw _ _ _ _ _ ac λb O=>aj b (by simp[O]),ko.ai aw ap λb O=>aj b (by simp[O])⟩
theorem ko.snoc{w:World}{a:α}{x:List Value}{g:List Nat}:∀{l:List α} {xs:List Value} {F:List Nat},ko E w l xs F->E w a x g->ko E w (l++[a]) (xs++x) (F++g)
 | [],_,_,⟨ac,ap⟩,he=>by
  subst ac ap
  exact⟨x,[],g,[],by simp,by simp,he,rfl,rfl⟩
 | b::l,xs,F,h,he=>by
  obtain⟨aK,y,F1,F2,rfl,rfl,ac,ap⟩:=h;exact⟨aK,y++x,F1,F2++g,by simp,by simp,ac,ko.snoc ap he⟩
theorem ko.len(aL:zv z E){w:World}:∀{l:List α} {xs:List Value} {F:List Nat},ko E w l xs F->xs.length=l.length*z
 | [],_,_,⟨ac,_⟩=>by simp[ac]
 | a::l,xs,F,h=>by
  obtain⟨x,y,F1,F2,rfl,rfl,ac,ap⟩:=h;rw[LM,aL _ _ _ _ ac,ko.len aL ap,LZ,Nat.succ_mul];omega
theorem ko.take{w:World}(aL:zv z E):∀{l:List α} {xs:List Value} {F:List Nat},ko E w l xs F->∀k,∃F1,ko E w (l.take k) (xs.take (k*z)) F1/\F1 <+: F
 | [],xs,F,⟨ac,ap⟩,k=>⟨[],by subst ac;simp[ko],by simp⟩
 | a::l,xs,F,h,0=>⟨[],by simp[ko],by simp⟩
 | a::l,xs,F,h,k+1=>by
  obtain⟨x,y,F1,F2,rfl,rfl,ac,ap⟩:=h;obtain⟨bL,aV,bz⟩:=ko.take aL ap k;refine⟨F1++bL,⟨x,y.take (k*z),F1,bL,?_,rfl,ac,aV⟩,by simpa using bz⟩;have:=aL _ _ _ _ ac;rw[List.take_append,LS (by rw[this,Nat.succ_mul];omega),this,show (k+1)*z - z=k*z by rw[Nat.succ_mul];omega]
theorem ko.at_(aw:xC E)(aL:zv z E){w:World}:∀{l:List α} {xs:List Value} {F:List Nat},ko E w l xs F->∀{k:Nat} {a:α},l[k]?=some a->
  ∃x F1 g F2,F=F1++(g++F2)/\E w a x g/\(∀j u,x[j]?=some u->xs[k*z+j]?=some u)/\
   (∀ab r d,(∀b∈F1++F2,ab.heap[b]?=w.heap[b]?)->E ab r x d->ko E ab (l.set k r) xs (F1++(d++F2)))/\
   (∀ab r j u d,(∀b∈F1++F2,ab.heap[b]?=w.heap[b]?)->j<z->E ab r (x.set j u) d->ko E ab (l.set k r) (xs.set (k*z+j) u) (F1++(d++F2)))
 | [],_,_,_,k,a,aj=>by simp at aj
 | b::l,xs,F,h,0,a,aj=>by
  obtain⟨x,y,F1,F2,rfl,rfl,ac,ap⟩:=h;simp only[List.getElem?_cons_zero,Mj] at aj;subst aj;have hx:=aL _ _ _ _ ac;refine⟨x,[],F1,F2,by simp,ac,λj u bd=>?_,λab r d aj he=>⟨x,y,d,F2,rfl,by simp,he,ko.ai aw ap λb O=>aj b (by simp[O])⟩,λab r j u d aj bd he=>⟨x.set j u,y,d,F2,?_,by simp,he,ko.ai aw ap λb O=>aj b (by simp[O])⟩⟩
  .rw[Nat.zero_mul,L8,List.getElem?_append_left (List.getElem?_eq_some_iff.1 bd).1];exact bd
  .rw[Nat.zero_mul,L8,List.set_append_left _ _ ad]
 | b::l,xs,F,h,k+1,a,aj=>by
  obtain⟨ci,y,i,S,rfl,rfl,ac,ap⟩:=h;simp only[List.getElem?_cons_succ] at aj;have hx:=aL _ _ _ _ ac;obtain⟨x,F1,g,F2,rfl,aV,bz,cI,bM⟩:=ko.at_ aw aL ap aj;have f:∀j,(k+1)*z+j=ci.length+(k*z+j):=λj=>by rw[hx,Nat.succ_mul];omega
  refine⟨x,i++F1,g,F2,by simp,aV,λj u bd=>?_,λab r d aj he=>⟨ci,y,i,F1++(d++F2),rfl,by simp,aw _ _ _ _ _ ac λb O=>aj b (by simp[O]),cI ab r d (λb O=>aj b (by simp at O ⊢;rcases O with O|O<;>simp[O])) he⟩,
   λab r j u d aj bd he=>⟨ci,y.set (k*z+j) u,i,F1++(d++F2),?_,by simp,aw _ _ _ _ _ ac λb O=>aj b (by simp[O]),bM ab r j u d (λb O=>aj b (by simp at O ⊢;rcases O with O|O<;>simp[O])) bd he⟩⟩
  .rw[f,List.getElem?_append_right ad,Nat.add_sub_cancel_left];exact bz j u bd
  .rw[f,List.set_append_right _ _ ad,Nat.add_sub_cancel_left]
theorem ko.aM{w:World}{P:Nat->Prop}{enc:α->D}(a5:∀a x F,E w a x F->(∀b∈F,P b)->(enc a).rep w P x):∀{l:List α} {xs:List Value} {F:List Nat},ko E w l xs F->(∀b∈F,P b)->D.aM w P (l.map enc) xs
 | [],_,_,⟨ac,_⟩,_=>by simp only[Me,D.aM];exact ac
 | a::l,xs,F,h,aj=>by
  obtain⟨x,y,F1,F2,rfl,rfl,ac,ap⟩:=h;simp only[LQ,D.aM];exact⟨x,y,rfl,a5 _ _ _ ac λb O=>aj b (by simp[O]),ko.aM a5 ap λb O=>aj b (by simp[O])⟩
end
abbrev cW:Int->Value:=Value.int .i64
def pt(w:World)(f:al)(cs:List Value)(F:List Nat):Prop:=∃IA i ic bw l lc F1 F2,cs=[.int .i64 f.proc,.int .i64 f.pc,.slice IA i ic,.slice bw l lc]/\F=F1++F2/\
 i=f.ints.length/\l=f.an.length/\Own w 3 1 IA i ic (f.ints.map cW) F1/\Own w 3 1 bw l lc (f.an.map cW) F2
def oA(w:World)(fs:List al)(cs:List Value)(F:List Nat):Prop:=∃FA n c xs F1 F2,cs=[.slice FA n c]/\F=F1++F2/\n=fs.length/\Own w 50 4 FA n c xs F1/\ko pt w fs xs F2
structure qX(w:World)(s:ak)(GA:Mt)(gn gc:Nat)(TA:Mt)(tn tc:Nat)(HA:Mt)(hn hc:Nat)(xs:List Value)(F1 F2 bL cd:List Nat):Prop where
 gl:gn=s.globals.length
 tl:tn=s.table.length
 hl:hn=s.threads.length
 g:Own w 3 1 GA gn gc (s.globals.map cW) F1
 t:Own w 79 2 TA tn tc (s.table.flatMap bO) F2
 h:Own w 46 1 HA hn hc xs bL
 hs:ko oA w s.threads xs cd
 nd:(F1++(F2++(bL++cd))).Nodup
theorem pt.ai:xC pt:=λw ab a x F h aj=>by
 obtain⟨IA,i,ic,bw,l,lc,F1,F2,rfl,rfl,aX,hl,ac,ap⟩:=h;exact⟨IA,i,ic,bw,l,lc,F1,F2,rfl,rfl,aX,hl,ac.ai λb O=>aj b (by simp[O]),ap.ai λb O=>aj b (by simp[O])⟩
theorem pt.len:zv 4 pt:=λw a x F h=>by
 obtain⟨IA,i,ic,bw,l,lc,F1,F2,rfl,_⟩:=h;rfl
theorem oA.ai:xC oA:=λw ab a x F h aj=>by
 obtain⟨FA,n,c,xs,F1,F2,rfl,rfl,hn,ac,ap⟩:=h;exact⟨FA,n,c,xs,F1,F2,rfl,rfl,hn,ac.ai λb O=>aj b (by simp[O]),ap.ai pt.ai λb O=>aj b (by simp[O])⟩
theorem oA.len:zv 1 oA:=λw a x F h=>by
 obtain⟨FA,n,c,xs,F1,F2,rfl,_⟩:=h;rfl
theorem bX{w:World}{P:Nat->Prop}:∀(l:List Int),D.aM w P (l.map D.i) (l.map cW)
 | []=>by simp only[Me,D.aM]
 | a::l=>by simp only[LQ];exact bo.2 ⟨_,rfl,bX l⟩
theorem dH{w:World}{P:Nat->Prop}:∀(l:List cx),D.aM w P (l.map ky) (l.flatMap bO)
 | []=>by simp only[Me,D.aM,List.flatMap_nil]
 | a::l=>by
  simp only[LQ,Mb,D.aM];exact⟨_,_,rfl,by unfold ky;exact bo.2 ⟨_,rfl,bo.2 ⟨_,rfl,aR.2 rfl⟩⟩,dH l⟩
theorem pt.rep{w:World}{P:Nat->Prop}(f:al)(x:List Value)(F:List Nat)(h:pt w f x F)(bg:∀b∈F,P b):(dh f).rep w P x:=by
 obtain⟨IA,i,ic,bw,l,lc,F1,F2,rfl,rfl,aX,hl,ac,ap⟩:=h;exact c7.2 ⟨IA,i,ic,bw,l,lc,rfl,ac.cap,ap.cap,ac.sl (bX _) (by simp[aX]) λb O=>bg b (by simp[O]),ap.sl (bX _) (by simp[hl]) λb O=>bg b (by simp[O])⟩
theorem oA.rep{w:World}{P:Nat->Prop}(t:List al)(x:List Value)(F:List Nat)(h:oA w t x F)(bg:∀b∈F,P b):(fI t).rep w P x:=by
 obtain⟨FA,n,c,xs,F1,F2,rfl,rfl,hn,ac,ap⟩:=h;exact dn.2 ⟨FA,n,c,rfl,ac.cap,ac.sl (ap.aM pt.rep λb O=>bg b (by simp[O])) (by simp[hn]) λb O=>bg b (by simp[O])⟩
section
variable {w ab:World} {P de:Nat->Prop} {s:ak} {GA TA HA:Mt} {gn gc tn tc hn hc:Nat} {xs:List Value} {F1 F2 bL cd:List Nat}
theorem qX.at_(h:qX w s GA gn gc TA tn tc HA hn hc xs F1 F2 bL cd)(bg:∀b∈F1++(F2++(bL++cd)),P b):lP w P s GA gn TA tn HA hn:=
 ⟨h.g.sl (bX _) (by simp[h.gl]) λb O=>bg b (by simp[O]),h.t.sl (dH _) (by simp[h.tl]) λb O=>bg b (by simp[O]),h.h.sl (h.hs.aM oA.rep λb O=>bg b (by simp[O])) (by simp[h.hl]) λb O=>bg b (by simp[O])⟩
theorem qX.ai(h:qX w s GA gn gc TA tn tc HA hn hc xs F1 F2 bL cd)(aj:∀b∈F1++(F2++(bL++cd)),ab.heap[b]?=w.heap[b]?):qX ab s GA gn gc TA tn tc HA hn hc xs F1 F2 bL cd:=
 ⟨h.gl,h.tl,h.hl,h.g.ai λb O=>aj b (by simp[O]),h.t.ai λb O=>aj b (by simp[O]),h.h.ai λb O=>aj b (by simp[O]),h.hs.ai oA.ai λb O=>aj b (by simp[O]),h.nd⟩
end
theorem eQ{A B:List Nat}{x:Nat}(h:(A++x::B).Nodup):∀b∈A++B,b≠x:=by
 intro b O he;subst he;have:=(List.perm_middle (a:=b) (l₁:=A) (l₂:=B)).nodup_iff.1 h;exact(List.nodup_cons.1 this).1 O
theorem lp{α:Type}{g:α->α}{x:α}:∀{l:List α} {k:Nat},l[k]?=some x->l.modify k g=l.set k (g x)
 | [],k,h=>by simp at h
 | a::l,0,h=>by simp at h;subst h;rfl
 | a::l,k+1,h=>by
  simp only[List.getElem?_cons_succ] at h;rw[List.modify_succ_cons,List.set_cons_succ,lp h]
theorem kH{α:Type}(l:List α)(x:α):(l++[x]).dropLast=l:=by simp
theorem aQ{w:World}{p:Addr}{u:Value}(h:b≠p.block):(w.setCell p u).heap[b]?=w.heap[b]?:=Below.heap_setCell w p u b h
section
variable {w ab:World} {P de:Nat->Prop} {s:ak} {GA TA HA:Mt} {gn gc tn tc hn hc:Nat} {xs:List Value} {F1 F2 bL cd:List Nat}
theorem qX.top(h:qX w s GA gn gc TA tn tc HA hn hc xs F1 F2 bL cd){k:Nat}(bK:s.threads[k]?=some (fs++[f])):
  ∃O cm fc IA i ic bw l lc,HA=some ⟨O,0,none⟩/\k<hn/\O<w.heap.size/\cm<w.heap.size/\O∈bL/\cm∈cd/\i=f.ints.length/\l=f.an.length/\
   w.cell? ⟨O,k,none⟩=some (.slice (some ⟨cm,0,none⟩) (fs.length+1) fc)/\fs.length+1<=fc/\
   w.cell? ⟨cm,fs.length*4,none⟩=some (.int .i64 f.proc)/\w.cell? ⟨cm,fs.length*4+1,none⟩=some (.int .i64 f.pc)/\w.cell? ⟨cm,fs.length*4+2,none⟩=some (.slice IA i ic)/\w.cell? ⟨cm,fs.length*4+3,none⟩=some (.slice bw l lc)/\
   (∀j,w.frozen? ⟨O,j,none⟩=false)/\(∀j,w.frozen? ⟨cm,j,none⟩=false)/\
   (∀v,qX (w.setCell ⟨cm,fs.length*4+1,none⟩ (.int .i64 v)) {s with threads:=s.threads.set k (fs++[{f with pc:=v}])} GA gn gc TA tn tc HA hn hc xs F1 F2 bL cd)/\
   (∀j v,j<i->∃T,IA=some ⟨T,0,none⟩/\T<w.heap.size/\T∈cd/\w.frozen? ⟨T,j,none⟩=false/\(∃u,w.cell? ⟨T,j,none⟩=some u)/\qX (w.setCell ⟨T,j,none⟩ (.int .i64 v)) {s with threads:=s.threads.set k (fs++[{f with ints:=f.ints.set j v}])} GA gn gc TA tn tc HA hn hc xs F1 F2 bL cd)/\
   (∃e d,qX (w.setCell ⟨O,k,none⟩ (.slice (some ⟨cm,0,none⟩) fs.length fc)) {s with threads:=s.threads.set k fs} GA gn gc TA tn tc HA hn hc e F1 F2 bL d/\∀b∈d,b∈cd):=by
 obtain⟨x,ao,H,g,z,aM,hx,c1,c2⟩:=h.hs.at_ oA.ai oA.len bK;obtain⟨FA,n,c,b0,b2,bV,rfl,rfl,cu,bn,J⟩:=aM;have bP:k<s.threads.length:=(List.getElem?_eq_some_iff.1 bK).1;have a8:k<hn:=by rw[h.hl];exact bP
 have cg:n=fs.length+1:=by simpa using cu
 obtain⟨cm,rfl,rfl,ce,aJ,U,cI⟩:=bn.block ad;obtain⟨O,lH,a2,bB,o,t,C⟩:=h.h.block ad;obtain⟨y,aP,F,bE,rfl,D,bb,d1,d2⟩:=J.at_ (k:=fs.length) (a:=f) pt.ai pt.len (by simp);obtain⟨IA,i,ic,bw,l,lc,q,M2,rfl,rfl,aX,hl,B,bv⟩:=D;subst z a2 lH;have nd:=h.nd;have nf:∀b∈(F1++(F2++([O]++ao)))++(aP++((q++M2)++(bE++g))),b≠cm:=eQ (by simpa[L3] using nd);have A:∀b∈(F1++F2)++(ao++(cm::(aP++(q++(M2++(bE++g)))))),b≠O:=eQ (by simpa[L3] using nd);refine⟨O,cm,c,IA,i,ic,bw,l,lc,rfl,a8,bB,ce,by simp,by simp,aX,hl,?_,?_,?_,?_,?_,?_,t,U,λv=>?_,λj v bd=>?_,?_⟩
 .rw[<-cg];have:=hx 0 _ rfl;rw[Nat.mul_one,LW] at this;exact o _ _ this
 .rw[<-cg];exact bn.cap
 .exact aJ _ _ (by have:=bb 0 _ rfl;rwa [LW] at this)
 .exact aJ _ _ (bb 1 _ rfl)
 .exact aJ _ _ (bb 2 _ rfl)
 .exact aJ _ _ (bb 3 _ rfl)
 .have aj:∀b,b≠cm->(w.setCell ⟨cm,fs.length*4+1,none⟩ v).heap[b]?=w.heap[b]?:=λb O=>aQ O;have e1:pt (w.setCell ⟨cm,fs.length*4+1,none⟩ v) {f with pc:=v} ([.int .i64 f.proc,.int .i64 f.pc,.slice IA i ic,.slice bw l lc].set 1 v) (q++M2):=
   ⟨IA,i,ic,bw,l,lc,q,M2,rfl,rfl,aX,hl,B.ai λb O=>aj b (nf b (by simp[O])),bv.ai λb O=>aj b (nf b (by simp[O]))⟩
  have e2:=d2 _ _ 1 v _ (λb O=>aj b (nf b (by simp at O ⊢;rcases O with O|O<;>simp[O]))) ad e1;rw[List.set_append_right _ _ (LK _),Nat.sub_self,List.set_cons_zero] at e2;have e3:oA (w.setCell ⟨cm,fs.length*4+1,none⟩ v) (fs++[{f with pc:=v}]) _ _:=⟨some ⟨cm,0,none⟩,n,c,_,[cm],_,rfl,rfl,by simpa using cg,cI _ v (by rw[cg];omega),e2⟩
  have be:=c1 _ _ _ (λb O=>aj b (nf b (by simp at O ⊢;rcases O with O|O<;>simp[O]))) e3;exact⟨h.gl,h.tl,by simpa using h.hl,h.g.ai λb O=>aj b (nf b (by simp[O])),h.t.ai λb O=>aj b (nf b (by simp[O])),h.h.ai λb O=>aj b (nf b (by simp at O;simp[O])),be,nd⟩
 .obtain⟨T,rfl,rfl,c9,cH,r,R⟩:=B.block ad;have dK:∀b∈(F1++(F2++([O]++(ao++(cm::aP)))))++(M2++(bE++g)),b≠T:=eQ (by simpa[L3] using nd);have aj:∀b,b≠T->(w.setCell ⟨T,j,none⟩ v).heap[b]?=w.heap[b]?:=λb O=>aQ O;have e0:=R j v ad;rw[show (f.ints.map cW).set j v=(f.ints.set j v).map cW from (List.map_set (f:=cW)).symm] at e0;have e1:pt (w.setCell ⟨T,j,none⟩ v) {f with ints:=f.ints.set j v} [.int .i64 f.proc,.int .i64 f.pc,.slice (some ⟨T,0,none⟩) i ic,.slice bw l lc] ([T]++M2):=
   ⟨some ⟨T,0,none⟩,i,ic,bw,l,lc,[T],M2,rfl,rfl,by simpa using aX,hl,e0,bv.ai λb O=>aj b (dK b (by simp[O]))⟩
  have e2:=d1 _ _ _ (λb O=>aj b (dK b (by simp at O ⊢;rcases O with O|O<;>simp[O]))) e1;rw[List.set_append_right _ _ (LK _),Nat.sub_self,List.set_cons_zero] at e2;have e3:oA (w.setCell ⟨T,j,none⟩ v) (fs++[{f with ints:=f.ints.set j v}]) _ _:=⟨some ⟨cm,0,none⟩,n,c,_,[cm],_,rfl,rfl,by simpa using cg,bn.ai λb O=>aj b (dK b (by simp at O;simp[O])),e2⟩
  have be:=c1 _ _ _ (λb O=>aj b (dK b (by simp at O ⊢;rcases O with O|O<;>simp[O]))) e3;refine⟨T,rfl,c9,by simp,r _,⟨.int .i64 (f.ints[j]'ad),cH _ _ (by rw[List.getElem?_map,List.getElem?_eq_getElem ad];rfl)⟩,h.gl,h.tl,by simpa using h.hl,h.g.ai λb O=>aj b (dK b (by simp[O])),h.t.ai λb O=>aj b (dK b (by simp[O])),h.h.ai λb O=>aj b (dK b (by simp at O;simp[O])),be,nd⟩
 .have aj:∀b,b≠O->(w.setCell ⟨O,k,none⟩ (.slice (some ⟨cm,0,none⟩) fs.length c)).heap[b]?=w.heap[b]?:=λb h=>aQ h;obtain⟨S,hp,E⟩:=J.take pt.len fs.length;rw[List.take_left] at hp;have M:∀b∈S,b∈aP++(q++(M2++bE)):=λb O=>by have:=E.subset O;simpa[L3] using this
  have e3:oA (w.setCell ⟨O,k,none⟩ (.slice (some ⟨cm,0,none⟩) fs.length c)) fs ([.slice (some ⟨cm,0,none⟩) n c].set 0 (.slice (some ⟨cm,0,none⟩) fs.length c)) ([cm]++S):=
   ⟨some ⟨cm,0,none⟩,fs.length,c,_,[cm],S,rfl,rfl,rfl,(bn.shorter (m:=fs.length) ad ad).ai λb O=>aj b (A b (by simp at O;simp[O])),hp.ai pt.ai λb O=>aj b (A b (by have:=M b O;simp at this ⊢;rcases this with h|h|h|h<;>simp[h]))⟩
  have be:=c2 _ _ 0 (.slice (some ⟨cm,0,none⟩) fs.length c) _ (λb O=>aj b (A b (by simp at O ⊢;rcases O with O|O<;>simp[O]))) ad e3;rw[Nat.mul_one,LW] at be;refine⟨_,_,⟨h.gl,h.tl,by simpa using h.hl,h.g.ai λb O=>aj b (A b (by simp[O])),h.t.ai λb O=>aj b (A b (by simp[O])),C k _ ad,be,?_⟩,λb O=>?_⟩
  .refine List.Sublist.nodup (l₂:=F1++(F2++([O]++(ao++(([cm]++(aP++((q++M2)++bE)))++g))))) ?_ nd;exact(List.Sublist.refl _).append ((List.Sublist.refl _).append ((List.Sublist.refl _).append ((List.Sublist.refl _).append (((List.Sublist.refl _).append E.sublist).append (List.Sublist.refl _)))))
  .simp only[LU] at O ⊢;rcases O with O|(O|O)|O
   .exact .inl O
   .exact .inr (.inl (.inl O))
   .exact .inr (.inl (.inr (by have:=E.subset O;simpa only[LU] using this)))
   .exact .inr (.inr O)
theorem qX.dv(h:qX w s GA gn gc TA tn tc HA hn hc xs F1 F2 bL cd)(bd:j<gn):∃ct,GA=some ⟨ct,0,none⟩/\ct<w.heap.size/\w.frozen? ⟨ct,j,none⟩=false/\(∃u,w.cell? ⟨ct,j,none⟩=some u)/\ct∈F1/\
  ∀v,qX (w.setCell ⟨ct,j,none⟩ (.int .i64 v)) {s with globals:=s.globals.set j v} GA gn gc TA tn tc HA hn hc xs F1 F2 bL cd:=by
 obtain⟨ct,y,I,cl,S,a,bB⟩:=h.g.block ad;subst y I;have nd:=h.nd;have ng:∀b∈[]++(F2++(bL++cd)),b≠ct:=eQ (by simpa using nd);have sZ:=h.gl;refine⟨ct,rfl,cl,a _,⟨.int .i64 (s.globals[j]'ad),S _ _ (by rw[List.getElem?_map,List.getElem?_eq_getElem ad];rfl)⟩,by simp,λv=>?_⟩;have aj:∀b,b≠ct->(w.setCell ⟨ct,j,none⟩ (.int .i64 v)).heap[b]?=w.heap[b]?:=λb O=>aQ O;have e0:=bB j (.int .i64 v) ad;rw[show (s.globals.map cW).set j (.int .i64 v)=(s.globals.set j v).map cW from (List.map_set (f:=cW)).symm] at e0;exact⟨by simpa using h.gl,h.tl,h.hl,e0,h.t.ai λb O=>aj b (ng b (by simp[O])),h.h.ai λb O=>aj b (ng b (by simp[O])),h.hs.ai oA.ai λb O=>aj b (ng b (by simp[O])),nd⟩
theorem qX.I8(h:qX w s GA gn gc TA tn tc HA hn hc xs F1 F2 bL cd){T:List cx}{a1:Mt}{L:Nat}(hT:w.ownsRow 0 79 2 (.slice a1 m L) m (T.flatMap bO))(hl:m=T.length)(hd:∀b∈br a1 m L,b∉F1++(F2++(bL++cd))):
  qX w {s with table:=T} GA gn gc a1 m L HA hn hc xs F1 (br a1 m L) bL cd:=by
 refine⟨h.gl,hl,h.hl,h.g,⟨hT,rfl⟩,h.h,h.hs,?_⟩;have nd:=h.nd;have n1:=List.nodup_append.1 nd;have n2:=List.nodup_append.1 n1.2.1;refine List.nodup_append.2 ⟨n1.1,List.nodup_append.2 ⟨?_,n2.2.1,λa aZ b O aA=>?_⟩,λa aZ b O aA=>?_⟩
 .unfold br;cases (Value.slice a1 m L).ownBlock<;>simp
 .subst aA;exact hd a aZ (by simp at O ⊢;rcases O with O|O<;>simp[O])
 .subst aA;rcases LU.1 O with O|O
  .exact hd a O (by simp[aZ])
  .exact n1.2.2 a aZ a (by simp at O ⊢;rcases O with O|O<;>simp[O]) rfl
end
theorem n9(l:List Int):l.flatMap cO=l.map cW:=ua l
theorem l1(A:Mt)(n c:Nat)(l:List Int)(w:World)(h:cw (EF cO) 1 w w.heap.size A n l)(hn:n<=100000) :
  Calls prog 55 #[.slice A n c] w λr ab=>∃I aE,r=.returned (.slice I n aE)/\ab.ownsRow w 3 1 (.slice I n aE) n (l.map cW)/\Below w w ab:=by
 have heq:=λW=>r3 (P:=prog) W 22 3 A n c 0 0 Tryz.underlying22;rcases A with _|a
 .have aM:n=0:=by
   rcases Nat.eq_zero_or_pos n with h0|h0
   .exact h0
   .obtain⟨b,o,h,_⟩:=h.2 h0;cases h
  subst aM;have hT:l=[]:=List.eq_nil_of_length_eq_zero h.1;subst hT;go_enter func55,ntmps55;exact Ae
 .have aA:=Src.jL h (gA l) (iO l) ad;rw[n9] at aA;go_enter func55,ntmps55;go_wp2_with(at_builtin;refine db _ cF (by rfl) (.tmp 5) (.tmp 6) (by rfl) (by rfl) _ _ _ _ (by rfl) aA ad ad (λh=>nomatch h) ?_;intro cR c1 aS aO b0);go_ret;exact⟨cR,c1,rfl,aO,b0⟩
theorem Sl.l1{A:Mt}{n c:Nat}{l:List Int}{w:World}(h:Sl w (aq w) A n (l.map D.i))(hn:n<=100000) :
  Calls prog 55 #[.slice A n c] w λr ab=>∃I aE,r=.returned (.slice I n aE)/\Own ab 3 1 I n aE (l.map cW) (br I n aE)/\(∀b∈br I n aE,w.heap.size<=b/\b<ab.heap.size)/\Ext w ab:=
 (Go.Proofs.YtpkfopfkdgkfkaaGreat.l1 A n c l w h.ints hn).mono λr ab ⟨I,aE,a5,bn,O⟩=>⟨I,aE,a5,⟨hr bn (Md _),rfl⟩,λb O=>bn.lt b (by simpa using O),Fr.of O⟩
theorem Sl.v7{A:Mt}{n c:Nat}{l:List cx}{w:World}(h:Sl w (aq w) A n (l.map ky))(hn:n<=5000):
  Calls prog 97 #[.slice A n c] w λr ab=>∃I aE,r=.returned (.slice I n aE)/\Own ab 79 2 I n aE (l.flatMap bO) (br I n aE)/\(∀b∈br I n aE,w.heap.size<=b/\b<ab.heap.size)/\Ext w ab:=
 (nr A n c l w h.holds hn).mono λr ab ⟨I,aE,a5,bn,O⟩=>⟨I,aE,a5,⟨hr bn (Md _),rfl⟩,λb O=>bn.lt b (by simpa using O),Fr.of O⟩
section
variable {P:Program} {e t:TypeId} {z:Value} {size bytes:Nat}
theorem ff(A:Mt)(n c:Nat):(br A n c).Nodup:=by unfold br;cases (Value.slice A n c).ownBlock<;>simp
namespace Co
theorem BI(h:p:=by
 refine h I aE ab ⟨bY,rfl⟩ (Mo.grown aR λg aR=>.inl (by rw[h0.eq];simp[aR])) λb O=>?_;have a1:(Value.slice I (n+1) aE).ownBlock=some b:=by simpa using O
 rcases H with H|H
 .rw[H] at a1;exact .inl (by rw[h0.eq];simp[a1])
 .have:=(bY.lt b a1).2;rw[H] at a1;injection a1 with a1;right;simp at a1;omega
 ):p:=h
end Co
open Co in
theorem yu{K:Act->World->Prop}{Q:Exit->Act->World->Prop}(bG:cn P t e z size bytes)(s x:Operand)
  (bn:o.op=.call {callee:=.builtin .append,args:=#[s,x],argTypes:=#[t,t]})
  {A:Mt} {n c:Nat} {xs:List Value} {F:List Nat} (h0:Own S e size A n c xs F) {cs:Array Value}
  (hs:a.eval s=.slice A n c) (hx:a.eval x=.slice (some ⟨S,0,none⟩) 1 1) (T:cs.size=size) (ac:∀u∈cs.toList,u.oneCell'=true)
  (r:(n+1)*bytes<=140737488355328) (y:n+1<=140737488355328)
  (h:∀I aE ab,Own ab e size I (n+1) aE (xs++cs.toList) (br I (n+1) aE)->Fr (λb=>b∈F) S ab->(∀b∈br I (n+1) aE,b∈F\/(S.heap.size<=b/\b<ab.heap.size))->K (a.put o.dst (.slice I (n+1) aE)) ab):o.wp P a (S.alloc (.cells cs e)) K Q:=by
 refine km _ bG s x bn 0 _ n xs hs (h0.row.alloc _) _ 1 1 cs.toList hx (Src.block (heap_alloc_new S _) 1 ad ac) r y (Md _) (λh=>nomatch h) λG ab bY b9 H=>?_;exact BH
theorem ov{ops:Array Oper}{rest:List Oper}{Q:Exit->Act->World->Prop}(bG:cn P t e z size bytes)(i:o.guard=none)(s x:Operand)
  (bn:o.op=.call {callee:=.builtin .append,args:=#[s,x],argTypes:=#[t,t]})
  {A:Mt} {n c:Nat} {xs:List Value} {F:List Nat} (h0:Own S e size A n c xs F) {cs:Array Value}
  (hs:a.eval s=.slice A n c) (hx:a.eval x=.slice (some ⟨S,0,none⟩) 1 1) (T:cs.size=size) (ac:∀u∈cs.toList,u.oneCell'=true)
  (r:(n+1)*bytes<=140737488355328) (y:n+1<=140737488355328)
  (h:∀I aE ab,Own ab e size I (n+1) aE (xs++cs.toList) (br I (n+1) aE)->Fr (λb=>b∈F) S ab->(∀b∈br I (n+1) aE,b∈F\/(S.heap.size<=b/\b<ab.heap.size))->wpList P ops Q rest (a.put o.dst (.slice I (n+1) aE)) ab):wpList P ops Q (o::rest) a (S.alloc (.cells cs e)):=
 wpList_plain i λ_ hK=>yu bG s x bn h0 hs hx T ac r y λI aE ab bT g2 cP=>hK _ _ (h I aE ab bT g2 cP)
end
theorem yb{b2 bV f I:List Nat}{a:Nat}(h:(b2++bV).Nodup)(an:∀x∈b2++bV,x<a)(hI:I.Nodup)(d:∀x∈I,a<=x/\x<b)(hK:f.Nodup)(g:∀x∈f,x∈b2\/b<=x)(aA:a<=b):(f++(bV++I)).Nodup:=by
 have h0:=List.nodup_append.1 h;refine List.nodup_append.2 ⟨hK,List.nodup_append.2 ⟨h0.2.1,hI,λx hx y bb c=>?_⟩,λx hx y bb c=>?_⟩
 .have:=an x (by simp[hx]);have:=d y bb;omega
 .subst c;rcases LU.1 bb with bb|bb
  .rcases g x hx with ac|ac
   .exact h0.2.2 x ac x bb rfl
   .have:=an x (by simp[bb]);omega
  .have ap:=d x bb;rcases g x hx with ac|ac
   .have:=an x (by simp[ac]);omega
   .omega
theorem ID{X Y:List Nat}(hX:X.Nodup)(co:Y.Nodup)(ac:∀x∈X,x<m)(ap:∀y∈Y,m<=y):(X++Y).Nodup:=
 List.nodup_append.2 ⟨hX,co,λx hx y bb c=>by have:=ac x hx;have:=ap y bb;omega⟩
theorem wO{F1 F2 bL cd:List Nat}:(F1++(F2++(bL++cd))).Nodup↔(bL++(F1++(F2++cd))).Nodup:=by
 have h:(F1++(F2++(bL++cd))).Perm (bL++(F1++(F2++cd))):=by
  rw[<-List.append_assoc F1 F2,<-List.append_assoc (F1++F2) bL,<-List.append_assoc F1 F2 cd,<-List.append_assoc bL];exact List.perm_append_comm.append_right cd
 exact h.nodup_iff
structure Small(s:ak):Prop where
 g:s.globals.length<=1000
 t:s.table.length<=5000
 h:s.threads.length<=1000
 f:∀t∈s.threads,t.length<=1000000/\∀f∈t,f.ints.length<=100000/\f.an.length<=100000
structure G1(B:Nat)(w:World)(s:ak)(GA:Mt)(gn gc:Nat)(TA:Mt)(tn tc N k:Nat)(HA:Mt)(hc:Nat)(xs:List Value)(bL cd:List Nat):Prop where
 st:qX w {s with threads:=s.threads.take k} GA gn gc TA tn tc HA k hc xs (br GA gn gc) (br TA tn tc) bL cd
 o:au w N 26 #[.slice GA gn gc,.slice TA tn tc,.slice HA k hc,.int .i64 s.fault]
 ne:N∉br GA gn gc++(br TA tn tc++(bL++cd))
 lo:∀b∈br GA gn gc++(br TA tn tc++(bL++cd)),B<=b/\b<w.heap.size
 go:B<=N
section
variable {B:Nat} {w ab:World} {s:ak} {GA TA HA:Mt} {gn gc tn tc N k hc:Nat} {xs:List Value} {bL cd:List Nat}
theorem G1.aj(h:G1 B w s GA gn gc TA tn tc N k HA hc xs bL cd)(he:Ext w ab):G1 B ab s GA gn gc TA tn tc N k HA hc xs bL cd:=
 ⟨h.st.ai λb O=>he.block b (h.lo b O).2 λh=>h,h.o.aj he,h.ne,λb O=>⟨(h.lo b O).1,LL (h.lo b O).2 he.size⟩,h.go⟩
theorem G1.step(h:G1 B w s GA gn gc TA tn tc N k HA hc xs bL cd)(bK:s.threads[k]?=some fs){n c:Nat}{b0:List Value}{b2 bV:List Nat}{aS aT:World}(he:Ext w aS)
  (bn:Own aS 50 4 FA n c b0 b2) (J:ko pt aS fs b0 bV) (hn:n=fs.length) (nd:(b2++bV).Nodup) (hK:∀b∈b2++bV,w.heap.size<=b/\b<aS.heap.size)
  {a4:Mt} {S:Nat} (a5:Own aT 46 1 a4 (k+1) S (xs++[.slice FA n c]) (br a4 (k+1) S)) (cg:Fr (λb=>b∈bL) aS aT) (r:∀b∈br a4 (k+1) S,b∈bL\/(aS.heap.size<=b/\b<aT.heap.size)) {X:World}
  (hX:aT.setCell ⟨N,2,none⟩ (.slice a4 (k+1) S)=X):G1 B X s GA gn gc TA tn tc N (k+1) a4 S (xs++[.slice FA n c]) (br a4 (k+1) S) (cd++(b2++bV)):=by
 have hw:=he.size;have bS:=cg.size;have cG:N<w:=h.o.lt;have m:=h.st.nd;have l:=wO.1 m;have n2:=List.nodup_append.1 l;have j:∀b∈br GA gn gc++(br TA tn tc++cd),b∉bL:=λb O aV=>n2.2.2 b aV b O rfl;have an:∀b∈br GA gn gc++(br TA tn tc++cd),b<w.heap.size/\b≠N:=λb O=>by
  have a1:b∈br GA gn gc++(br TA tn tc++(bL++cd)):=by
   exact zQ
  exact⟨(h.lo b a1).2,λhe=>h.ne (he▸a1)⟩
 have a2:∀b∈bL,b<w.heap.size/\b≠N:=λb O=>by
  have a1:b∈br GA gn gc++(br TA tn tc++(bL++cd)):=by simp[O]
  exact⟨(h.lo b a1).2,λhe=>h.ne (he▸a1)⟩
 have i:∀b,b≠N->X.heap[b]?=aT.heap[b]?:=λb O=>by rw[<-hX];exact aQ O
 have cr:X=aT.heap.size:=by rw[<-hX];simp[World.setCell]
 have d:∀b∈br GA gn gc++(br TA tn tc++cd),X.heap[b]?=w.heap[b]?:=λb O=>
  (i b (an b O).2).trans ((cg.block b (by have:=(an b O).1;omega) (j b O)).trans (he.block b (an b O).1 λh=>h))
 have f:∀b∈b2++bV,X.heap[b]?=aS.heap[b]?:=λb O=>
  (i b (ay (hK b O))).trans (cg.block b (hK b O).2 λaV=>by have:=hK b O;have:=(a2 b aV).1;omega)
 have g:∀b∈br a4 (k+1) S,b≠N:=λb O=>by
  rcases r b O with ac|ac
  .exact(a2 b ac).2
  .omega
 have aM:oA X fs [.slice FA n c] (b2++bV):=⟨FA,n,c,b0,b2,bV,rfl,rfl,hn,bn.ai λb O=>f b (by simp[O]),J.ai pt.ai λb O=>f b (by simp[O])⟩
 have dB:s.threads.take (k+1)=s.threads.take k++[fs]:=aY bK;refine⟨⟨h.st.gl,h.st.tl,?_,h.st.g.ai λb O=>d b (by simp only[LU];exact .inl O),h.st.t.ai λb O=>d b (by simp only[LU];exact .inr (.inl O)),a5.ai λb O=>i b (g b O),?_,?_⟩,?_,?_,λb O=>?_,h.go⟩
 .have:=h.st.hl;show k+1=(s.threads.take (k+1)).length
  rw[dB,LM,<-this];rfl
 .show ko oA X (s.threads.take (k+1)) _ _
  rw[dB];exact(h.st.hs.ai oA.ai λb O=>d b (by simp[O])).snoc aM
 .refine wO.2 ?_;rw[show br GA gn gc++(br TA tn tc++(cd++(b2++bV)))=(br GA gn gc++(br TA tn tc++cd))++(b2++bV) by simp];refine yb (a:=w.heap.size) (b:=aS.heap.size) l (λx hx=>?_) nd hK (ff _ _ _) (λx hx=>(r x hx).imp id λh=>h.1) hw;rcases LU.1 hx with hx|hx
  .exact(a2 x hx).1
  .exact(an x hx).1
 .have:=(h.o.aj he).on cg λaV=>(a2 _ aV).2 rfl;rw[<-hX];exact this.aN 2 _
 .intro aR;simp only[LU] at aR;have ac:=h.ne;simp only[LU] at ac;rcases aR with aR|aR|aR|aR|aR|aR
  .exact ac (.inl aR)
  .exact ac (.inr (.inl aR))
  .exact g _ aR rfl
  .exact ac (.inr (.inr (.inr aR)))
  .have:=hK N (by simp[aR]);omega
  .have:=hK N (by simp[aR]);omega
 .rw[cr];simp only[LU] at O;have hl:=h.lo;rcases O with O|O|O|O|O|O
  .have:=hl b (by simp[O]);omega
  .have:=hl b (by simp[O]);omega
  .rcases r b O with ac|ac
   .have:=hl b (by simp[ac]);omega
   .have:=h.go;omega
  .have:=hl b (by simp[O]);omega
  .have:=hK b (by simp[O]);have:=h.go;omega
  .have:=hK b (by simp[O]);have:=h.go;omega
end
theorem tN:cn prog 44 50 (.agg #[(0:Int),(0:Int),(),()]) 4 64:=cn.mk' Tryz.underlying44 (by kernel_rfl) rfl ad
theorem pE:cn prog 24 46 (.agg #[()]) 1 24:=cn.mk' Tryz.underlying24 (by kernel_rfl) rfl ad
theorem Own.aj{w ab:World}{e:TypeId}{z n c:Nat}{A:Mt}{xs:List Value}{F:List Nat}(h:Own w e z A n c xs F)(he:Ext w ab):Own ab e z A n c xs F:=h.ai λb O=>he.block b (h.lt b O) λh=>h
abbrev JW(W:World)(s:ak)(gn tn:Nat)(N:Nat)(bg:Mt)(aY:Nat)(a1:Mt)(L:Nat)(V:World):Prop:=Ext W V/\au V N 26 #[.slice none 0 0,.slice none 0 0,.slice none 0 0,.int .i64 0]/\W.heap.size<=N/\Own V 3 1 bg gn aY (s.globals.map cW) (br bg gn aY)/\Own V 79 2 a1 tn L (s.table.flatMap bO) (br a1 tn L)/\(∀b∈br bg gn aY,W.heap.size<=b/\b≠N)/\(∀b∈br a1 tn L,W.heap.size<=b/\b≠N/\b∉br bg gn aY)
structure H0(aT wr:World)(fs:List al)(j:Nat)(FA:Mt)(fc:Nat)(b0:List Value)(b2 bV:List Nat):Prop where
 ext:Ext aT wr
 o:Own wr 50 4 FA j fc b0 b2
 f:ko pt wr (fs.take j) b0 bV
 nd:(b2++bV).Nodup
 lo:∀b∈b2++bV,aT.heap.size<=b/\b<wr.heap.size
theorem H0.aj{aT wr ab:World}{fs:List al}{j:Nat}{FA:Mt}{fc:Nat}{b0:List Value}{b2 bV:List Nat}(h:H0 aT wr fs j FA fc b0 b2 bV)(he:Ext wr ab):H0 aT ab fs j FA fc b0 b2 bV:=
 ⟨h.ext.trans he,h.o.aj he,h.f.ai pt.ai λb O=>he.block b (h.lo b (by simp[O])).2 λh=>h,h.nd,λb O=>⟨(h.lo b O).1,LL (h.lo b O).2 he.size⟩⟩
theorem H0.step{aT wr:World}{fc:Nat}{b0:List Value}{b2 bV:List Nat}(h:H0 aT wr fs j FA fc b0 b2 bV)(bK:fs[j]?=some f){a b c:World}{IA bw:Mt}{i ic l lc:Nat}
  (ar:Ext wr a) (hI:Own a 3 1 IA i ic (f.ints.map cW) (br IA i ic)) (d:∀x∈br IA i ic,wr.heap.size<=x/\x<a.heap.size) (aX:i=f.ints.length)
  (bJ:Ext a b) (bD:Own b 3 1 bw l lc (f.an.map cW) (br bw l lc)) (cC:∀x∈br bw l lc,a.heap.size<=x/\x<b.heap.size) (hl:l=f.an.length)
  {cD:Mt} {ck:Nat} (bn:Own c 50 4 cD (j+1) ck (b0++[.int .i64 f.proc,.int .i64 f.pc,.slice IA i ic,.slice bw l lc]) (br cD (j+1) ck)) (J:Fr (λx=>x∈b2) b c) (r:∀x∈br cD (j+1) ck,x∈b2\/(b.heap.size<=x/\x<c.heap.size)) :
  H0 aT c fs (j+1) cD ck (b0++[.int .i64 f.proc,.int .i64 f.pc,.slice IA i ic,.slice bw l lc]) (br cD (j+1) ck) (bV++(br IA i ic++br bw l lc)):=by
 have F:=h.ext.size;have s1:=ar.size;have s2:=bJ.size;have dN:=J.size;have O:=(h.aj ar).aj bJ;have bv:∀x∈b2,x<wr.heap.size:=λx hx=>(h.lo x (by simp[hx])).2;have bi:∀x∈bV,x∉b2:=λx hx ac=>(List.nodup_append.1 h.nd).2.2 x ac x hx rfl;have cg:pt c f [.int .i64 f.proc,.int .i64 f.pc,.slice IA i ic,.slice bw l lc] (br IA i ic++br bw l lc):=
  ⟨IA,i,ic,bw,l,lc,_,_,rfl,rfl,aX,hl,(hI.aj bJ).ai λx hx=>J.block x (ay (d x hx)) λac=>by have:=d x hx;have:=bv x ac;omega,bD.ai λx hx=>J.block x (cC x hx).2 λac=>by have:=cC x hx;have:=bv x ac;omega⟩
 refine⟨Fr.low (M:=λx=>x∈b2) (Fr.trans (Fr.mono O.ext λ_ h=>h.elim) J) λx hx=>(h.lo x (by simp[hx])).1,bn,?_,?_,λx hx=>?_⟩
 .rw[aY bK];exact(O.f.ai pt.ai λx hx=>J.block x (by have:=(h.lo x (by simp[hx])).2;omega) (bi x hx)).snoc cg
 .refine yb (a:=wr.heap.size) (b:=b.heap.size) h.nd (λx hx=>(h.lo x hx).2) (ID (m:=a.heap.size) (ff _ _ _) (ff _ _ _) (λx hx=>(d x hx).2) λx hx=>(cC x hx).1) (λx hx=>?_) (ff _ _ _) (λx hx=>(r x hx).imp id λh=>h.1) ad;rcases LU.1 hx with hx|hx
  .have:=d x hx;omega
  .have:=cC x hx;omega
 .simp only[LU] at hx;rcases hx with hx|hx|hx|hx
  .rcases r x hx with ac|ac
   .have:=h.lo x (by simp[ac]);omega
   .omega
  .have:=h.lo x (by simp[hx]);omega
  .have:=d x hx;omega
  .have:=cC x hx;omega
section
variable {P:Program} {ops:Array Oper} {Q:Exit->Act->World->Prop} {R:World->World->Prop} {tails:List Nat}
theorem xo{α β γ δ ε:Type}{aa:α->β->γ->δ->ε->Act}{C:α->β->γ->δ->ε->World->Prop}{G:Prop}(h:(∀x y z u v V,C x y z u v V->cS P ops Q R tails rest (aa x y z u v) V)->G)(key:∀x y z u v V,C x y z u v V->cS P ops Q R tails rest (aa x y z u v) V):G:=h key
end
theorem JN{P:Program}{ops:Array Oper}{Q:Exit->Act->World->Prop}{R:World->World->Prop}{tails:List Nat}{W:World}(C:World->Prop)(hC:C W)(h:∀V,C V->cS P ops Q R tails rest a V):cS P ops Q R tails rest a W:=h W hC
def Ja(w:World)(s:ak)(gn tn hn:Nat)(e:Ending)(ab:World):Prop:=∃GA gc TA tc HA hc xs F1 F2 bL cd,e=.returned (.agg #[.slice GA gn gc,.slice TA tn tc,.slice HA hn hc,.int .i64 s.fault])/\qX ab s GA gn gc TA tn tc HA hn hc xs F1 F2 bL cd/\(∀b∈F1++(F2++(bL++cd)),w.heap.size<=b/\b<ab.heap.size)/\Ext w ab
namespace Cp
theorem fy(h:p:=by
 refine ch ?_;generalize hX:World.setCell _ _ _=X;obtain⟨bp,bu,cE⟩:=bA (w:=W) [.slice bg gn aY,.slice a1 tn L,(),.int .i64 s.fault] (by rfl) c5 bo am hX;have ap:=aL.lt;have aG:=g.lt;have n:G1 W X s bg gn aY a1 tn L N 0 none 0 [] [] []:=by
  refine⟨⟨bX.1,bX.2.1,rfl,aL.ai λb O=>cE.block b (ap b O) (J b O).2,g.ai λb O=>cE.block b (aG b O) (y b O).2.1,⟨World.ownsRow_nil _ _ _ _,rfl⟩,⟨rfl,rfl⟩,?_⟩,bp,?_,λb O=>?_,am⟩
  .simp only[Mg];exact List.nodup_append.2 ⟨ff _ _ _,ff _ _ _,λa aZ b O aA=>(y b O).2.2 (aA▸aZ)⟩
  .simp only[Mg,LU];rintro(O|O)
   .exact(J _ O).2 rfl
   .exact(y _ O).2.1 rfl
  .simp only[Mg,LU] at O;have:=cE.size;rcases O with O|O
   .exact⟨(J b O).1,by have:=ap b O;omega⟩
   .exact⟨(y b O).1,by have:=aG b O;omega⟩
 obtain⟨a0,ai,af⟩:=(ah.2.1.aj bu).two;have aN:=ag n bu;clear d0 aK aM hX bp bu cE ap aG n bo c5 aL g J y;go_wp2_with(fail);clear a0 ai af;go_loopw [21] (λcA wr=>∃(k:Nat) (a4:Mt) (S:Nat) (xs:List Value) (bL cd:List Nat),cA=.int .i64 k/\k<=hn/\G1 W wr s bg gn aY a1 tn L N k a4 S xs bL cd/\Ext W wr) (λcA _=>hn - (intOf cA).toNat)
 case atStart=>exact⟨0,none,0,[],[],[],rfl,ad,aN.1,aN.2⟩
 case round=>
  obtain⟨k,a4,S,xs,bL,cd,rfl,aj,hC,e⟩:=hrel;obtain⟨T,rfl⟩:∃T,T=wr:=⟨wr,rfl⟩
  clear aN;have bU:=ag hC e;have cl:N<T:=hC.o.lt;by_cases an:k<hn
  .obtain⟨b,o,fs,a5,m,c0,rfl,O,bK,a8,hm,cI⟩:=(ah.2.2.2.on e).h.m4 an;have cv:b<T:=O;have cj:m=fs.length:=by have:=cI.1;simpa using this.symm
   have al:=aX.f fs (LN bK);have bz:m<=1000000:=by have:=al.1;omega
   have b3:=bF bK cI cj al.2;clear hC e O bK cI cj al;go_upto_region 6 with(fail);generalize hV:World.alloc _ _=V;have bo:=aU hV;have b8:=aI hV;have cc:=ag bo (b3.2.1.on (Fr.ext bo));obtain⟨d0,aK,aM⟩:=b8.two;clear hV bo b8 a8;go_wp2_with(fail);clear d0 aK aM;go_loopw [6,28] (λa7 bY wr=>∃(j:Nat) (FA:Mt) (fc:Nat) (b0:List Value) (b2 bV:List Nat),a7=.slice FA j fc/\bY=.int .i64 j/\j<=m/\H0 V wr fs j FA fc b0 b2 bV) (λ_ bY _=>m - (intOf bY).toNat)
   case atStart=>exact⟨0,none,0,[],[],[],rfl,rfl,ad,Mo,⟨World.ownsRow_nil _ _ _ _,rfl⟩,⟨rfl,rfl⟩,by simp,λb O=>by simp at O⟩
   case round=>
    obtain⟨j,FA,fc,b0,b2,bV,rfl,rfl,bd,hI⟩:=hrel;have b5:=ae hI;by_cases cg:j<m
    .obtain⟨cm,da,f,IA,i,ic,bw,l,lc,rfl,cy,H,c0,c1,c2,c3,cH,cx,aQ,ce⟩:=(cc.2.on (Fr.ext hI.ext)).rL cg;have aW:cm<wr:=cy;have c9:i=f.ints.length:=by have:=aQ.1;simpa using this.symm
     have bE:l=f.an.length:=by have:=ce.1;simpa using this.symm
     have aR:=b3.2.2.2 f (LN H);have bb:i<=100000:=ad;have cq:l<=100000:=ad;have bN:=az H c9 bE;have z:=ag aQ ce;clear hI cy H c9 bE aR aQ ce cH cx;go_upto_region 9 with(fail);generalize hU:World.alloc _ _=U;have cr:=aU hU;have c8:=aI hU;have cB:=az (b5.aj cr) (z.1.on (Fr.ext cr)) (z.2.on (Fr.ext cr));obtain⟨d0,aK,aM⟩:=c8.two;clear hU cr c8 c0 c1 c2 c3 z;refine eJ (λ_=>False) [(0,3),(1,3),(2,0),(3,3),(4,0),(5,3),(6,0),(8,3),(9,0),(7,1),(10,1),(11,3),(12,2),(13,2),(14,3)] ?_
     iterate 2 refine pf ?_
     refine ph ?_;refine pf ?_;refine ph ?_;refine pf ?_;refine ph ?_;refine pf ?_;refine ph ?_;refine aB rfl (λK hK=>?_);go_simp;refine(Sl.l1 (Sl.on cB.2.1 (Fr.ext (Fr.refl _ U).drew)) ad).mono ?_;rintro r aS ⟨Z,cG,rfl,E,bB,ar⟩;have H1:=az E bB ar;refine dq hK (ar) ?_;clear hK K;clear E bB ar;refine aB rfl (λK hK=>?_);go_simp;refine(Sl.l1 (Sl.on cB.2.2 (Fr.ext (Fr.aG H1.2.2))) ad).mono ?_;rintro r aT ⟨bi,bQ,rfl,cn,aC,bJ⟩;have bc:=az cn aC bJ;refine dq hK (bJ) ?_;clear hK K;clear cn aC bJ;have ab:=((cB.1.o.aj (Fr.aG H1.2.2)).aj bc.2.2)
     refine pf ?_;refine ax rfl (λK hK=>?_);go_simp;refine dX hK ?_;clear hK K;refine ax rfl (λK hK=>?_);rw[if_pos (by rfl)];refine yu tN (.tmp 32) (.tmp 44) rfl ab (cs:=#[.int .i64 f.proc,.int .i64 f.pc,.slice Z i cG,.slice bi l bQ]) rfl rfl rfl (by simp[Value.oneCell']) ad ad ?_;intro cD ck b7 bT g2 cP;refine dX hK ?_;clear hK K;refine pf ?_;refine aF ?_;have a3:=ae (cB.1.step bN.1 (Fr.aG H1.2.2) H1.1 (λx hx=>H1.2.1 x hx) bN.2.1 bc.2.2 bc.1 bc.2.1 bN.2.2 bT g2 cP);clear bT g2 cP ab d0 aK aM;go_wp2_with(fail);go_roundw
     case rel=>exact⟨j+1,cD,ck,_,_,_,rfl,by go_num,ad,a3.o⟩
     case measure=>exact aH
    .obtain rfl:j=m:=ad;have u:Ext T wr:=cc.1.trans hI.ext;have G:=ae (bU.1.aj u);have br:=ae u;obtain⟨d0,aK,aM⟩:=G.o.o.two;have b6:=G.st.h;have dW:N∉bL:=λh=>G.ne (by simp[h]);clear hI u;go_wp2_with(at_builtin;refine ov pE rfl (.tmp 48) (.tmp 51) rfl b6 (cs:=#[.slice FA j fc]) rfl rfl rfl (by simp[Value.oneCell']) ad ad ?_;intro cT cb b7 bT g2 cP;have bI:=G.o.o.on g2 dW;have I:=bF bT g2 cP bI;clear bT g2 cP d0 aK aM;obtain⟨e0,be,a6⟩:=bI.two;clear bI);go_roundw
     case rel=>
      have ao:=b5.f;rw[LS (ay b3.2.2.1)] at ao;have bv:=b5.lo;have ds:=cc.1.size;exact⟨k+1,cT,cb,_,_,_,by go_num,ad,bU.1.step b3.1 br.o b5.o.o ao b3.2.2.1 b5.nd (λb O=>⟨by have:=bv b O;omega,(bv b O).2⟩) I.1 I.2.1 I.2.2.1 rfl,
       Fr.low (M:=λb=>b∈bL\/b=N) (Fr.trans (Fr.mono (bU.2.trans br.o) λ_ h=>h.elim) (Fr.setCell (Fr.mono I.2.1 λ_ h=>.inl h) (.inl (.inr rfl)) _)) λb O=>by
        rcases O with O|O
        .exact(bU.1.lo b (by simp[O])).1
        .rw[O];exact bU.1.go⟩
     case measure=>exact aH
  .obtain rfl:k=hn:=ad;obtain⟨d0,aK,aM⟩:=hC.o.two;have aV:=ah.2.2.1.aj e;obtain⟨bl,aD,aP⟩:=aV.two;have bm:=ah.1.trans e;have b9:=ag aV bm;clear hC e aV bm;go_wp2_with(fail);generalize co:World.setCell _ _ _=Y;obtain⟨bH,bG,bx⟩:=bA (w:=w) [.slice bg gn aY,.slice a1 tn L,.slice a4 k S,.int .i64 s.fault] (by rfl) b9.1 b9.2 ad co;have bC:=ag bG bx;clear co bG bx d0 aK aM bl aD aP;obtain⟨bl,aD,aP⟩:=bH.two;refine Mn (v:=.agg #[.slice bg gn aY,.slice a1 tn L,.slice a4 k S,.int .i64 s.fault]) (by simp[results,Tryz.results50,go_sem,bl]) rfl ?_;have cz:=bU.1.st;rw[LS (ay bX.2.2)] at cz;have bv:=bU.1.lo;have cN:=aO.o;refine⟨bg,aY,a1,L,a4,S,xs,_,_,bL,cd,rfl,cz.ai λb O=>bC.2.block b (bv b O).2 (ay (bv b O)),λb O=>?_,bC.1⟩;have:=bv b O;have:=bC.2.size;omega
 ):p:=h
end Cp
open Cp in
theorem fV(s:ak)(GA TA HA:Mt)(gn gc tn tc hn hc:Nat)(w:World)(h:lP w (aq w) s GA gn TA tn HA hn)(b1:Small s) :
  Calls prog 50 #[.agg #[.slice GA gn gc,.slice TA tn tc,.slice HA hn hc,.int .i64 s.fault]] w (Ja w s gn tn hn):=by
 have sZ:gn=s.globals.length:=by have:=h.g.1;simpa using this.symm
 have ud:tn=s.table.length:=by have:=h.t.1;simpa using this.symm
 have nv:hn=s.threads.length:=by have:=h.h.1;simpa using this.symm
 have cJ:gn<=100000:=by have:=b1.g;omega
 have cF:tn<=5000:=by have:=b1.t;omega
 have dw:hn<=1000:=by have:=b1.h;omega
 have bX:=az sZ ud nv;obtain⟨aX,bn⟩:=aJ b1 h;clear h b1 sZ ud nv;go_enter func50,ntmps50;go_upto_region 1 with(fail);generalize ba:World.alloc _ _=W;have aw:=h9 ba;have cK:=gb ba;have bM:=fG ba;have cN:W=w.heap.size+2:=by rw[<-ba];simp
 have ah:=bF aw cK bM (bn.on aw);obtain⟨a0,ai,af⟩:=cK.two;have aO:=ae cN;clear ba aw cK bM cN;refine r0 (λ_=>False) [10] (.free 0 (.held 1 (.free 3 (.held 4 (.free 6 (.held 7 (.pick [2,9] (λi=>bif i == 2 then .pick [5,9] (λi=>bif i == 5 then .free 8 (.pick [9] (λ_=>.pick [10] (λ_=>.stop))) else .pick [5] (λ_=>.free 8 (.pick [10] (λ_=>.stop)))) else .pick [2] (λ_=>.pick [5] (λ_=>.free 8 (.pick [10] (λ_=>.stop)))))))))))) ?_;refine tf ?_;refine th ?_;refine tf ?_;refine th ?_;refine tf ?_;refine th ?_;refine xo (P:=?P1) (ops:=?o1) (Q:=?q1) (R:=?r1) (tails:=?t1) (rest:=.pick [10] (λ_=>.stop)) (aa:=?aa) (C:=JW W s gn tn) (λkey=>?main) ?key
 case main=>
  refine a2 ?_ ?_
  ·
   refine aE rfl (λK hK=>?_) rfl;go_simp;refine(Sl.l1 (ah.2.2.2.on (Fr.refl _ W).drew).g ad).mono ?_;rintro r aS ⟨bg,aY,rfl,E,bB,ar⟩;have s1:=ar.size;have q1:W.drew.heap.size=W:=rfl;refine dq hK (ar) ?_;clear hK K;refine a2 ?_ ?_
   ·
    refine aE rfl (λK hK=>?_) rfl;go_simp;refine(Sl.v7 (ah.2.2.2.on (Fr.aG ar)).t ad).mono ?_;rintro r aT ⟨a1,L,rfl,cn,aC,bJ⟩;have s2:=bJ.size;refine dq hK (bJ) ?_;clear hK K;refine tf ?_;refine av ?_;refine eu ?_;have hC:JW W s gn tn (aT.heap.size) bg aY a1 L (aT.alloc (.cells #[(),(),(),(0:Int)] 26)):=by
     refine⟨((Fr.aG ar).trans bJ).alloc _,Mp,ad,(E.aj bJ).aj (Mo.alloc _),cn.aj (Mo.alloc _),λb O=>?_,λb O=>⟨?_,?_,λac=>?_⟩⟩
     .have:=bB b O;omega
     .have:=aC b O;omega
     .have:=aC b O;omega
     .have:=aC b O;have:=bB b ac;omega
    generalize aT.heap.size=dh at hC ⊢;exact key dh bg aY a1 L _ hC
   ·
    refine eu ?_;refine JN (λV=>Ext aS V/\au V aS 26 #[(),(),(),(0:Int)]/\aS.heap.size<V.heap.size) ⟨Mo.alloc _,Mp,(Mp).lt⟩ (λV hV=>?_);refine av ?_;refine aE rfl (λK hK=>?_) rfl;go_simp;refine(Sl.v7 ((ah.2.2.2.on (Fr.aG ar)).on hV.1).t ad).mono ?_;rintro r aT ⟨a1,L,rfl,cn,aC,bJ⟩;have s2:=bJ.size;have dN:=hV.1.size;refine dq hK (bJ) ?_;clear hK K;refine tf ?_;have hC:JW W s gn tn (aS.heap.size) bg aY a1 L aT:=by
     refine⟨((Fr.aG ar).trans hV.1).trans bJ,hV.2.1.aj bJ,ad,(E.aj hV.1).aj bJ,cn,λb O=>?_,λb O=>⟨?_,?_,λac=>?_⟩⟩
     .have:=bB b O;omega
     .have:=aC b O;omega
     .have:=aC b O;have:=hV.2.2;omega
     .have:=aC b O;have:=bB b ac;omega
    generalize aS.heap.size=dh at hC ⊢;exact key dh bg aY a1 L _ hC
  ·
   refine eu ?_;refine JN (λV=>Ext W V/\au V W 26 #[(),(),(),(0:Int)]/\W.heap.size<V.heap.size) ⟨(Mo.drew).alloc _,au.new W.drew _ _,(au.new W.drew _ _).lt⟩ (λV hV=>?_);refine av ?_;refine aE rfl (λK hK=>?_) rfl;go_simp;refine(Sl.l1 (ah.2.2.2.on hV.1).g ad).mono ?_;rintro r aS ⟨bg,aY,rfl,E,bB,ar⟩;have s1:=ar.size;have F:=hV.1.size;refine dq hK (ar) ?_;clear hK K;refine av ?_;refine aE rfl (λK hK=>?_) rfl;go_simp;refine(Sl.v7 ((ah.2.2.2.on hV.1).on ar).t ad).mono ?_;rintro r aT ⟨a1,L,rfl,cn,aC,bJ⟩;have s2:=bJ.size;refine dq hK (bJ) ?_;clear hK K;refine tf ?_;have hC:JW W s gn tn (W.heap.size) bg aY a1 L aT:=by
    refine⟨(hV.1.trans ar).trans bJ,(hV.2.1.aj ar).aj bJ,ad,E.aj bJ,cn,λb O=>?_,λb O=>⟨?_,?_,λac=>?_⟩⟩
    .have:=bB b O;have:=hV.2.2;omega
    .have:=aC b O;omega
    .have:=aC b O;have:=hV.2.2;omega
    .have:=aC b O;have:=bB b ac;omega
   generalize W.heap.size=dh at hC ⊢;exact key dh bg aY a1 L _ hC
 intro N bg aY a1 L V ⟨bo,c5,am,aL,g,J,y⟩;obtain⟨d0,aK,aM⟩:=c5.two;clear a0 ai af;exact fQ
end Go.Proofs.YtpkfopfkdgkfkaaGreat

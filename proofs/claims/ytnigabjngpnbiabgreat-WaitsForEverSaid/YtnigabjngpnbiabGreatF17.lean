/- Part 17 of the proof. No condition of its own. -/
import Derived.Test.YtnigabjngpnbiabGreatF10
import Derived.Test.YtnigabjngpnbiabGreatF11
import Derived.Test.YtnigabjngpnbiabGreatF16
namespace Go.Proofs.YtnigabjngpnbiabGreat
open Go.RowKit Go.Proofs.Tryz
set_option maxRecDepth 1000000
set_option maxHeartbeats 25600000
set_option linter.unusedVariables false
variable{cs:List Value}{k m:Nat}{f:ao}{u:aw}
structure HP(w:World)(P:Nat->Prop)(x:aA)(cs:List Value)(eo en:Int)(es:ByteArray)(EA:NH)(em ec:Nat)(QA:NH)(qm qc:Nat)(IA:NH)(i ic:Nat)(KA:NH)(k kc:Nat):Prop where
 cells:cs=[.int .i64 x.op,.int .i64 x.target,.bool x.du,.int .i64 eo,.int .i64 en,.string es,.slice EA em ec,.bool x.place.param,.int .i64 x.place.index,.slice QA qm qc,.slice IA i ic,.slice KA k kc]
 expr:(o9 x.expr).rep w P [.int .i64 eo,.int .i64 en,.string es,.slice EA em ec]
 place:(dg x.place).rep w P [.bool x.place.param,.int .i64 x.place.index,.slice QA qm qc]
 ints:Sl w P IA i (x.ints.map bo)
 Jo:i<=ic
 places:Sl w P KA k (x.places.map dg)
 Js:k<=kc
theorem w8{w:World}{P:Nat->Prop}{x:aA}(h:(er x).rep w P cs):∃eo en es EA em ec QA qm qc IA i ic KA k kc,HP w P x cs eo en es EA em ec QA qm qc IA i ic KA k kc:=by
 unfold er at h;rw[bK,bj] at h;obtain⟨y,rfl,h⟩:=h;rw[bj] at h;obtain⟨y,rfl,h⟩:=h;rw[fE] at h;obtain⟨y,rfl,h⟩:=h;simp only[D.aQ] at h;obtain⟨ce,cf,rfl,he,c,bv,rfl,hp,ci,cL,rfl,aN,b,a,rfl,aj,rfl⟩:=h;obtain⟨eo,en,es,EA,em,ec,rfl⟩:=qq he;obtain⟨QA,qm,qc,rfl,_,_⟩:=dK.1 hp;obtain⟨IA,ic,i,rfl,aM,aN⟩:=D.ud.1 aN;obtain⟨KA,kc,k,rfl,ao,aj⟩:=D.ud.1 aj;exact⟨eo,en,es,EA,em,ec,QA,qm,qc,IA,i,ic,KA,k,kc,rfl,he,hp,aN,aM,aj,ao⟩
theorem EW(p:cR):(gA p).sz=5:=rfl
theorem uQ{w:World}{P:Nat->Prop}{p:cR}(h:(gA p).rep w P cs):∃A n c,cs=[.string p.name,.int .i64 p.ints,.int .i64 p.az,.int .i64 p.locals,.slice A n c]/\n<=c/\Sl w P A n (p.code.map er):=by
 unfold gA at h;rw[bK,cx] at h;obtain⟨y,rfl,h⟩:=h;exact Im
structure h3(w:World)(P:Nat->Prop)(u:aw)(GA:NH)(gn:Nat)(MA:NH)(mn:Nat)(PA:NH)(pn:Nat):Prop where
 g:Sl w P GA gn (u.globals.map .i)
 m:Sl w P MA mn (u.af.map eF)
 p:Sl w P PA pn (u.procs.map gA)
theorem mr{w:World}{P:Nat->Prop}(h:(uR u).rep w P cs):∃GA gn gc MA mn mc PA pn pc,cs=[.slice GA gn gc,.slice MA mn mc,.slice PA pn pc,.int .i64 u.main]/\gn<=gc/\mn<=mc/\pn<=pc/\h3 w P u GA gn MA mn PA pn:=by
 unfold uR at h;rw[bK] at h;obtain⟨A,n,c,y,rfl,hc,hs,h⟩:=aN.1 h;obtain⟨A2,n2,c2,cf,rfl,b8,bO,h⟩:=aN.1 h;obtain⟨cu,n3,c3,bv,rfl,bo,cI,h⟩:=aN.1 h;obtain⟨cL,rfl,aU⟩:=bj.1 h;rw[aR] at aU;subst aU;exact⟨A,n,c,A2,n2,c2,cu,n3,c3,rfl,hc,b8,bo,hs,bO,cI⟩
theorem h3.on{w ab:World}{u:aw}{GA:NH}{gn:Nat}{MA:NH}{mn:Nat}{PA:NH}{pn:Nat}(h:h3 w (av w) u GA gn MA mn PA pn)(he:Ext w ab):h3 ab (av ab) u GA gn MA mn PA pn:=
 ⟨h.g.on (Fr.ext he),h.m.on (Fr.ext he),h.p.on (Fr.ext he)⟩
theorem h3.proc{w:World}{P:Nat->Prop}{GA:NH}{gn:Nat}{MA:NH}{mn:Nat}{PA:NH}{pn:Nat}(h:h3 w P u GA gn MA mn PA pn)(aj:k<pn):
  ∃b o p S n c,PA=some ⟨b,o,none⟩/\P b/\u.procs[k]?=some p/\w.cell? ⟨b,o+k*5,none⟩=some (.string p.name)/\w.cell? ⟨b,o+k*5+1,none⟩=some (.int .i64 p.ints)/\w.cell? ⟨b,o+k*5+2,none⟩=some (.int .i64 p.az)/\
   w.cell? ⟨b,o+k*5+3,none⟩=some (.int .i64 p.locals)/\w.cell? ⟨b,o+k*5+4,none⟩=some (.slice S n c)/\n<=c/\Sl w P S n (p.code.map er):=by
 obtain⟨b,o,p,cs,bF,O,hp,ba,hl,hc⟩:=Sl.g1 (z:=5) h.p EW aj;obtain⟨S,n,c,rfl,ac,az⟩:=uQ ba;exact⟨b,o,p,S,n,c,bF,O,hp,hc 0 _ rfl,hc 1 _ rfl,hc 2 _ rfl,hc 3 _ rfl,hc 4 _ rfl,ac,az⟩
theorem Sl.Fe{w:World}{P:Nat->Prop}{A:NH}{n:Nat}{l:List aA}(h:Sl w P A n (l.map er))(aj:k<n):
  ∃b o x cs eo en es EA em ec QA qm qc IA i ic KA m mc,A=some ⟨b,o,none⟩/\P b/\l[k]?=some x/\HP w P x cs eo en es EA em ec QA qm qc IA i ic KA m mc/\∀j v,cs[j]?=some v->w.cell? ⟨b,o+k*12+j,none⟩=some v:=by
 obtain⟨b,o,x,cs,bF,O,hx,ba,hl,hc⟩:=Sl.g1 (z:=12) h mX aj;obtain⟨eo,en,es,EA,em,ec,QA,qm,qc,IA,i,ic,KA,m,mc,aN⟩:=w8 ba;exact⟨b,o,x,cs,eo,en,es,EA,em,ec,QA,qm,qc,IA,i,ic,KA,m,mc,bF,O,hx,aN,hc⟩
theorem Sl.pH{w:World}{P:Nat->Prop}{A:NH}{n:Nat}{l:List bO}(h:Sl w P A n (l.map dg))(aj:k<n):
  ∃b o x QA m c,A=some ⟨b,o,none⟩/\P b/\l[k]?=some x/\w.cell? ⟨b,o+k*3,none⟩=some (.bool x.param)/\w.cell? ⟨b,o+k*3+1,none⟩=some (.int .i64 x.index)/\w.cell? ⟨b,o+k*3+2,none⟩=some (.slice QA m c)/\m<=c/\Sl w P QA m (x.at_.toList.map bo):=by
 obtain⟨b,o,x,cs,bF,O,hx,ba,hl,hc⟩:=Sl.g1 (z:=3) h (λ_=>rfl) aj;obtain⟨QA,m,c,rfl,ac,az⟩:=dK.1 ba;exact⟨b,o,x,QA,m,c,bF,O,hx,hc 0 _ rfl,hc 1 _ rfl,hc 2 _ rfl,ac,az⟩
def mw(u:aw)(i:ie):Prop:=∃p,0<=i.proc/\u.procs[i.proc.toNat]?=some p/\(i.az.length:Int)=p.az
structure l7(w:World)(P:Nat->Prop)(s:ai)(GA:NH)(gn:Nat)(TA:NH)(tn:Nat)(HA:NH)(hn:Nat):Prop where
 g:Sl w P GA gn (s.globals.map .i)
 t:Sl w P TA tn (s.table.map mq)
 h:Sl w P HA hn (s.threads.map mY)
section
variable {w ab:World} {P cU:Nat->Prop} {s:ai} {GA TA HA:NH} {gn gc tn tc hn hc:Nat}
theorem l7.on(h:l7 w (av w) s GA gn TA tn HA hn)(he:Ext w ab):l7 ab (av ab) s GA gn TA tn HA hn:=⟨h.g.on (Fr.ext he),h.t.on (Fr.ext he),h.h.on (Fr.ext he)⟩
theorem l7.mono(h:l7 w P s GA gn TA tn HA hn)(hp:∀b,P b->cU b):l7 w cU s GA gn TA tn HA hn:=⟨h.g.mono hp,h.t.mono hp,h.h.mono hp⟩
theorem gz:(gP f).rep w P cs↔∃IA i ic bC l lc,cs=[.int .i64 f.proc,.int .i64 f.pc,.slice IA i ic,.slice bC l lc]/\i<=ic/\l<=lc/\Sl w P IA i (f.ints.map D.i)/\Sl w P bC l (f.az.map D.i):=by
 unfold gP;rw[bK];constructor
 .intro h;obtain⟨y,rfl,ac⟩:=bj.1 h;obtain⟨cr,rfl,az⟩:=bj.1 ac;obtain⟨A,n,c,cf,rfl,hc,hs,aV⟩:=aN.1 az;obtain⟨A2,n2,c2,bv,rfl,b8,bO,aU⟩:=aN.1 aV;rw[aR] at aU;subst aU;exact⟨A,n,c,A2,n2,c2,rfl,hc,b8,hs,bO⟩
 .rintro⟨A,n,c,A2,n2,c2,rfl,hc,b8,hs,bO⟩;exact bj.2 ⟨_,rfl,bj.2 ⟨_,rfl,aN.2 ⟨A,n,c,_,rfl,hc,hs,aN.2 ⟨A2,n2,c2,_,rfl,b8,bO,aR.2 rfl⟩⟩⟩⟩
theorem GY(f:ao):(gP f).sz=4:=rfl
theorem GZ(t:List ao):(mY t).sz=1:=rfl
theorem fF{t:List ao}:(mY t).rep w P cs↔∃A n c,cs=[.slice A n c]/\n<=c/\Sl w P A n (t.map gP):=by
 unfold mY;rw[bK];constructor
 .intro h;obtain⟨A,n,c,y,rfl,hc,hs,ac⟩:=aN.1 h;rw[aR] at ac;subst ac;exact⟨A,n,c,rfl,hc,hs⟩
 .rintro⟨A,n,c,rfl,hc,hs⟩;exact aN.2 ⟨A,n,c,_,rfl,hc,hs,aR.2 rfl⟩
theorem Sl.v3{A:NH}{n:Nat}{l:List (List ao)}(h:Sl w P A n (l.map mY))(aj:k<n):
  ∃b o t FA m c,A=some ⟨b,o,none⟩/\P b/\l[k]?=some t/\w.cell? ⟨b,o+k,none⟩=some (.slice FA m c)/\m<=c/\Sl w P FA m (t.map gP):=by
 obtain⟨b,o,t,cs,bF,O,hx,ba,_,hc⟩:=Sl.g1 (z:=1) h GZ aj;obtain⟨FA,m,c,rfl,ac,az⟩:=fF.1 ba;have aV:=hc 0 _ rfl;simp only[Nat.mul_one,Nd] at aV;exact⟨b,o,t,FA,m,c,bF,O,hx,aV,ac,az⟩
theorem Sl.IE{A:NH}{n:Nat}{l:List ao}(h:Sl w P A n (l.map gP))(aj:k<n):
  ∃b o f IA i ic bC m lc,A=some ⟨b,o,none⟩/\P b/\l[k]?=some f/\w.cell? ⟨b,o+k*4,none⟩=some (.int .i64 f.proc)/\w.cell? ⟨b,o+k*4+1,none⟩=some (.int .i64 f.pc)/\w.cell? ⟨b,o+k*4+2,none⟩=some (.slice IA i ic)/\
   w.cell? ⟨b,o+k*4+3,none⟩=some (.slice bC m lc)/\i<=ic/\m<=lc/\Sl w P IA i (f.ints.map D.i)/\Sl w P bC m (f.az.map D.i):=by
 obtain⟨b,o,f,cs,bF,O,hx,ba,_,hc⟩:=Sl.g1 (z:=4) h GY aj;obtain⟨IA,i,ic,bC,m,lc,rfl,ac,az,aV,aU⟩:=gz.1 ba;have cB:=hc 0 _ rfl;simp only[Nd] at cB;exact⟨b,o,f,IA,i,ic,bC,m,lc,bF,O,hx,cB,hc 1 _ rfl,hc 2 _ rfl,hc 3 _ rfl,ac,az,aV,aU⟩
end
abbrev bA(A:NH)(n c:Nat):List Nat:=(Value.slice A n c).ownBlock.toList
structure Own(w:World)(e:TypeId)(z:Nat)(A:NH)(n c:Nat)(xs:List Value)(F:List Nat):Prop where
 row:w.ownsRow 0 e z (.slice A n c) n xs
 eq:F=bA A n c
section
variable {w ab:World} {e:TypeId} {z n c:Nat} {A:NH} {xs:List Value} {F:List Nat}
theorem Own.ak(h:Own w e z A n c xs F)(aj:∀b∈F,ab.heap[b]?=w.heap[b]?):Own ab e z A n c xs F:=by
 refine⟨⟨h.row.1,?_⟩,h.eq⟩;rcases h.row.2 with az|⟨g,cap,cur,bK,O,aR,rest⟩
 .exact .inl az
 .exact .inr ⟨g,cap,cur,bK,O,(aj g (by rw[h.eq];unfold bA;rw[bK];simp[Value.ownBlock])).trans aR,rest⟩
theorem Own.cap(h:Own w e z A n c xs F):n<=c:=by
 obtain⟨I,aD,bK,ac,_⟩:=bG h.row;injection bK with _ _ bK;omega
theorem Own.lt(h:Own w e z A n c xs F):∀b∈F,b<w.heap.size:=λb O=>by
 rw[h.eq] at O;exact(h.row.lt b (by simpa using O)).2
theorem Own.block(h:Own w e z A n c xs F)(hn:0<n):∃g,A=some ⟨g,0,none⟩/\F=[g]/\g<w.heap.size/\(∀j u,xs[j]?=some u->w.cell? ⟨g,j,none⟩=some u)/\(∀j,w.frozen? ⟨g,j,none⟩=false)/\
  ∀j u,j<n*z->Own (w.setCell ⟨g,j,none⟩ u) e z A n c (xs.set j u) F:=by
 obtain⟨g,bF,_,ap,hc,J,hs⟩:=iF h.row hn;subst bF;exact⟨g,rfl,h.eq,ap,hc,J,λj u bi=>⟨hs j u bi,h.eq⟩⟩
theorem Own.sl{l:List D}{P:Nat->Prop}(h:Own w e z A n c xs F)(ba:D.aQ w P l xs)(hl:l.length=n)(hF:∀b∈F,P b):Sl w P A n l:=
 Sl.qQ h.row ba hl λg aR _ _=>hF g (by rw[h.eq,aR];simp[Value.ownBlock])
theorem Own.shorter(h:Own w e z A n c xs F)(hm:m<=n)(hn:0<n):Own w e z A m c (xs.take (m*z)) F:=by
 refine⟨⟨by rw[List.length_take,h.row.1];exact Nat.min_eq_left (Nat.mul_le_mul_right _ hm),?_⟩,by rw[h.eq];cases A<;>rfl⟩;rcases h.row.2 with⟨_,az⟩|⟨g,cap,cur,bK,O,aR,ac,az,aV,aU⟩
 .omega
 .injection bK with bF _ hc;subst bF hc;exact .inr ⟨g,c,cur,rfl,O,aR,ad,az,aV,by rw[<-aU,List.take_take,Nat.min_eq_left (Nat.mul_le_mul_right _ hm)]⟩
end
def kz{α:Type}(E:World->α->List Value->List Nat->Prop)(w:World):List α->List Value->List Nat->Prop
 | [],xs,F=>xs=[]/\F=[]
 | a::l,xs,F=>∃x y F1 F2,xs=x++y/\F=F1++F2/\E w a x F1/\kz E w l y F2
section
variable {α:Type} {E:World->α->List Value->List Nat->Prop} {z:Nat}
def yd(E:World->α->List Value->List Nat->Prop):Prop:=∀(w ab:World) (a:α) (x:List Value) (F:List Nat),E w a x F->(∀b∈F,ab.heap[b]?=w.heap[b]?)->E ab a x F
def Ar(z:Nat)(E:World->α->List Value->List Nat->Prop):Prop:=∀(w:World) (a:α) (x:List Value) (F:List Nat),E w a x F->x.length=z
theorem kz.ak(aF:yd E){w ab:World}:∀{l:List α} {xs:List Value} {F:List Nat},kz E w l xs F->(∀b∈F,ab.heap[b]?=w.heap[b]?)->kz E ab l xs F
 | [],_,_,h,_=>h
 | a::l,xs,F,h,aj=>by
  obtain⟨x,y,F1,F2,rfl,rfl,ac,az⟩:=h;exact⟨x,y,F1,F2,rfl,rfl,aF _ _ _ _ _ ac λb O=>aj b (by simp[O]),kz.ak aF az λb O=>aj b (by simp[O])⟩
theorem kz.snoc{w:World}{a:α}{x:List Value}{f:List Nat}:∀{l:List α} {xs:List Value} {F:List Nat},kz E w l xs F->E w a x f->kz E w (l++[a]) (xs++x) (F++f)
 | [],_,_,⟨ac,az⟩,he=>by
  subst ac az
  exact⟨x,[],f,[],by simp,by simp,he,rfl,rfl⟩
 | b::l,xs,F,h,he=>by
  obtain⟨Z,y,F1,F2,rfl,rfl,ac,az⟩:=h;exact⟨Z,y++x,F1,F2++f,by simp,by simp,ac,kz.snoc az he⟩
theorem kz.len(aI:Ar z E){w:World}:∀{l:List α} {xs:List Value} {F:List Nat},kz E w l xs F->xs.length=l.length*z
 | [],_,_,⟨ac,_⟩=>by simp[ac]
 | a::l,xs,F,h=>by
  obtain⟨x,y,F1,F2,rfl,rfl,ac,az⟩:=h;rw[M3,aI _ _ _ _ ac,kz.len aI az,Nh,Nat.succ_mul];omega
theorem kz.take{w:World}(aI:Ar z E):∀{l:List α} {xs:List Value} {F:List Nat},kz E w l xs F->∀k,∃F1,kz E w (l.take k) (xs.take (k*z)) F1/\F1 <+: F
 | [],xs,F,⟨ac,az⟩,k=>⟨[],by subst ac;simp[kz],by simp⟩
 | a::l,xs,F,h,0=>⟨[],by simp[kz],by simp⟩
 | a::l,xs,F,h,k+1=>by
  obtain⟨x,y,F1,F2,rfl,rfl,ac,az⟩:=h;obtain⟨bJ,aV,aU⟩:=kz.take aI az k;refine⟨F1++bJ,⟨x,y.take (k*z),F1,bJ,?_,rfl,ac,aV⟩,by simpa using aU⟩;have:=aI _ _ _ _ ac;rw[List.take_append,Nb (by rw[this,Nat.succ_mul];omega),this,show (k+1)*z - z=k*z by rw[Nat.succ_mul];omega]
theorem kz.at_(aF:yd E)(aI:Ar z E){w:World}:∀{l:List α} {xs:List Value} {F:List Nat},kz E w l xs F->∀{k:Nat} {a:α},l[k]?=some a->
  ∃x F1 f F2,F=F1++(f++F2)/\E w a x f/\(∀j u,x[j]?=some u->xs[k*z+j]?=some u)/\
   (∀ab r d,(∀b∈F1++F2,ab.heap[b]?=w.heap[b]?)->E ab r x d->kz E ab (l.set k r) xs (F1++(d++F2)))/\
   (∀ab r j u d,(∀b∈F1++F2,ab.heap[b]?=w.heap[b]?)->j<z->E ab r (x.set j u) d->kz E ab (l.set k r) (xs.set (k*z+j) u) (F1++(d++F2)))
 | [],_,_,_,k,a,aj=>by simp at aj
 | b::l,xs,F,h,0,a,aj=>by
  obtain⟨x,y,F1,F2,rfl,rfl,ac,az⟩:=h;simp only[List.getElem?_cons_zero,Nw] at aj;subst aj;have hx:=aI _ _ _ _ ac;refine⟨x,[],F1,F2,by simp,ac,λj u bi=>?_,λab r d aj he=>⟨x,y,d,F2,rfl,by simp,he,kz.ak aF az λb O=>aj b (by simp[O])⟩,λab r j u d aj bi he=>⟨x.set j u,y,d,F2,?_,by simp,he,kz.ak aF az λb O=>aj b (by simp[O])⟩⟩
  .rw[Nat.zero_mul,Nm,List.getElem?_append_left (List.getElem?_eq_some_iff.1 bi).1];exact bi
  .rw[Nat.zero_mul,Nm,List.set_append_left _ _ ad]
 | b::l,xs,F,h,k+1,a,aj=>by
  obtain⟨b0,y,g,Y,rfl,rfl,ac,az⟩:=h;simp only[List.getElem?_cons_succ] at aj;have hx:=aI _ _ _ _ ac;obtain⟨x,F1,f,F2,rfl,aV,aU,cB,bG⟩:=kz.at_ aF aI az aj;have a3:∀j,(k+1)*z+j=b0.length+(k*z+j):=λj=>by rw[hx,Nat.succ_mul];omega
  refine⟨x,g++F1,f,F2,by simp,aV,λj u bi=>?_,λab r d aj he=>⟨b0,y,g,F1++(d++F2),rfl,by simp,aF _ _ _ _ _ ac λb O=>aj b (by simp[O]),cB ab r d (λb O=>aj b (by simp at O ⊢;rcases O with O|O<;>simp[O])) he⟩,
   λab r j u d aj bi he=>⟨b0,y.set (k*z+j) u,g,F1++(d++F2),?_,by simp,aF _ _ _ _ _ ac λb O=>aj b (by simp[O]),bG ab r j u d (λb O=>aj b (by simp at O ⊢;rcases O with O|O<;>simp[O])) bi he⟩⟩
  .rw[a3,List.getElem?_append_right ad,Nat.add_sub_cancel_left];exact aU j u bi
  .rw[a3,List.set_append_right _ _ ad,Nat.add_sub_cancel_left]
theorem kz.aQ{w:World}{P:Nat->Prop}{enc:α->D}(ba:∀a x F,E w a x F->(∀b∈F,P b)->(enc a).rep w P x):∀{l:List α} {xs:List Value} {F:List Nat},kz E w l xs F->(∀b∈F,P b)->D.aQ w P (l.map enc) xs
 | [],_,_,⟨ac,_⟩,_=>by simp only[Nr,D.aQ];exact ac
 | a::l,xs,F,h,aj=>by
  obtain⟨x,y,F1,F2,rfl,rfl,ac,az⟩:=h;simp only[M7,D.aQ];exact⟨x,y,rfl,ba _ _ _ ac λb O=>aj b (by simp[O]),kz.aQ ba az λb O=>aj b (by simp[O])⟩
end
abbrev dv:Int->Value:=Value.int .i64
def pS(w:World)(f:ao)(cs:List Value)(F:List Nat):Prop:=∃IA i ic bC l lc F1 F2,cs=[.int .i64 f.proc,.int .i64 f.pc,.slice IA i ic,.slice bC l lc]/\F=F1++F2/\
 i=f.ints.length/\l=f.az.length/\Own w 3 1 IA i ic (f.ints.map dv) F1/\Own w 3 1 bC l lc (f.az.map dv) F2
def oZ(w:World)(fs:List ao)(cs:List Value)(F:List Nat):Prop:=∃FA n c xs F1 F2,cs=[.slice FA n c]/\F=F1++F2/\n=fs.length/\Own w 77 4 FA n c xs F1/\kz pS w fs xs F2
structure rF(w:World)(s:ai)(GA:NH)(gn gc:Nat)(TA:NH)(tn tc:Nat)(HA:NH)(hn hc:Nat)(xs:List Value)(F1 F2 bJ cb:List Nat):Prop where
 gl:gn=s.globals.length
 tl:tn=s.table.length
 hl:hn=s.threads.length
 g:Own w 3 1 GA gn gc (s.globals.map dv) F1
 t:Own w 138 2 TA tn tc (s.table.flatMap ch) F2
 h:Own w 95 1 HA hn hc xs bJ
 hs:kz oZ w s.threads xs cb
 nd:(F1++(F2++(bJ++cb))).Nodup
theorem pS.ak:yd pS:=λw ab a x F h aj=>by
 obtain⟨IA,i,ic,bC,l,lc,F1,F2,rfl,rfl,aN,hl,ac,az⟩:=h;exact⟨IA,i,ic,bC,l,lc,F1,F2,rfl,rfl,aN,hl,ac.ak λb O=>aj b (by simp[O]),az.ak λb O=>aj b (by simp[O])⟩
theorem pS.len:Ar 4 pS:=λw a x F h=>by
 obtain⟨IA,i,ic,bC,l,lc,F1,F2,rfl,_⟩:=h;rfl
theorem oZ.ak:yd oZ:=λw ab a x F h aj=>by
 obtain⟨FA,n,c,xs,F1,F2,rfl,rfl,hn,ac,az⟩:=h;exact⟨FA,n,c,xs,F1,F2,rfl,rfl,hn,ac.ak λb O=>aj b (by simp[O]),az.ak pS.ak λb O=>aj b (by simp[O])⟩
theorem oZ.len:Ar 1 oZ:=λw a x F h=>by
 obtain⟨FA,n,c,xs,F1,F2,rfl,_⟩:=h;rfl
theorem cO{w:World}{P:Nat->Prop}:∀(l:List Int),D.aQ w P (l.map D.i) (l.map dv)
 | []=>by simp only[Nr,D.aQ]
 | a::l=>by simp only[M7];exact bj.2 ⟨_,rfl,cO l⟩
theorem dW{w:World}{P:Nat->Prop}:∀(l:List di),D.aQ w P (l.map mq) (l.flatMap ch)
 | []=>by simp only[Nr,D.aQ,List.flatMap_nil]
 | a::l=>by
  simp only[M7,No,D.aQ];exact⟨_,_,rfl,by unfold mq;exact bj.2 ⟨_,rfl,bj.2 ⟨_,rfl,aR.2 rfl⟩⟩,dW l⟩
theorem pS.rep{w:World}{P:Nat->Prop}(f:ao)(x:List Value)(F:List Nat)(h:pS w f x F)(bh:∀b∈F,P b):(gP f).rep w P x:=by
 obtain⟨IA,i,ic,bC,l,lc,F1,F2,rfl,rfl,aN,hl,ac,az⟩:=h;exact gz.2 ⟨IA,i,ic,bC,l,lc,rfl,ac.cap,az.cap,ac.sl (cO _) (by simp[aN]) λb O=>bh b (by simp[O]),az.sl (cO _) (by simp[hl]) λb O=>bh b (by simp[O])⟩
theorem oZ.rep{w:World}{P:Nat->Prop}(t:List ao)(x:List Value)(F:List Nat)(h:oZ w t x F)(bh:∀b∈F,P b):(mY t).rep w P x:=by
 obtain⟨FA,n,c,xs,F1,F2,rfl,rfl,hn,ac,az⟩:=h;exact fF.2 ⟨FA,n,c,rfl,ac.cap,ac.sl (az.aQ pS.rep λb O=>bh b (by simp[O])) (by simp[hn]) λb O=>bh b (by simp[O])⟩
section
variable {w ab:World} {P cU:Nat->Prop} {s:ai} {GA TA HA:NH} {gn gc tn tc hn hc:Nat} {xs:List Value} {F1 F2 bJ cb:List Nat}
theorem rF.at_(h:rF w s GA gn gc TA tn tc HA hn hc xs F1 F2 bJ cb)(bh:∀b∈F1++(F2++(bJ++cb)),P b):l7 w P s GA gn TA tn HA hn:=
 ⟨h.g.sl (cO _) (by simp[h.gl]) λb O=>bh b (by simp[O]),h.t.sl (dW _) (by simp[h.tl]) λb O=>bh b (by simp[O]),h.h.sl (h.hs.aQ oZ.rep λb O=>bh b (by simp[O])) (by simp[h.hl]) λb O=>bh b (by simp[O])⟩
theorem rF.ak(h:rF w s GA gn gc TA tn tc HA hn hc xs F1 F2 bJ cb)(aj:∀b∈F1++(F2++(bJ++cb)),ab.heap[b]?=w.heap[b]?):rF ab s GA gn gc TA tn tc HA hn hc xs F1 F2 bJ cb:=
 ⟨h.gl,h.tl,h.hl,h.g.ak λb O=>aj b (by simp[O]),h.t.ak λb O=>aj b (by simp[O]),h.h.ak λb O=>aj b (by simp[O]),h.hs.ak oZ.ak λb O=>aj b (by simp[O]),h.nd⟩
end
theorem eM{A B:List Nat}{x:Nat}(h:(A++x::B).Nodup):∀b∈A++B,b≠x:=by
 intro b O he;subst he;have:=(List.perm_middle (a:=b) (l₁:=A) (l₂:=B)).nodup_iff.1 h;exact(List.nodup_cons.1 this).1 O
theorem lG{α:Type}{g:α->α}{x:α}:∀{l:List α} {k:Nat},l[k]?=some x->l.modify k g=l.set k (g x)
 | [],k,h=>by simp at h
 | a::l,0,h=>by simp at h;subst h;rfl
 | a::l,k+1,h=>by
  simp only[List.getElem?_cons_succ] at h;rw[List.modify_succ_cons,List.set_cons_succ,lG h]
theorem kT{α:Type}(l:List α)(x:α):(l++[x]).dropLast=l:=by simp
theorem aS{w:World}{p:Addr}{u:Value}{b:Nat}(h:b≠p.block):(w.setCell p u).heap[b]?=w.heap[b]?:=Below.heap_setCell w p u b h
section
variable {w ab:World} {P cU:Nat->Prop} {s:ai} {GA TA HA:NH} {gn gc tn tc hn hc:Nat} {xs:List Value} {F1 F2 bJ cb:List Nat}
theorem rF.top(h:rF w s GA gn gc TA tn tc HA hn hc xs F1 F2 bJ cb){fs:List ao}(bv:s.threads[k]?=some (fs++[f])):
  ∃O ch fc IA i ic bC l lc,HA=some ⟨O,0,none⟩/\k<hn/\O<w.heap.size/\ch<w.heap.size/\O∈bJ/\ch∈cb/\i=f.ints.length/\l=f.az.length/\
   w.cell? ⟨O,k,none⟩=some (.slice (some ⟨ch,0,none⟩) (fs.length+1) fc)/\fs.length+1<=fc/\
   w.cell? ⟨ch,fs.length*4,none⟩=some (.int .i64 f.proc)/\w.cell? ⟨ch,fs.length*4+1,none⟩=some (.int .i64 f.pc)/\w.cell? ⟨ch,fs.length*4+2,none⟩=some (.slice IA i ic)/\w.cell? ⟨ch,fs.length*4+3,none⟩=some (.slice bC l lc)/\
   (∀j,w.frozen? ⟨O,j,none⟩=false)/\(∀j,w.frozen? ⟨ch,j,none⟩=false)/\
   (∀v,rF (w.setCell ⟨ch,fs.length*4+1,none⟩ (.int .i64 v)) {s with threads:=s.threads.set k (fs++[{f with pc:=v}])} GA gn gc TA tn tc HA hn hc xs F1 F2 bJ cb)/\
   (∀j v,j<i->∃T,IA=some ⟨T,0,none⟩/\T<w.heap.size/\T∈cb/\w.frozen? ⟨T,j,none⟩=false/\(∃u,w.cell? ⟨T,j,none⟩=some u)/\rF (w.setCell ⟨T,j,none⟩ (.int .i64 v)) {s with threads:=s.threads.set k (fs++[{f with ints:=f.ints.set j v}])} GA gn gc TA tn tc HA hn hc xs F1 F2 bJ cb)/\
   (∃e d,rF (w.setCell ⟨O,k,none⟩ (.slice (some ⟨ch,0,none⟩) fs.length fc)) {s with threads:=s.threads.set k fs} GA gn gc TA tn tc HA hn hc e F1 F2 bJ d/\∀b∈d,b∈cb):=by
 obtain⟨x,S,K,g,z,bq,hx,c1,c2⟩:=h.hs.at_ oZ.ak oZ.len bv;obtain⟨FA,n,c,b2,bX,aB,rfl,rfl,bk,bD,J⟩:=bq;have bP:k<s.threads.length:=(List.getElem?_eq_some_iff.1 bv).1;have ce:k<hn:=by rw[h.hl];exact bP
 have cD:n=fs.length+1:=by simpa using bk
 obtain⟨ch,rfl,rfl,cr,G,bB,bR⟩:=bD.block ad;obtain⟨O,m3,a2,bw,o,t,C⟩:=h.h.block ad;obtain⟨y,ba,D,a6,rfl,B,bb,d1,d2⟩:=J.at_ (k:=fs.length) (a:=f) pS.ak pS.len (by simp);obtain⟨IA,i,ic,bC,l,lc,q,M2,rfl,rfl,aN,hl,r,bp⟩:=B;subst z a2 m3;have nd:=h.nd;have nf:∀b∈(F1++(F2++([O]++S)))++(ba++((q++M2)++(a6++g))),b≠ch:=eM (by simpa[Ni] using nd);have A:∀b∈(F1++F2)++(S++(ch::(ba++(q++(M2++(a6++g)))))),b≠O:=eM (by simpa[Ni] using nd);refine⟨O,ch,c,IA,i,ic,bC,l,lc,rfl,ce,bw,cr,by simp,by simp,aN,hl,?_,?_,?_,?_,?_,?_,t,bB,λv=>?_,λj v bi=>?_,?_⟩
 .rw[<-cD];have:=hx 0 _ rfl;rw[Nat.mul_one,Nd] at this;exact o _ _ this
 .rw[<-cD];exact bD.cap
 .exact G _ _ (by have:=bb 0 _ rfl;rwa [Nd] at this)
 .exact G _ _ (bb 1 _ rfl)
 .exact G _ _ (bb 2 _ rfl)
 .exact G _ _ (bb 3 _ rfl)
 .have aj:∀b,b≠ch->(w.setCell ⟨ch,fs.length*4+1,none⟩ v).heap[b]?=w.heap[b]?:=λb O=>aS O;have e1:pS (w.setCell ⟨ch,fs.length*4+1,none⟩ v) {f with pc:=v} ([.int .i64 f.proc,.int .i64 f.pc,.slice IA i ic,.slice bC l lc].set 1 v) (q++M2):=
   ⟨IA,i,ic,bC,l,lc,q,M2,rfl,rfl,aN,hl,r.ak λb O=>aj b (nf b (by simp[O])),bp.ak λb O=>aj b (nf b (by simp[O]))⟩
  have e2:=d2 _ _ 1 v _ (λb O=>aj b (nf b (by simp at O ⊢;rcases O with O|O<;>simp[O]))) ad e1;rw[List.set_append_right _ _ (MU _),Nat.sub_self,List.set_cons_zero] at e2;have e3:oZ (w.setCell ⟨ch,fs.length*4+1,none⟩ v) (fs++[{f with pc:=v}]) _ _:=⟨some ⟨ch,0,none⟩,n,c,_,[ch],_,rfl,rfl,by simpa using cD,bR _ v (by rw[cD];omega),e2⟩
  have b3:=c1 _ _ _ (λb O=>aj b (nf b (by simp at O ⊢;rcases O with O|O<;>simp[O]))) e3;exact⟨h.gl,h.tl,by simpa using h.hl,h.g.ak λb O=>aj b (nf b (by simp[O])),h.t.ak λb O=>aj b (nf b (by simp[O])),h.h.ak λb O=>aj b (nf b (by simp at O;simp[O])),b3,nd⟩
 .obtain⟨T,rfl,rfl,cy,aM,R,au⟩:=r.block ad;have dD:∀b∈(F1++(F2++([O]++(S++(ch::ba)))))++(M2++(a6++g)),b≠T:=eM (by simpa[Ni] using nd);have aj:∀b,b≠T->(w.setCell ⟨T,j,none⟩ v).heap[b]?=w.heap[b]?:=λb O=>aS O;have e0:=au j v ad;rw[show (f.ints.map dv).set j v=(f.ints.set j v).map dv from (List.map_set (f:=dv)).symm] at e0;have e1:pS (w.setCell ⟨T,j,none⟩ v) {f with ints:=f.ints.set j v} [.int .i64 f.proc,.int .i64 f.pc,.slice (some ⟨T,0,none⟩) i ic,.slice bC l lc] ([T]++M2):=
   ⟨some ⟨T,0,none⟩,i,ic,bC,l,lc,[T],M2,rfl,rfl,by simpa using aN,hl,e0,bp.ak λb O=>aj b (dD b (by simp[O]))⟩
  have e2:=d1 _ _ _ (λb O=>aj b (dD b (by simp at O ⊢;rcases O with O|O<;>simp[O]))) e1;rw[List.set_append_right _ _ (MU _),Nat.sub_self,List.set_cons_zero] at e2;have e3:oZ (w.setCell ⟨T,j,none⟩ v) (fs++[{f with ints:=f.ints.set j v}]) _ _:=⟨some ⟨ch,0,none⟩,n,c,_,[ch],_,rfl,rfl,by simpa using cD,bD.ak λb O=>aj b (dD b (by simp at O;simp[O])),e2⟩
  have b3:=c1 _ _ _ (λb O=>aj b (dD b (by simp at O ⊢;rcases O with O|O<;>simp[O]))) e3;refine⟨T,rfl,cy,by simp,R _,⟨.int .i64 (f.ints[j]'ad),aM _ _ (by rw[List.getElem?_map,List.getElem?_eq_getElem ad];rfl)⟩,h.gl,h.tl,by simpa using h.hl,h.g.ak λb O=>aj b (dD b (by simp[O])),h.t.ak λb O=>aj b (dD b (by simp[O])),h.h.ak λb O=>aj b (dD b (by simp at O;simp[O])),b3,nd⟩
 .have aj:∀b,b≠O->(w.setCell ⟨O,k,none⟩ (.slice (some ⟨ch,0,none⟩) fs.length c)).heap[b]?=w.heap[b]?:=λb h=>aS h;obtain⟨Y,hp,E⟩:=J.take pS.len fs.length;rw[List.take_left] at hp;have M:∀b∈Y,b∈ba++(q++(M2++a6)):=λb O=>by have:=E.subset O;simpa[Ni] using this
  have e3:oZ (w.setCell ⟨O,k,none⟩ (.slice (some ⟨ch,0,none⟩) fs.length c)) fs ([.slice (some ⟨ch,0,none⟩) n c].set 0 (.slice (some ⟨ch,0,none⟩) fs.length c)) ([ch]++Y):=
   ⟨some ⟨ch,0,none⟩,fs.length,c,_,[ch],Y,rfl,rfl,rfl,(bD.shorter (m:=fs.length) ad ad).ak λb O=>aj b (A b (by simp at O;simp[O])),hp.ak pS.ak λb O=>aj b (A b (by have:=M b O;simp at this ⊢;rcases this with h|h|h|h<;>simp[h]))⟩
  have b3:=c2 _ _ 0 (.slice (some ⟨ch,0,none⟩) fs.length c) _ (λb O=>aj b (A b (by simp at O ⊢;rcases O with O|O<;>simp[O]))) ad e3;rw[Nat.mul_one,Nd] at b3;refine⟨_,_,⟨h.gl,h.tl,by simpa using h.hl,h.g.ak λb O=>aj b (A b (by simp[O])),h.t.ak λb O=>aj b (A b (by simp[O])),C k _ ad,b3,?_⟩,λb O=>?_⟩
  .refine List.Sublist.nodup (l₂:=F1++(F2++([O]++(S++(([ch]++(ba++((q++M2)++a6)))++g))))) ?_ nd;exact(List.Sublist.refl _).append ((List.Sublist.refl _).append ((List.Sublist.refl _).append ((List.Sublist.refl _).append (((List.Sublist.refl _).append E.sublist).append (List.Sublist.refl _)))))
  .simp only[Nc] at O ⊢;rcases O with O|(O|O)|O
   .exact .inl O
   .exact .inr (.inl (.inl O))
   .exact .inr (.inl (.inr (by have:=E.subset O;simpa only[Nc] using this)))
   .exact .inr (.inr O)
theorem rF.du(h:rF w s GA gn gc TA tn tc HA hn hc xs F1 F2 bJ cb){j:Nat}(bi:j<gn):∃ck,GA=some ⟨ck,0,none⟩/\ck<w.heap.size/\w.frozen? ⟨ck,j,none⟩=false/\(∃u,w.cell? ⟨ck,j,none⟩=some u)/\ck∈F1/\
  ∀v,rF (w.setCell ⟨ck,j,none⟩ (.int .i64 v)) {s with globals:=s.globals.set j v} GA gn gc TA tn tc HA hn hc xs F1 F2 bJ cb:=by
 obtain⟨ck,y,m,cv,am,a,bB⟩:=h.g.block ad;subst y m;have nd:=h.nd;have ng:∀b∈[]++(F2++(bJ++cb)),b≠ck:=eM (by simpa using nd);have wi:=h.gl;refine⟨ck,rfl,cv,a _,⟨.int .i64 (s.globals[j]'ad),am _ _ (by rw[List.getElem?_map,List.getElem?_eq_getElem ad];rfl)⟩,by simp,λv=>?_⟩;have aj:∀b,b≠ck->(w.setCell ⟨ck,j,none⟩ (.int .i64 v)).heap[b]?=w.heap[b]?:=λb O=>aS O;have e0:=bB j (.int .i64 v) ad;rw[show (s.globals.map dv).set j (.int .i64 v)=(s.globals.set j v).map dv from (List.map_set (f:=dv)).symm] at e0;exact⟨by simpa using h.gl,h.tl,h.hl,e0,h.t.ak λb O=>aj b (ng b (by simp[O])),h.h.ak λb O=>aj b (ng b (by simp[O])),h.hs.ak oZ.ak λb O=>aj b (ng b (by simp[O])),nd⟩
theorem rF.J7(h:rF w s GA gn gc TA tn tc HA hn hc xs F1 F2 bJ cb){T:List di}{aZ:NH}{S:Nat}(hT:w.ownsRow 0 138 2 (.slice aZ m S) m (T.flatMap ch))(hl:m=T.length)(hd:∀b∈bA aZ m S,b∉F1++(F2++(bJ++cb))):
  rF w {s with table:=T} GA gn gc aZ m S HA hn hc xs F1 (bA aZ m S) bJ cb:=by
 refine⟨h.gl,hl,h.hl,h.g,⟨hT,rfl⟩,h.h,h.hs,?_⟩;have nd:=h.nd;have n1:=List.nodup_append.1 nd;have n2:=List.nodup_append.1 n1.2.1;refine List.nodup_append.2 ⟨n1.1,List.nodup_append.2 ⟨?_,n2.2.1,λa bg b O H=>?_⟩,λa bg b O H=>?_⟩
 .unfold bA;cases (Value.slice aZ m S).ownBlock<;>simp
 .subst H;exact hd a bg (by simp at O ⊢;rcases O with O|O<;>simp[O])
 .subst H;rcases Nc.1 O with O|O
  .exact hd a O (by simp[bg])
  .exact n1.2.2 a bg a (by simp at O ⊢;rcases O with O|O<;>simp[O]) rfl
end
theorem uW(l:List Int):l.flatMap bQ=l.map dv:=uX l
theorem nN(A:NH)(n c:Nat)(l:List Int)(w:World)(h:cp (EF bQ) 1 w w.heap.size A n l)(hn:n<=100000) :
  Calls prog 58 #[.slice A n c] w λr ab=>∃I aD,r=.returned (.slice I n aD)/\ab.ownsRow w 3 1 (.slice I n aD) n (l.map dv)/\Below w w ab:=by
 have heq:=λW=>sN (P:=prog) W 22 3 A n c 0 0 Tryz.underlying22;rcases A with _|a
 .have bf:n=0:=by
   rcases Nat.eq_zero_or_pos n with h0|h0
   .exact h0
   .obtain⟨b,o,h,_⟩:=h.2 h0;cases h
  subst bf;have hT:l=[]:=List.eq_nil_of_length_eq_zero h.1;subst hT;go_enter func58,ntmps58;exact A3
 .have aw:=Src.l0 h (gE l) (m7 l) ad;rw[uW] at aw;go_enter func58,ntmps58;go_wp2_with(at_builtin;refine gu _ cF (by rfl) (.tmp 5) (.tmp 6) (by rfl) (by rfl) _ _ _ _ (by rfl) aw ad ad (λh=>nomatch h) ?_;intro cR c1 aO aA b2);go_ret;exact⟨cR,c1,rfl,aA,b2⟩
theorem Sl.nN{A:NH}{n c:Nat}{l:List Int}{w:World}(h:Sl w (av w) A n (l.map D.i))(hn:n<=100000) :
  Calls prog 58 #[.slice A n c] w λr ab=>∃I aD,r=.returned (.slice I n aD)/\Own ab 3 1 I n aD (l.map dv) (bA I n aD)/\(∀b∈bA I n aD,w.heap.size<=b/\b<ab.heap.size)/\Ext w ab:=
 (Go.Proofs.YtnigabjngpnbiabGreat.nN A n c l w h.ints hn).mono λr ab ⟨I,aD,ba,bD,O⟩=>⟨I,aD,ba,⟨ja bD (Nq _),rfl⟩,λb O=>bD.lt b (by simpa using O),Fr.of O⟩
theorem Sl.w1{A:NH}{n c:Nat}{l:List di}{w:World}(h:Sl w (av w) A n (l.map mq))(hn:n<=5000):
  Calls prog 59 #[.slice A n c] w λr ab=>∃I aD,r=.returned (.slice I n aD)/\Own ab 138 2 I n aD (l.flatMap ch) (bA I n aD)/\(∀b∈bA I n aD,w.heap.size<=b/\b<ab.heap.size)/\Ext w ab:=
 (nO A n c l w h.holds hn).mono λr ab ⟨I,aD,ba,bD,O⟩=>⟨I,aD,ba,⟨ja bD (Nq _),rfl⟩,λb O=>bD.lt b (by simpa using O),Fr.of O⟩
end Go.Proofs.YtnigabjngpnbiabGreat

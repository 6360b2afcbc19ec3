/- Part 16 of the proof. No condition of its own. -/
import Derived.Test.YtflecliffjbleaaGreatQ12
import Derived.Test.YtflecliffjbleaaGreatQ15
namespace Go.Proofs.YtflecliffjbleaaGreat
open Go.RowKit Go.Proofs.Tryz
set_option maxRecDepth 1000000
set_option maxHeartbeats 25600000
set_option linter.unusedVariables false
variable{cs:List Value}{p:Prop}{f:al}{u:av}
def bX(s:List UInt8)(T:List Tok)(k:Nat):Bool:=match T[k]? with
 | some t=>(t.kind == 4 || t.kind == 3) && decide (strOf t.text=strOf s)
 | none=>false
def tw(q:Int)(T:List Tok)(k:Nat):Bool:=match T[k]? with
 | some t=>t.kind == q
 | none=>false
structure bu(w:World)(g:Nat)(A:LP)(n c:Nat)(T:List Tok)(k deep:Nat):Prop where
 blk:an w g 123 #[.slice A n c,.int .i64 k,.int .i64 0,.int .i64 0,.int .i64 0,.int .i64 deep]
 tx:cK (EF rm) 4 w g A n T
 lt:k<n
 iT:n<=4001
section
variable {w ac:World} {g:Nat} {A:LP} {n c:Nat} {T:List Tok} {k deep:Nat}
theorem bu.on{M:Nat->Prop}(h:bu w g A n c T k deep)(O:Fr M w ac)(hM:∀b,M b->g<b):bu ac g A n c T k deep:=
 ⟨h.blk.on O λhm=>by have:=hM g hm;omega,h.tx.gf (O.below (aC h.blk.lt) λb O hm=>by have:=hM b hm;omega),h.lt,h.iT⟩
theorem bu.aj(h:bu w g A n c T k deep)(O:Ext w ac):bu ac g A n c T k deep:=h.on O λ_ h=>h.elim
theorem bu.tok(h:bu w g A n c T k deep):∃(b o:Nat) (t:Tok),A=some ⟨b,o,none⟩/\b<g/\T[k]?=some t/\w.cell? ⟨b,o+k*4,none⟩=some (.int .i64 t.kind)/\w.cell? ⟨b,o+k*4+1,none⟩=some (.string (strOf t.text))/\w.cell? ⟨b,o+k*4+2,none⟩=some (.int .i64 t.num)/\w.cell? ⟨b,o+k*4+3,none⟩=some (.int .i64 t.pos):=by
 have hl:=h.tx.1;obtain⟨b,o,bp,O,hc⟩:=h.tx.2 (aC h.lt);have ai:k<T.length:=by have:=h.lt;omega
 have ht:T[k]?=some T[k]:=List.getElem?_eq_getElem ai;obtain⟨cs,rfl,_,bd⟩:=hc k _ ht;have c0:=bd 0 _ rfl;simp only[Ll] at c0;exact⟨b,o,_,bp,O,ht,c0,bd 1 _ rfl,bd 2 _ rfl,bd 3 _ rfl⟩
end
theorem FU(a b:List UInt8):((strOf a).toList == (strOf b).toList)=decide (strOf a=strOf b):=by
 by_cases h:strOf a=strOf b
 .rw[h];simp
 .rw[tv h];simp[h]
namespace BX
theorem fW(h:p:=by
 generalize hX:World.drew _=X;have aE:=gX hX;have aN:=lN hX;have a8:=ad aE;have dD:=(aN.aj LL)
 obtain⟨d0,af,aS⟩:=aN.two;obtain⟨a0,ap,aj⟩:=(show an X g 123 _ from cb.aj aE).two;clear hX aE aN dD;have hP:(t.kind == 4 || t.kind == 3)=true->bX s T k=((strOf t.text).toList == (strOf s).toList):=λh=>by rw[bB.o,h,FU,Bool.true_and]
 have d:(t.kind == 4 || t.kind == 3)=false->bX s T k=false:=λh=>by rw[bB.o,h,Bool.false_and]
 have b0:=ah hP d;clear hP d;by_cases a1:t.kind=4
 .have cO:(t.kind == 4)=true:=by simpa using a1
  clear a1;go_wp2_with(fail);go_ret;exact⟨ret_bool (b0.1 (by simp[cO])).symm,a8.o⟩
 .have cO:(t.kind == 4)=false:=by simpa using a1
  clear a1;by_cases aU:t.kind=3
  .have cw:(t.kind == 3)=true:=by simpa using aU
   clear aU;go_wp2_with(fail);go_ret;exact⟨ret_bool (b0.1 (by simp[cw])).symm,a8.o⟩
  .have cw:(t.kind == 3)=false:=by simpa using aU
   clear aU;go_wp2_with(fail);go_ret;exact⟨ret_bool (b0.2 (by simp[cw,cO])).symm,a8.o⟩
 ):p:=h
end BX
open BX in
theorem lS(s:List UInt8)(g:Nat)(A:LP)(n c:Nat)(T:List Tok)(k deep:Nat)(w:World)(h:bu w g A n c T k deep) :
  Calls prog 60 #[.pointer (some ⟨g,0,none⟩),.string (strOf s)] w λe ac=>e=.returned (.bool (bX s T k))/\Ext w ac:=by
 obtain⟨b,o,t,rfl,O,ht,c0,c1,c2,c3⟩:=h.tok;have aw:=h.lt;have M:=h.iT;have b8:=h.blk.lt;have bw:(0:Int)<=(k:Int):=ab;have ci:(k:Int)<(n:Int):=ab;have bY:b<w.heap.size:=ab;have f:bX s T k=((t.kind == 4 || t.kind == 3) && decide (strOf t.text=strOf s)):=by unfold bX;rw[ht]
 have bB:=ad f;obtain⟨a0,ap,aj⟩:=h.blk.two;have cb:=ad h.blk;clear h f ht;go_enter func60,ntmps60;go_upto_region 1 with(fail);refine eU (λ_=>False) [(0,3),(1,3),(2,3),(3,0),(4,3),(5,3),(6,3),(7,0),(8,3),(9,0),(10,1),(11,2)] ?_
 iterate 3 refine pf ?_
 refine ph ?_
 iterate 3 refine pf ?_
 refine ph ?_;refine pf ?_;refine ph ?_;refine r9 ?_;exact fV
theorem cq(s:List UInt8)(g:Nat)(A:LP)(n c:Nat)(T:List Tok)(k deep:Nat)(w:World)(h:bu w g A n c T k deep)(q:Bool)(br:bX s T k=q)(ai:q=true->k+1<n) :
  Calls prog 62 #[.pointer (some ⟨g,0,none⟩),.string (strOf s)] w λe ac=>e=.returned (.bool q)/\bu ac g A n c T (if q=true then k+1 else k) deep/\Fr (λb=>b=g) w ac:=by
 obtain⟨H,bU⟩:=aM h br;have aw:=h.lt;have M:=h.iT;clear h br
 cases q with
 | false=>
  go_enter func62,ntmps62;go_wp2_with(fail);refine(lS s g A n c T k deep w H.o).mono ?_;rintro e aP ⟨rfl,aE⟩;rw[bU.o];have H1:=ah (H.aj aE) aE;clear aE ai;go_wp2_with(fail);go_ret
  exact⟨rfl,by simpa using H1.1,H1.2.mono λ_ h=>h.elim⟩
 | true=>
  have co:=ai rfl;clear ai;go_enter func62,ntmps62;go_wp2_with(fail);refine(lS s g A n c T k deep w H.o).mono ?_;rintro e aP ⟨rfl,aE⟩;rw[bU.o];have H1:=ah (H.aj aE) aE;obtain⟨a0,ap,aj⟩:=H1.1.blk.two;clear aE;go_wp2_with(fail);go_ret;have J:Fr (λb=>b=g) aP (aP.setCell ⟨g,1,none⟩ (.int .i64 ((k:Int)+1))):=(Fr.refl (λb=>b=g) aP).setCell (.inl rfl) _;refine⟨rfl,⟨?_,H1.1.tx.gf (J.below (aC H1.1.blk.lt) λb O hm=>ab),by simpa using co,M⟩,(H1.2.mono λ_ h=>h.elim).trans J⟩;exact H1.1.blk.aD 1 (.int .i64 ((k:Int)+1))
theorem jb(s:List UInt8)(g:Nat)(A:LP)(n c:Nat)(T:List Tok)(k deep:Nat)(w:World)(h:bu w g A n c T k deep)(br:bX s T k=true)(ai:k+1<n) :
  Calls prog 106 #[.pointer (some ⟨g,0,none⟩),.string (strOf s)] w λe ac=>e=.returned (.tuple #[])/\bu ac g A n c T (k+1) deep/\Fr (λb=>b=g) w ac:=by
 obtain⟨H,bU⟩:=aM h br;clear h br;go_enter func106,ntmps106;go_wp2_with(fail);refine(cq s g A n c T k deep w H.o true bU.o (λ_=>ai)).mono ?_;rintro e aP ⟨rfl,aY,hF⟩;have H1:=ah aY hF;clear aY hF;go_wp2_with(fail);refine bodyPost_end (v:=.tuple #[]) (by simp[results,Tryz.results106,go_sem]) rfl ?_;exact⟨rfl,by simpa using H1.1,H1.2⟩
theorem pd(q:Int)(g:Nat)(A:LP)(n c:Nat)(T:List Tok)(k deep:Nat)(w:World)(h:bu w g A n c T k deep) :
  Calls prog 59 #[.pointer (some ⟨g,0,none⟩),.int .i64 q] w λe ac=>e=.returned (.bool (tw q T k))/\Ext w ac:=by
 obtain⟨b,o,t,rfl,O,ht,c0,c1,c2,c3⟩:=h.tok;have aw:=h.lt;have M:=h.iT;have b8:=h.blk.lt;have bw:(0:Int)<=(k:Int):=ab;have ci:(k:Int)<(n:Int):=ab;have bY:b<w.heap.size:=ab;have f:tw q T k=(t.kind == q):=by unfold tw;rw[ht]
 have bB:=ad f;obtain⟨a0,ap,aj⟩:=h.blk.two;clear h f ht;go_enter func59,ntmps59;go_upto_region 1 with(fail);refine eU (λ_=>False) [(0,3),(1,3),(2,3),(3,0),(4,3),(5,3),(6,3),(7,3),(8,3),(9,0),(10,3),(11,3),(12,3),(13,0),(14,3),(15,3),(16,0),(17,3),(18,3),(19,3),(20,3)] ?_
 iterate 3 refine pf ?_
 refine ph ?_
 iterate 5 refine pf ?_
 refine ph ?_
 iterate 3 refine pf ?_
 refine ph ?_
 iterate 2 refine pf ?_
 refine ph ?_
 iterate 4 refine pf ?_
 refine aB ?_;go_wp2_with(fail);go_ret;exact⟨ret_bool bB.symm,LL.drew⟩
theorem m4(g:Nat)(A:LP)(n c:Nat)(T:List Tok)(k deep:Nat)(w:World)(t:Tok)(h:bu w g A n c T k deep)(ht:T[k]?=some t)(br:t.kind=1)(ai:k+1<n) :
  Calls prog 65 #[.pointer (some ⟨g,0,none⟩)] w λe ac=>e=.returned (.string (strOf t.text))/\bu ac g A n c T (k+1) deep/\Fr (λb=>b=g) w ac:=by
 have H:=ad h;have d:tw 1 T k=true:=by unfold tw;rw[ht];simp[br]
 obtain⟨bU,L⟩:=aM d ht;have M:=h.iT;clear h d br ht;go_enter func65,ntmps65;go_wp2_with(fail);refine(pd 1 g A n c T k deep w H.o).mono ?_;rintro e aP ⟨rfl,aE⟩;rw[bU.o];have H1:=ah (H.aj aE) aE;obtain⟨a0,ap,aj⟩:=H1.1.blk.two;clear aE;go_upto_region 5 with(fail);generalize hX:World.setCell _ _ _=X;have J:=dj hX;have aY:bu X g A n c T (k+1) deep:=by
  rw[<-hX];have J:Fr (λb=>b=g) aP (aP.setCell ⟨g,1,none⟩ (.int .i64 ((k:Int)+1))):=(Fr.refl (λb=>b=g) aP).setCell (.inl rfl) _;exact⟨H1.1.blk.aD 1 (.int .i64 ((k:Int)+1)),H1.1.tx.gf (J.below (aC H1.1.blk.lt) λb O hm=>ab),ai,M⟩
 have aR:=ah aY ((H1.2.mono λ_ h=>h.elim).trans J);obtain⟨b,o,m,rfl,O,i,c0,c1,c2,c3⟩:=H1.1.tok;have Q:m=t:=by
  have:=L.o;rw[i] at this;injection this
 subst Q;have b8:=aY.blk.lt;have bY:b<X.heap.size:=ab;have ej:¬b=g:=ab;have c1:X.cell? ⟨b,o+k*4+1,none⟩=some (.string (strOf m.text)):=(J.cell (aC H1.1.blk.lt) ej).trans c1;clear a0 ap aj c0 c2 c3 hX J;obtain⟨a0,ap,aj⟩:=aY.blk.two;have bw:(0:Int)<=(k:Int):=ab;have ci:(k:Int)<(n:Int):=ab;have f:(k:Int)<=4001:=ab;clear aY i;refine eU (λ_=>False) [(0,3),(1,3),(2,3),(3,0),(4,3),(5,3),(6,3),(7,0),(8,3),(9,3),(10,3),(11,0),(12,3)] ?_
 iterate 3 refine pf ?_
 refine ph ?_
 iterate 3 refine pf ?_
 refine ph ?_;refine pf ?_;rw[show IntKind.i64.wrap ((k:Nat):Int)=(k:Int) from IntWalk.i64_in _ ab]
 iterate 2 refine pf ?_
 refine ph ?_;refine pf ?_;refine aB ?_;go_wp2_with(fail);go_ret;exact⟨rfl,aR.1.aj LL.drew,aR.2.drew⟩
structure hE where
 proc:Int
 aw:List Int
def fv(i:hE):D:=.st [.i i.proc,.sl (i.aw.map .i)]
theorem kI{w:World}{P:Nat->Prop}{i:hE}:(fv i).rep w P cs↔∃A c n,cs=[.int .i64 i.proc,.slice A n c]/\n<=c/\Sl w P A n (i.aw.map .i):=by
 unfold fv;simp only[D.rep];rw[a5];constructor
 .rintro⟨f,rfl,h⟩;obtain⟨A,n,c,y,rfl,hc,hs,a4⟩:=aF.1 h;rw[aK] at a4;subst a4;exact⟨A,c,n,rfl,hc,hs⟩
 .rintro⟨A,c,n,rfl,hc,hs⟩;exact CW
theorem Sl.wk{w:World}{P:Nat->Prop}{A:LP}{n:Nat}{l:List hE}(h:Sl w P A n (l.map fv)){k:Nat}(ai:k<n):
  ∃b o x cu cr cD,A=some ⟨b,o,none⟩/\P b/\l[k]?=some x/\w.cell? ⟨b,o+k*2,none⟩=some (.int .i64 x.proc)/\w.cell? ⟨b,o+k*2+1,none⟩=some (.slice cu cr cD)/\cr<=cD/\Sl w P cu cr (x.aw.map .i):=by
 obtain⟨b,o,x,cs,bp,O,hx,aQ,hl,hc⟩:=Sl.gZ (z:=2) h (λ_=>rfl) ai;obtain⟨cu,cD,cr,rfl,ae,aD⟩:=kI.1 aQ;exact⟨b,o,x,cu,cr,cD,bp,O,hx,hc 0 _ rfl,hc 1 _ rfl,ae,aD⟩
namespace Bm
theorem AI(h:p:=by
 refine aq rfl (λK hK=>?_);go_simp;refine eL hK ?_;clear hK K;refine pf ?_;refine aB ?_;go_wp2_with(fail);go_roundw
 case rel=>exact⟨k+1,ab,by go_num,bs.drew⟩
 case measure=>exact az
 ):p:=h
end Bm
open Bm in
theorem qa(IA:LP)(n ic:Nat)(bQ:LP)(b1 bT:Nat)(cn:LP)(bW rc:Nat)(L:List hE)(x:hE)(cu:LP)(cr cD:Nat)(w:World)
  (bo:Sl w (au w) IA n (L.map fv)) (hx:Sl w (au w) cu cr (x.aw.map .i)) (hn:n<=1000000) (ai:∀i∈L,i.aw.length<=1000000) :
  Calls prog 98 #[.agg #[.slice IA n ic,.slice bQ b1 bT,.slice cn bW rc],.agg #[.int .i64 x.proc,.slice cu cr cD]] w λe ac=>∃r:Int,e=.returned (.int .i64 r)∧-1<=r/\r<n/\Ext w ac:=by
 obtain⟨bN,aR,co⟩:=eG bo hx ai;obtain⟨ev,db⟩:=x;simp only at aR ⊢;clear bo hx ai;go_enter func98,ntmps98;go_wp2_with(fail);generalize be:World.alloc _ _=W;have aE:=im be;have aN:=fU be;have bF:=fL be;obtain⟨a8,bx,b8⟩:=eG aE aN bF;clear be aE aN bF;go_loopw [5] (λi wr=>∃k:Nat,k<=n/\i=.int .i64 k/\Ext W wr) (λi _=>n - (intOf i).toNat)
 case atStart=>exact⟨0,Lx _,rfl,LL⟩
 case round=>
  obtain⟨k,ai,rfl,he⟩:=hrel;have bs:=ad he;have bL:=bx.aj he;have a9:=b8.aj he;obtain⟨G,j⟩:=aM bL a9;obtain⟨a0,ap,aj⟩:=bL.two;obtain⟨a3,am,aJ⟩:=a9.two;clear he bL a9;by_cases aw:k<n
  .obtain⟨b,o,y,cK,cR,cT,rfl,al,a4,c0,c1,cF,cw⟩:=(bN.on (Fr.ext (a8.trans bs.o))).wk aw;obtain⟨g,l⟩:=y;simp only at c0 cw;have d:cR<=140737488355328:=by have:=co.o _ (Le a4);have:=cw.1;simp at this;simp at *;omega
   have bw:(0:Int)<=(k:Int):=ab;have ci:(k:Int)<(n:Int):=ab;have c8:=ad cw;have c6:=ad (aR.on (Fr.ext (a8.trans bs.o)));have f:=ad d;clear a4 cw d cF;by_cases hp:g=ev
   .have cq:(g == ev)=true:=by simp[hp]
    clear hp;go_upto_region 4 with(fail);refine eU (λ_=>False) [(0,3),(1,0),(2,3),(3,3),(4,3),(5,0),(6,3),(7,0),(8,3),(9,3),(10,3),(11,0),(12,3),(13,3),(14,3),(15,0),(16,3),(17,0),(18,2),(19,3)] ?_;refine pf ?_;refine ph ?_
    iterate 3 refine pf ?_
    refine ph ?_;refine pf ?_;refine ph ?_
    iterate 3 refine pf ?_
    refine ph ?_
    iterate 3 refine pf ?_
    refine ph ?_;refine pf ?_;refine ph ?_;refine aq rfl (λK hK=>?_);go_simp;refine(j9 cK cu cR cT cr cD l db wr.drew (c8.on (Fr.ext LL.drew)) (c6.on (Fr.ext LL.drew)) f.o).mono ?_;rintro e aP ⟨rfl,ar⟩;have a7:=ad (bs.trans (Fr.aQ (Fr.of ar)));clear ar a0 ap aj a3 am aJ c0 c1;generalize decide (l=db)=q;refine eL hK ?_;clear hK K;refine pf ?_;refine aB ?_;cases q
    .go_wp2_with(fail);go_roundw
     case rel=>exact⟨k+1,ab,by go_num,a7.o⟩
     case measure=>exact az
    .go_wp2_with(fail);go_ret;exact⟨k,rfl,ab,ab,a8.trans a7.o⟩
   .have cq:(g == ev)=false:=by simp[hp]
    clear hp;go_upto_region 4 with(fail);refine eU (λ_=>False) [(0,3),(1,0),(2,3),(3,3),(4,3),(5,0),(6,3),(7,0),(8,3),(9,3),(10,3),(11,0),(12,3),(13,3),(14,3),(15,0),(16,3),(17,0),(18,2),(19,3)] ?_;refine pf ?_;refine ph ?_
    iterate 3 refine pf ?_
    refine ph ?_;refine pf ?_;refine ph ?_
    iterate 2 refine pf ?_
    refine dm rfl (by rfl) ?_
    try simp only[PU]
    refine ia rfl (by rfl) ?_;exact AH
  .obtain rfl:k=n:=ab;go_wp2_with(fail);go_ret;exact⟨-1,rfl,ab,ab,a8.trans bs.o⟩
structure F6(w:World)(P:Nat->Prop)(x:ay)(cs:List Value)(eo en:Int)(es:ByteArray)(EA:LP)(em ec:Nat)(QA:LP)(qm qc:Nat)(IA:LP)(i ic:Nat)(KA:LP)(k kc:Nat):Prop where
 cells:cs=[.int .i64 x.op,.int .i64 x.target,.bool x.dw,.int .i64 eo,.int .i64 en,.string es,.slice EA em ec,.bool x.place.param,.int .i64 x.place.index,.slice QA qm qc,.slice IA i ic,.slice KA k kc]
 expr:(oH x.expr).rep w P [.int .i64 eo,.int .i64 en,.string es,.slice EA em ec]
 place:(ds x.place).rep w P [.bool x.place.param,.int .i64 x.place.index,.slice QA qm qc]
 ints:Sl w P IA i (x.ints.map bf)
 Hv:i<=ic
 places:Sl w P KA k (x.places.map ds)
 Hy:k<=kc
theorem v9{w:World}{P:Nat->Prop}{x:ay}(h:(dV x).rep w P cs):∃eo en es EA em ec QA qm qc IA i ic KA k kc,F6 w P x cs eo en es EA em ec QA qm qc IA i ic KA k kc:=by
 unfold dV at h;rw[bB,a5] at h;obtain⟨y,rfl,h⟩:=h;rw[a5] at h;obtain⟨y,rfl,h⟩:=h;rw[fi] at h;obtain⟨y,rfl,h⟩:=h;simp only[D.aJ] at h;obtain⟨ce,br,rfl,he,c,aa,rfl,hp,ci,cM,rfl,ak,b,a,rfl,ai,rfl⟩:=h;obtain⟨eo,en,es,EA,em,ec,rfl⟩:=pZ he;obtain⟨QA,qm,qc,rfl,_,_⟩:=eu.1 hp;obtain⟨IA,ic,i,rfl,aq,ak⟩:=D.ts.1 ak;obtain⟨KA,kc,k,rfl,aF,ai⟩:=D.ts.1 ai;exact⟨eo,en,es,EA,em,ec,QA,qm,qc,IA,i,ic,KA,k,kc,rfl,he,hp,ak,aq,ai,aF⟩
theorem Di(p:di):(fX p).sz=5:=rfl
theorem tZ{w:World}{P:Nat->Prop}{p:di}(h:(fX p).rep w P cs):∃A n c,cs=[.string p.name,.int .i64 p.ints,.int .i64 p.aw,.int .i64 p.locals,.slice A n c]/\n<=c/\Sl w P A n (p.code.map dV):=by
 unfold fX at h;rw[bB,ch] at h;obtain⟨y,rfl,h⟩:=h;exact Gw
structure hj(w:World)(P:Nat->Prop)(u:av)(GA:LP)(gn:Nat)(MA:LP)(mn:Nat)(PA:LP)(pn:Nat):Prop where
 g:Sl w P GA gn (u.globals.map .i)
 m:Sl w P MA mn (u.ae.map ek)
 p:Sl w P PA pn (u.procs.map fX)
theorem mf{w:World}{P:Nat->Prop}(h:(ua u).rep w P cs):∃GA gn gc MA mn mc PA pn pc,cs=[.slice GA gn gc,.slice MA mn mc,.slice PA pn pc,.int .i64 u.main]/\gn<=gc/\mn<=mc/\pn<=pc/\hj w P u GA gn MA mn PA pn:=by
 unfold ua at h;rw[bB] at h;obtain⟨A,n,c,y,rfl,hc,hs,h⟩:=aF.1 h;obtain⟨A2,n2,c2,br,rfl,bR,bv,h⟩:=aF.1 h;obtain⟨ck,n3,c3,aa,rfl,N,cC,h⟩:=aF.1 h;obtain⟨cM,rfl,a1⟩:=a5.1 h;rw[aK] at a1;subst a1;exact⟨A,n,c,A2,n2,c2,ck,n3,c3,rfl,hc,bR,N,hs,bv,cC⟩
theorem hj.on{w ac:World}{u:av}{GA:LP}{gn:Nat}{MA:LP}{mn:Nat}{PA:LP}{pn:Nat}(h:hj w (au w) u GA gn MA mn PA pn)(he:Ext w ac):hj ac (au ac) u GA gn MA mn PA pn:=
 ⟨h.g.on (Fr.ext he),h.m.on (Fr.ext he),h.p.on (Fr.ext he)⟩
theorem hj.proc{w:World}{P:Nat->Prop}{GA:LP}{gn:Nat}{MA:LP}{mn:Nat}{PA:LP}{pn:Nat}(h:hj w P u GA gn MA mn PA pn){k:Nat}(ai:k<pn):
  ∃b o p bQ n c,PA=some ⟨b,o,none⟩/\P b/\u.procs[k]?=some p/\w.cell? ⟨b,o+k*5,none⟩=some (.string p.name)/\w.cell? ⟨b,o+k*5+1,none⟩=some (.int .i64 p.ints)/\w.cell? ⟨b,o+k*5+2,none⟩=some (.int .i64 p.aw)/\
   w.cell? ⟨b,o+k*5+3,none⟩=some (.int .i64 p.locals)/\w.cell? ⟨b,o+k*5+4,none⟩=some (.slice bQ n c)/\n<=c/\Sl w P bQ n (p.code.map dV):=by
 obtain⟨b,o,p,cs,bp,O,hp,aQ,hl,hc⟩:=Sl.gZ (z:=5) h.p Di ai;obtain⟨bQ,n,c,rfl,ae,aD⟩:=tZ aQ;exact⟨b,o,p,bQ,n,c,bp,O,hp,hc 0 _ rfl,hc 1 _ rfl,hc 2 _ rfl,hc 3 _ rfl,hc 4 _ rfl,ae,aD⟩
theorem Sl.Dz{w:World}{P:Nat->Prop}{A:LP}{n:Nat}{l:List ay}(h:Sl w P A n (l.map dV)){k:Nat}(ai:k<n):
  ∃b o x cs eo en es EA em ec QA qm qc IA i ic KA m mc,A=some ⟨b,o,none⟩/\P b/\l[k]?=some x/\F6 w P x cs eo en es EA em ec QA qm qc IA i ic KA m mc/\∀j v,cs[j]?=some v->w.cell? ⟨b,o+k*12+j,none⟩=some v:=by
 obtain⟨b,o,x,cs,bp,O,hx,aQ,hl,hc⟩:=Sl.gZ (z:=12) h mR ai;obtain⟨eo,en,es,EA,em,ec,QA,qm,qc,IA,i,ic,KA,m,mc,ak⟩:=v9 aQ;exact⟨b,o,x,cs,eo,en,es,EA,em,ec,QA,qm,qc,IA,i,ic,KA,m,mc,bp,O,hx,ak,hc⟩
theorem Sl.ti{w:World}{P:Nat->Prop}{A:LP}{n:Nat}{l:List bJ}(h:Sl w P A n (l.map ds)){k:Nat}(ai:k<n):
  ∃b o x QA m c,A=some ⟨b,o,none⟩/\P b/\l[k]?=some x/\w.cell? ⟨b,o+k*3,none⟩=some (.bool x.param)/\w.cell? ⟨b,o+k*3+1,none⟩=some (.int .i64 x.index)/\w.cell? ⟨b,o+k*3+2,none⟩=some (.slice QA m c)/\m<=c/\Sl w P QA m (x.at_.toList.map bf):=by
 obtain⟨b,o,x,cs,bp,O,hx,aQ,hl,hc⟩:=Sl.gZ (z:=3) h (λ_=>rfl) ai;obtain⟨QA,m,c,rfl,ae,aD⟩:=eu.1 aQ;exact⟨b,o,x,QA,m,c,bp,O,hx,hc 0 _ rfl,hc 1 _ rfl,hc 2 _ rfl,ae,aD⟩
def mg(u:av)(i:hE):Prop:=∃p,0<=i.proc/\u.procs[i.proc.toNat]?=some p/\(i.aw.length:Int)=p.aw
structure mE(w:World)(P:Nat->Prop)(s:ag)(GA:LP)(gn:Nat)(TA:LP)(tn:Nat)(HA:LP)(hn:Nat):Prop where
 g:Sl w P GA gn (s.globals.map .i)
 t:Sl w P TA tn (s.table.map mQ)
 h:Sl w P HA hn (s.threads.map mS)
section
variable {w ac:World} {P bf:Nat->Prop} {s:ag} {GA TA HA:LP} {gn gc tn tc hn hc:Nat}
theorem mE.on(h:mE w (au w) s GA gn TA tn HA hn)(he:Ext w ac):mE ac (au ac) s GA gn TA tn HA hn:=⟨h.g.on (Fr.ext he),h.t.on (Fr.ext he),h.h.on (Fr.ext he)⟩
theorem mE.mono(h:mE w P s GA gn TA tn HA hn)(hp:∀b,P b->bf b):mE w bf s GA gn TA tn HA hn:=⟨h.g.mono hp,h.t.mono hp,h.h.mono hp⟩
theorem g0:(hz f).rep w P cs↔∃IA i ic S l lc,cs=[.int .i64 f.proc,.int .i64 f.pc,.slice IA i ic,.slice S l lc]/\i<=ic/\l<=lc/\Sl w P IA i (f.ints.map D.i)/\Sl w P S l (f.aw.map D.i):=by
 unfold hz;rw[bB];constructor
 .intro h;obtain⟨y,rfl,ae⟩:=a5.1 h;obtain⟨cr,rfl,aD⟩:=a5.1 ae;obtain⟨A,n,c,br,rfl,hc,hs,aU⟩:=aF.1 aD;obtain⟨A2,n2,c2,aa,rfl,bR,bv,a1⟩:=aF.1 aU;rw[aK] at a1;subst a1;exact⟨A,n,c,A2,n2,c2,rfl,hc,bR,hs,bv⟩
 .rintro⟨A,n,c,A2,n2,c2,rfl,hc,bR,hs,bv⟩;exact a5.2 ⟨_,rfl,a5.2 ⟨_,rfl,aF.2 ⟨A,n,c,_,rfl,hc,hs,aF.2 ⟨A2,n2,c2,_,rfl,bR,bv,aK.2 rfl⟩⟩⟩⟩
theorem E8(f:al):(hz f).sz=4:=rfl
theorem E9(t:List al):(mS t).sz=1:=rfl
theorem fm{t:List al}:(mS t).rep w P cs↔∃A n c,cs=[.slice A n c]/\n<=c/\Sl w P A n (t.map hz):=by
 unfold mS;rw[bB];constructor
 .intro h;obtain⟨A,n,c,y,rfl,hc,hs,ae⟩:=aF.1 h;rw[aK] at ae;subst ae;exact⟨A,n,c,rfl,hc,hs⟩
 .rintro⟨A,n,c,rfl,hc,hs⟩;exact aF.2 ⟨A,n,c,_,rfl,hc,hs,aK.2 rfl⟩
theorem Sl.ym{A:LP}{n:Nat}{l:List (List al)}(h:Sl w P A n (l.map mS)){k:Nat}(ai:k<n):
  ∃b o t FA m c,A=some ⟨b,o,none⟩/\P b/\l[k]?=some t/\w.cell? ⟨b,o+k,none⟩=some (.slice FA m c)/\m<=c/\Sl w P FA m (t.map hz):=by
 obtain⟨b,o,t,cs,bp,O,hx,aQ,_,hc⟩:=Sl.gZ (z:=1) h E9 ai;obtain⟨FA,m,c,rfl,ae,aD⟩:=fm.1 aQ;have aU:=hc 0 _ rfl;simp only[Nat.mul_one,Ll] at aU;exact⟨b,o,t,FA,m,c,bp,O,hx,aU,ae,aD⟩
theorem Sl.IM{A:LP}{n:Nat}{l:List al}(h:Sl w P A n (l.map hz)){k:Nat}(ai:k<n):
  ∃b o f IA i ic S m lc,A=some ⟨b,o,none⟩/\P b/\l[k]?=some f/\w.cell? ⟨b,o+k*4,none⟩=some (.int .i64 f.proc)/\w.cell? ⟨b,o+k*4+1,none⟩=some (.int .i64 f.pc)/\w.cell? ⟨b,o+k*4+2,none⟩=some (.slice IA i ic)/\
   w.cell? ⟨b,o+k*4+3,none⟩=some (.slice S m lc)/\i<=ic/\m<=lc/\Sl w P IA i (f.ints.map D.i)/\Sl w P S m (f.aw.map D.i):=by
 obtain⟨b,o,f,cs,bp,O,hx,aQ,_,hc⟩:=Sl.gZ (z:=4) h E8 ai;obtain⟨IA,i,ic,S,m,lc,rfl,ae,aD,aU,a1⟩:=g0.1 aQ;have cd:=hc 0 _ rfl;simp only[Ll] at cd;exact⟨b,o,f,IA,i,ic,S,m,lc,bp,O,hx,cd,hc 1 _ rfl,hc 2 _ rfl,hc 3 _ rfl,ae,aD,aU,a1⟩
end
abbrev bA(A:LP)(n c:Nat):List Nat:=(Value.slice A n c).ownBlock.toList
structure Own(w:World)(e:TypeId)(z:Nat)(A:LP)(n c:Nat)(xs:List Value)(F:List Nat):Prop where
 row:w.ownsRow 0 e z (.slice A n c) n xs
 eq:F=bA A n c
section
variable {w ac:World} {e:TypeId} {z n c:Nat} {A:LP} {xs:List Value} {F:List Nat}
theorem Own.ai(h:Own w e z A n c xs F)(ai:∀b∈F,ac.heap[b]?=w.heap[b]?):Own ac e z A n c xs F:=by
 refine⟨⟨h.row.1,?_⟩,h.eq⟩;rcases h.row.2 with aD|⟨g,cap,cur,bD,O,aK,rest⟩
 .exact .inl aD
 .exact .inr ⟨g,cap,cur,bD,O,(ai g (by rw[h.eq];unfold bA;rw[bD];simp[Value.ownBlock])).trans aK,rest⟩
theorem Own.cap(h:Own w e z A n c xs F):n<=c:=by
 obtain⟨I,aA,bD,ae,_⟩:=bx h.row;injection bD with _ _ bD;omega
theorem Own.lt(h:Own w e z A n c xs F):∀b∈F,b<w.heap.size:=λb O=>by
 rw[h.eq] at O;exact(h.row.lt b (by simpa using O)).2
theorem Own.block(h:Own w e z A n c xs F)(hn:0<n):∃g,A=some ⟨g,0,none⟩/\F=[g]/\g<w.heap.size/\(∀j u,xs[j]?=some u->w.cell? ⟨g,j,none⟩=some u)/\(∀j,w.frozen? ⟨g,j,none⟩=false)/\
  ∀j u,j<n*z->Own (w.setCell ⟨g,j,none⟩ u) e z A n c (xs.set j u) F:=by
 obtain⟨g,bp,_,aw,hc,J,hs⟩:=h9 h.row hn;subst bp;exact⟨g,rfl,h.eq,aw,hc,J,λj u bd=>⟨hs j u bd,h.eq⟩⟩
theorem Own.sl{l:List D}{P:Nat->Prop}(h:Own w e z A n c xs F)(aQ:D.aJ w P l xs)(hl:l.length=n)(hF:∀b∈F,P b):Sl w P A n l:=
 Sl.qz h.row aQ hl λg aK _ _=>hF g (by rw[h.eq,aK];simp[Value.ownBlock])
theorem Own.shorter(h:Own w e z A n c xs F){m:Nat}(hm:m<=n)(hn:0<n):Own w e z A m c (xs.take (m*z)) F:=by
 refine⟨⟨by rw[List.length_take,h.row.1];exact Nat.min_eq_left (Nat.mul_le_mul_right _ hm),?_⟩,by rw[h.eq];cases A<;>rfl⟩;rcases h.row.2 with⟨_,aD⟩|⟨g,cap,cur,bD,O,aK,ae,aD,aU,a1⟩
 .omega
 .injection bD with bp _ hc;subst bp hc;exact .inr ⟨g,c,cur,rfl,O,aK,ab,aD,aU,by rw[<-a1,List.take_take,Nat.min_eq_left (Nat.mul_le_mul_right _ hm)]⟩
end
def ki{α:Type}(E:World->α->List Value->List Nat->Prop)(w:World):List α->List Value->List Nat->Prop
 | [],xs,F=>xs=[]/\F=[]
 | a::l,xs,F=>∃x y F1 F2,xs=x++y/\F=F1++F2/\E w a x F1/\ki E w l y F2
section
variable {α:Type} {E:World->α->List Value->List Nat->Prop} {z:Nat}
def xm(E:World->α->List Value->List Nat->Prop):Prop:=∀(w ac:World) (a:α) (x:List Value) (F:List Nat),E w a x F->(∀b∈F,ac.heap[b]?=w.heap[b]?)->E ac a x F
def zt(z:Nat)(E:World->α->List Value->List Nat->Prop):Prop:=∀(w:World) (a:α) (x:List Value) (F:List Nat),E w a x F->x.length=z
theorem ki.ai(aE:xm E){w ac:World}:∀{l:List α} {xs:List Value} {F:List Nat},ki E w l xs F->(∀b∈F,ac.heap[b]?=w.heap[b]?)->ki E ac l xs F
 | [],_,_,h,_=>h
 | a::l,xs,F,h,ai=>by
  obtain⟨x,y,F1,F2,rfl,rfl,ae,aD⟩:=h;exact⟨x,y,F1,F2,rfl,rfl,aE _ _ _ _ _ ae λb O=>ai b (by simp[O]),ki.ai aE aD λb O=>ai b (by simp[O])⟩
theorem ki.snoc{w:World}{a:α}{x:List Value}{f:List Nat}:∀{l:List α} {xs:List Value} {F:List Nat},ki E w l xs F->E w a x f->ki E w (l++[a]) (xs++x) (F++f)
 | [],_,_,⟨ae,aD⟩,he=>by
  subst ae aD
  exact⟨x,[],f,[],by simp,by simp,he,rfl,rfl⟩
 | b::l,xs,F,h,he=>by
  obtain⟨Z,y,F1,F2,rfl,rfl,ae,aD⟩:=h;exact⟨Z,y++x,F1,F2++f,by simp,by simp,ae,ki.snoc aD he⟩
theorem ki.len(ba:zt z E){w:World}:∀{l:List α} {xs:List Value} {F:List Nat},ki E w l xs F->xs.length=l.length*z
 | [],_,_,⟨ae,_⟩=>by simp[ae]
 | a::l,xs,F,h=>by
  obtain⟨x,y,F1,F2,rfl,rfl,ae,aD⟩:=h;rw[Ld,ba _ _ _ _ ae,ki.len ba aD,Lo,Nat.succ_mul];omega
theorem ki.take{w:World}(ba:zt z E):∀{l:List α} {xs:List Value} {F:List Nat},ki E w l xs F->∀k,∃F1,ki E w (l.take k) (xs.take (k*z)) F1/\F1 <+: F
 | [],xs,F,⟨ae,aD⟩,k=>⟨[],by subst ae;simp[ki],by simp⟩
 | a::l,xs,F,h,0=>⟨[],by simp[ki],by simp⟩
 | a::l,xs,F,h,k+1=>by
  obtain⟨x,y,F1,F2,rfl,rfl,ae,aD⟩:=h;obtain⟨L,aU,a1⟩:=ki.take ba aD k;refine⟨F1++L,⟨x,y.take (k*z),F1,L,?_,rfl,ae,aU⟩,by simpa using a1⟩;have:=ba _ _ _ _ ae;rw[List.take_append,Lj (by rw[this,Nat.succ_mul];omega),this,show (k+1)*z - z=k*z by rw[Nat.succ_mul];omega]
theorem ki.at_(aE:xm E)(ba:zt z E){w:World}:∀{l:List α} {xs:List Value} {F:List Nat},ki E w l xs F->∀{k:Nat} {a:α},l[k]?=some a->
  ∃x F1 f F2,F=F1++(f++F2)/\E w a x f/\(∀j u,x[j]?=some u->xs[k*z+j]?=some u)/\
   (∀ac r d,(∀b∈F1++F2,ac.heap[b]?=w.heap[b]?)->E ac r x d->ki E ac (l.set k r) xs (F1++(d++F2)))/\
   (∀ac r j u d,(∀b∈F1++F2,ac.heap[b]?=w.heap[b]?)->j<z->E ac r (x.set j u) d->ki E ac (l.set k r) (xs.set (k*z+j) u) (F1++(d++F2)))
 | [],_,_,_,k,a,ai=>by simp at ai
 | b::l,xs,F,h,0,a,ai=>by
  obtain⟨x,y,F1,F2,rfl,rfl,ae,aD⟩:=h;simp only[List.getElem?_cons_zero,LG] at ai;subst ai;have hx:=ba _ _ _ _ ae;refine⟨x,[],F1,F2,by simp,ae,λj u bd=>?_,λac r d ai he=>⟨x,y,d,F2,rfl,by simp,he,ki.ai aE aD λb O=>ai b (by simp[O])⟩,λac r j u d ai bd he=>⟨x.set j u,y,d,F2,?_,by simp,he,ki.ai aE aD λb O=>ai b (by simp[O])⟩⟩
  .rw[Nat.zero_mul,Lt,List.getElem?_append_left (List.getElem?_eq_some_iff.1 bd).1];exact bd
  .rw[Nat.zero_mul,Lt,List.set_append_left _ _ ab]
 | b::l,xs,F,h,k+1,a,ai=>by
  obtain⟨bs,y,g,Y,rfl,rfl,ae,aD⟩:=h;simp only[List.getElem?_cons_succ] at ai;have hx:=ba _ _ _ _ ae;obtain⟨x,F1,f,F2,rfl,aU,a1,cd,o⟩:=ki.at_ aE ba aD ai;have i:∀j,(k+1)*z+j=bs.length+(k*z+j):=λj=>by rw[hx,Nat.succ_mul];omega
  refine⟨x,g++F1,f,F2,by simp,aU,λj u bd=>?_,λac r d ai he=>⟨bs,y,g,F1++(d++F2),rfl,by simp,aE _ _ _ _ _ ae λb O=>ai b (by simp[O]),cd ac r d (λb O=>ai b (by simp at O ⊢;rcases O with O|O<;>simp[O])) he⟩,
   λac r j u d ai bd he=>⟨bs,y.set (k*z+j) u,g,F1++(d++F2),?_,by simp,aE _ _ _ _ _ ae λb O=>ai b (by simp[O]),o ac r j u d (λb O=>ai b (by simp at O ⊢;rcases O with O|O<;>simp[O])) bd he⟩⟩
  .rw[i,List.getElem?_append_right ab,Nat.add_sub_cancel_left];exact a1 j u bd
  .rw[i,List.set_append_right _ _ ab,Nat.add_sub_cancel_left]
theorem ki.aJ{w:World}{P:Nat->Prop}{enc:α->D}(aQ:∀a x F,E w a x F->(∀b∈F,P b)->(enc a).rep w P x):∀{l:List α} {xs:List Value} {F:List Nat},ki E w l xs F->(∀b∈F,P b)->D.aJ w P (l.map enc) xs
 | [],_,_,⟨ae,_⟩,_=>by simp only[Ly,D.aJ];exact ae
 | a::l,xs,F,h,ai=>by
  obtain⟨x,y,F1,F2,rfl,rfl,ae,aD⟩:=h;simp only[Lh,D.aJ];exact⟨x,y,rfl,aQ _ _ _ ae λb O=>ai b (by simp[O]),ki.aJ aQ aD λb O=>ai b (by simp[O])⟩
end
abbrev eJ:Int->Value:=Value.int .i64
def pv(w:World)(f:al)(cs:List Value)(F:List Nat):Prop:=∃IA i ic S l lc F1 F2,cs=[.int .i64 f.proc,.int .i64 f.pc,.slice IA i ic,.slice S l lc]/\F=F1++F2/\
 i=f.ints.length/\l=f.aw.length/\Own w 3 1 IA i ic (f.ints.map eJ) F1/\Own w 3 1 S l lc (f.aw.map eJ) F2
def oE(w:World)(fs:List al)(cs:List Value)(F:List Nat):Prop:=∃FA n c xs F1 F2,cs=[.slice FA n c]/\F=F1++F2/\n=fs.length/\Own w 99 4 FA n c xs F1/\ki pv w fs xs F2
structure ri(w:World)(s:ag)(GA:LP)(gn gc:Nat)(TA:LP)(tn tc:Nat)(HA:LP)(hn hc:Nat)(xs:List Value)(F1 F2 L N:List Nat):Prop where
 gl:gn=s.globals.length
 tl:tn=s.table.length
 hl:hn=s.threads.length
 g:Own w 3 1 GA gn gc (s.globals.map eJ) F1
 t:Own w 95 2 TA tn tc (s.table.flatMap cG) F2
 h:Own w 49 1 HA hn hc xs L
 hs:ki oE w s.threads xs N
 nd:(F1++(F2++(L++N))).Nodup
theorem pv.ai:xm pv:=λw ac a x F h ai=>by
 obtain⟨IA,i,ic,S,l,lc,F1,F2,rfl,rfl,ak,hl,ae,aD⟩:=h;exact⟨IA,i,ic,S,l,lc,F1,F2,rfl,rfl,ak,hl,ae.ai λb O=>ai b (by simp[O]),aD.ai λb O=>ai b (by simp[O])⟩
theorem pv.len:zt 4 pv:=λw a x F h=>by
 obtain⟨IA,i,ic,S,l,lc,F1,F2,rfl,_⟩:=h;rfl
theorem oE.ai:xm oE:=λw ac a x F h ai=>by
 obtain⟨FA,n,c,xs,F1,F2,rfl,rfl,hn,ae,aD⟩:=h;exact⟨FA,n,c,xs,F1,F2,rfl,rfl,hn,ae.ai λb O=>ai b (by simp[O]),aD.ai pv.ai λb O=>ai b (by simp[O])⟩
theorem oE.len:zt 1 oE:=λw a x F h=>by
 obtain⟨FA,n,c,xs,F1,F2,rfl,_⟩:=h;rfl
theorem cF{w:World}{P:Nat->Prop}:∀(l:List Int),D.aJ w P (l.map D.i) (l.map eJ)
 | []=>by simp only[Ly,D.aJ]
 | a::l=>by simp only[Lh];exact a5.2 ⟨_,rfl,cF l⟩
theorem dK{w:World}{P:Nat->Prop}:∀(l:List dn),D.aJ w P (l.map mQ) (l.flatMap cG)
 | []=>by simp only[Ly,D.aJ,List.flatMap_nil]
 | a::l=>by
  simp only[Lh,Lv,D.aJ];exact⟨_,_,rfl,by unfold mQ;exact a5.2 ⟨_,rfl,a5.2 ⟨_,rfl,aK.2 rfl⟩⟩,dK l⟩
theorem pv.rep{w:World}{P:Nat->Prop}(f:al)(x:List Value)(F:List Nat)(h:pv w f x F)(aY:∀b∈F,P b):(hz f).rep w P x:=by
 obtain⟨IA,i,ic,S,l,lc,F1,F2,rfl,rfl,ak,hl,ae,aD⟩:=h;exact g0.2 ⟨IA,i,ic,S,l,lc,rfl,ae.cap,aD.cap,ae.sl (cF _) (by simp[ak]) λb O=>aY b (by simp[O]),aD.sl (cF _) (by simp[hl]) λb O=>aY b (by simp[O])⟩
theorem oE.rep{w:World}{P:Nat->Prop}(t:List al)(x:List Value)(F:List Nat)(h:oE w t x F)(aY:∀b∈F,P b):(mS t).rep w P x:=by
 obtain⟨FA,n,c,xs,F1,F2,rfl,rfl,hn,ae,aD⟩:=h;exact fm.2 ⟨FA,n,c,rfl,ae.cap,ae.sl (aD.aJ pv.rep λb O=>aY b (by simp[O])) (by simp[hn]) λb O=>aY b (by simp[O])⟩
section
variable {w ac:World} {P bf:Nat->Prop} {s:ag} {GA TA HA:LP} {gn gc tn tc hn hc:Nat} {xs:List Value} {F1 F2 L N:List Nat}
theorem ri.at_(h:ri w s GA gn gc TA tn tc HA hn hc xs F1 F2 L N)(aY:∀b∈F1++(F2++(L++N)),P b):mE w P s GA gn TA tn HA hn:=
 ⟨h.g.sl (cF _) (by simp[h.gl]) λb O=>aY b (by simp[O]),h.t.sl (dK _) (by simp[h.tl]) λb O=>aY b (by simp[O]),h.h.sl (h.hs.aJ oE.rep λb O=>aY b (by simp[O])) (by simp[h.hl]) λb O=>aY b (by simp[O])⟩
theorem ri.ai(h:ri w s GA gn gc TA tn tc HA hn hc xs F1 F2 L N)(ai:∀b∈F1++(F2++(L++N)),ac.heap[b]?=w.heap[b]?):ri ac s GA gn gc TA tn tc HA hn hc xs F1 F2 L N:=
 ⟨h.gl,h.tl,h.hl,h.g.ai λb O=>ai b (by simp[O]),h.t.ai λb O=>ai b (by simp[O]),h.h.ai λb O=>ai b (by simp[O]),h.hs.ai oE.ai λb O=>ai b (by simp[O]),h.nd⟩
end
theorem eA{A B:List Nat}{x:Nat}(h:(A++x::B).Nodup):∀b∈A++B,b≠x:=by
 intro b O he;subst he;have:=(List.perm_middle (a:=b) (l₁:=A) (l₂:=B)).nodup_iff.1 h;exact(List.nodup_cons.1 this).1 O
theorem lx{α:Type}{g:α->α}{x:α}:∀{l:List α} {k:Nat},l[k]?=some x->l.modify k g=l.set k (g x)
 | [],k,h=>by simp at h
 | a::l,0,h=>by simp at h;subst h;rfl
 | a::l,k+1,h=>by
  simp only[List.getElem?_cons_succ] at h;rw[List.modify_succ_cons,List.set_cons_succ,lx h]
theorem kF{α:Type}(l:List α)(x:α):(l++[x]).dropLast=l:=by simp
theorem aN{w:World}{p:Addr}{u:Value}{b:Nat}(h:b≠p.block):(w.setCell p u).heap[b]?=w.heap[b]?:=Below.heap_setCell w p u b h
section
variable {w ac:World} {P bf:Nat->Prop} {s:ag} {GA TA HA:LP} {gn gc tn tc hn hc:Nat} {xs:List Value} {F1 F2 L N:List Nat}
theorem ri.top(h:ri w s GA gn gc TA tn tc HA hn hc xs F1 F2 L N){k:Nat}{fs:List al}(br:s.threads[k]?=some (fs++[f])):
  ∃O b5 fc IA i ic S l lc,HA=some ⟨O,0,none⟩/\k<hn/\O<w.heap.size/\b5<w.heap.size/\O∈L/\b5∈N/\i=f.ints.length/\l=f.aw.length/\
   w.cell? ⟨O,k,none⟩=some (.slice (some ⟨b5,0,none⟩) (fs.length+1) fc)/\fs.length+1<=fc/\
   w.cell? ⟨b5,fs.length*4,none⟩=some (.int .i64 f.proc)/\w.cell? ⟨b5,fs.length*4+1,none⟩=some (.int .i64 f.pc)/\w.cell? ⟨b5,fs.length*4+2,none⟩=some (.slice IA i ic)/\w.cell? ⟨b5,fs.length*4+3,none⟩=some (.slice S l lc)/\
   (∀j,w.frozen? ⟨O,j,none⟩=false)/\(∀j,w.frozen? ⟨b5,j,none⟩=false)/\
   (∀v,ri (w.setCell ⟨b5,fs.length*4+1,none⟩ (.int .i64 v)) {s with threads:=s.threads.set k (fs++[{f with pc:=v}])} GA gn gc TA tn tc HA hn hc xs F1 F2 L N)/\
   (∀j v,j<i->∃H,IA=some ⟨H,0,none⟩/\H<w.heap.size/\H∈N/\w.frozen? ⟨H,j,none⟩=false/\(∃u,w.cell? ⟨H,j,none⟩=some u)/\ri (w.setCell ⟨H,j,none⟩ (.int .i64 v)) {s with threads:=s.threads.set k (fs++[{f with ints:=f.ints.set j v}])} GA gn gc TA tn tc HA hn hc xs F1 F2 L N)/\
   (∃D q,ri (w.setCell ⟨O,k,none⟩ (.slice (some ⟨b5,0,none⟩) fs.length fc)) {s with threads:=s.threads.set k fs} GA gn gc TA tn tc HA hn hc D F1 F2 L q/\∀b∈q,b∈N):=by
 obtain⟨x,av,Q,g,z,aS,hx,c1,c2⟩:=h.hs.at_ oE.ai oE.len br;obtain⟨FA,n,c,a2,ax,af,rfl,rfl,bT,bl,J⟩:=aS;have a8:k<s.threads.length:=(List.getElem?_eq_some_iff.1 br).1;have aW:k<hn:=by rw[h.hl];exact a8
 have bj:n=fs.length+1:=by simpa using bT
 obtain⟨b5,rfl,rfl,cn,o,bN,a5⟩:=bl.block ab;obtain⟨O,sY,cl,bS,t,A,E⟩:=h.h.block ab;obtain⟨y,bC,F,bJ,rfl,B,a4,d1,d2⟩:=J.at_ (k:=fs.length) (a:=f) pv.ai pv.len (by simp);obtain⟨IA,i,ic,S,l,lc,e,M2,rfl,rfl,ak,hl,r,aG⟩:=B;subst z cl sY;have nd:=h.nd;have nf:∀b∈(F1++(F2++([O]++av)))++(bC++((e++M2)++(bJ++g))),b≠b5:=eA (by simpa[Lp] using nd);have C:∀b∈(F1++F2)++(av++(b5::(bC++(e++(M2++(bJ++g)))))),b≠O:=eA (by simpa[Lp] using nd);refine⟨O,b5,c,IA,i,ic,S,l,lc,rfl,aW,bS,cn,by simp,by simp,ak,hl,?_,?_,?_,?_,?_,?_,A,bN,λv=>?_,λj v bd=>?_,?_⟩
 .rw[<-bj];have:=hx 0 _ rfl;rw[Nat.mul_one,Ll] at this;exact t _ _ this
 .rw[<-bj];exact bl.cap
 .exact o _ _ (by have:=a4 0 _ rfl;rwa [Ll] at this)
 .exact o _ _ (a4 1 _ rfl)
 .exact o _ _ (a4 2 _ rfl)
 .exact o _ _ (a4 3 _ rfl)
 .have ai:∀b,b≠b5->(w.setCell ⟨b5,fs.length*4+1,none⟩ (.int .i64 v)).heap[b]?=w.heap[b]?:=λb O=>aN O;have e1:pv (w.setCell ⟨b5,fs.length*4+1,none⟩ (.int .i64 v)) {f with pc:=v} ([.int .i64 f.proc,.int .i64 f.pc,.slice IA i ic,.slice S l lc].set 1 (.int .i64 v)) (e++M2):=
   ⟨IA,i,ic,S,l,lc,e,M2,rfl,rfl,ak,hl,r.ai λb O=>ai b (nf b (by simp[O])),aG.ai λb O=>ai b (nf b (by simp[O]))⟩
  have e2:=d2 _ _ 1 (.int .i64 v) _ (λb O=>ai b (nf b (by simp at O ⊢;rcases O with O|O<;>simp[O]))) ab e1;rw[List.set_append_right _ _ (Lb _),Nat.sub_self,List.set_cons_zero] at e2;have e3:oE (w.setCell ⟨b5,fs.length*4+1,none⟩ (.int .i64 v)) (fs++[{f with pc:=v}]) _ _:=⟨some ⟨b5,0,none⟩,n,c,_,[b5],_,rfl,rfl,by simpa using bj,a5 _ (.int .i64 v) (by rw[bj];omega),e2⟩
  have cF:=c1 _ _ _ (λb O=>ai b (nf b (by simp at O ⊢;rcases O with O|O<;>simp[O]))) e3;exact⟨h.gl,h.tl,by simpa using h.hl,h.g.ai λb O=>ai b (nf b (by simp[O])),h.t.ai λb O=>ai b (nf b (by simp[O])),h.h.ai λb O=>ai b (nf b (by simp at O;simp[O])),cF,nd⟩
 .obtain⟨H,rfl,rfl,aM,aq,I,aB⟩:=r.block ab;have d:∀b∈(F1++(F2++([O]++(av++(b5::bC)))))++(M2++(bJ++g)),b≠H:=eA (by simpa[Lp] using nd);have ai:∀b,b≠H->(w.setCell ⟨H,j,none⟩ (.int .i64 v)).heap[b]?=w.heap[b]?:=λb O=>aN O;have e0:=aB j (.int .i64 v) ab;rw[show (f.ints.map eJ).set j (.int .i64 v)=(f.ints.set j v).map eJ from (List.map_set (f:=eJ)).symm] at e0;have e1:pv (w.setCell ⟨H,j,none⟩ (.int .i64 v)) {f with ints:=f.ints.set j v} [.int .i64 f.proc,.int .i64 f.pc,.slice (some ⟨H,0,none⟩) i ic,.slice S l lc] ([H]++M2):=
   ⟨some ⟨H,0,none⟩,i,ic,S,l,lc,[H],M2,rfl,rfl,by simpa using ak,hl,e0,aG.ai λb O=>ai b (d b (by simp[O]))⟩
  have e2:=d1 _ _ _ (λb O=>ai b (d b (by simp at O ⊢;rcases O with O|O<;>simp[O]))) e1;rw[List.set_append_right _ _ (Lb _),Nat.sub_self,List.set_cons_zero] at e2;have e3:oE (w.setCell ⟨H,j,none⟩ (.int .i64 v)) (fs++[{f with ints:=f.ints.set j v}]) _ _:=⟨some ⟨b5,0,none⟩,n,c,_,[b5],_,rfl,rfl,by simpa using bj,bl.ai λb O=>ai b (d b (by simp at O;simp[O])),e2⟩
  have cF:=c1 _ _ _ (λb O=>ai b (d b (by simp at O ⊢;rcases O with O|O<;>simp[O]))) e3;refine⟨H,rfl,aM,by simp,I _,⟨.int .i64 (f.ints[j]'ab),aq _ _ (by rw[List.getElem?_map,List.getElem?_eq_getElem ab];rfl)⟩,h.gl,h.tl,by simpa using h.hl,h.g.ai λb O=>ai b (d b (by simp[O])),h.t.ai λb O=>ai b (d b (by simp[O])),h.h.ai λb O=>ai b (d b (by simp at O;simp[O])),cF,nd⟩
 .have ai:∀b,b≠O->(w.setCell ⟨O,k,none⟩ (.slice (some ⟨b5,0,none⟩) fs.length c)).heap[b]?=w.heap[b]?:=λb h=>aN h;obtain⟨Y,hp,M⟩:=J.take pv.len fs.length;rw[List.take_left] at hp;have X:∀b∈Y,b∈bC++(e++(M2++bJ)):=λb O=>by have:=M.subset O;simpa[Lp] using this
  have e3:oE (w.setCell ⟨O,k,none⟩ (.slice (some ⟨b5,0,none⟩) fs.length c)) fs ([.slice (some ⟨b5,0,none⟩) n c].set 0 (.slice (some ⟨b5,0,none⟩) fs.length c)) ([b5]++Y):=
   ⟨some ⟨b5,0,none⟩,fs.length,c,_,[b5],Y,rfl,rfl,rfl,(bl.shorter (m:=fs.length) ab ab).ai λb O=>ai b (C b (by simp at O;simp[O])),hp.ai pv.ai λb O=>ai b (C b (by have:=X b O;simp at this ⊢;rcases this with h|h|h|h<;>simp[h]))⟩
  have cF:=c2 _ _ 0 (.slice (some ⟨b5,0,none⟩) fs.length c) _ (λb O=>ai b (C b (by simp at O ⊢;rcases O with O|O<;>simp[O]))) ab e3;rw[Nat.mul_one,Ll] at cF;refine⟨_,_,⟨h.gl,h.tl,by simpa using h.hl,h.g.ai λb O=>ai b (C b (by simp[O])),h.t.ai λb O=>ai b (C b (by simp[O])),E k _ ab,cF,?_⟩,λb O=>?_⟩
  .refine List.Sublist.nodup (l₂:=F1++(F2++([O]++(av++(([b5]++(bC++((e++M2)++bJ)))++g))))) ?_ nd;exact(List.Sublist.refl _).append ((List.Sublist.refl _).append ((List.Sublist.refl _).append ((List.Sublist.refl _).append (((List.Sublist.refl _).append M.sublist).append (List.Sublist.refl _)))))
  .simp only[Lk] at O ⊢;rcases O with O|(O|O)|O
   .exact .inl O
   .exact .inr (.inl (.inl O))
   .exact .inr (.inl (.inr (by have:=M.subset O;simpa only[Lk] using this)))
   .exact .inr (.inr O)
theorem ri.dw(h:ri w s GA gn gc TA tn tc HA hn hc xs F1 F2 L N){j:Nat}(bd:j<gn):∃bl,GA=some ⟨bl,0,none⟩/\bl<w.heap.size/\w.frozen? ⟨bl,j,none⟩=false/\(∃u,w.cell? ⟨bl,j,none⟩=some u)/\bl∈F1/\
  ∀v,ri (w.setCell ⟨bl,j,none⟩ (.int .i64 v)) {s with globals:=s.globals.set j v} GA gn gc TA tn tc HA hn hc xs F1 F2 L N:=by
 obtain⟨bl,a,I,b8,am,c,bJ⟩:=h.g.block ab;subst a I;have nd:=h.nd;have ng:∀b∈[]++(F2++(L++N)),b≠bl:=eA (by simpa using nd);have yM:=h.gl;refine⟨bl,rfl,b8,c _,⟨.int .i64 (s.globals[j]'ab),am _ _ (by rw[List.getElem?_map,List.getElem?_eq_getElem ab];rfl)⟩,by simp,λv=>?_⟩;have ai:∀b,b≠bl->(w.setCell ⟨bl,j,none⟩ (.int .i64 v)).heap[b]?=w.heap[b]?:=λb O=>aN O;have e0:=bJ j (.int .i64 v) ab;rw[show (s.globals.map eJ).set j (.int .i64 v)=(s.globals.set j v).map eJ from (List.map_set (f:=eJ)).symm] at e0;exact⟨by simpa using h.gl,h.tl,h.hl,e0,h.t.ai λb O=>ai b (ng b (by simp[O])),h.h.ai λb O=>ai b (ng b (by simp[O])),h.hs.ai oE.ai λb O=>ai b (ng b (by simp[O])),nd⟩
theorem ri.I7(h:ri w s GA gn gc TA tn tc HA hn hc xs F1 F2 L N){T:List dn}{c:LP}{ai aV:Nat}(hT:w.ownsRow 0 95 2 (.slice c ai aV) ai (T.flatMap cG))(hl:ai=T.length)(hd:∀b∈bA c ai aV,b∉F1++(F2++(L++N))):
  ri w {s with table:=T} GA gn gc c ai aV HA hn hc xs F1 (bA c ai aV) L N:=by
 refine⟨h.gl,hl,h.hl,h.g,⟨hT,rfl⟩,h.h,h.hs,?_⟩;have nd:=h.nd;have n1:=List.nodup_append.1 nd;have n2:=List.nodup_append.1 n1.2.1;refine List.nodup_append.2 ⟨n1.1,List.nodup_append.2 ⟨?_,n2.2.1,λa aW b O ah=>?_⟩,λa aW b O ah=>?_⟩
 .unfold bA;cases (Value.slice c ai aV).ownBlock<;>simp
 .subst ah;exact hd a aW (by simp at O ⊢;rcases O with O|O<;>simp[O])
 .subst ah;rcases Lk.1 O with O|O
  .exact hd a O (by simp[aW])
  .exact n1.2.2 a aW a (by simp at O ⊢;rcases O with O|O<;>simp[O]) rfl
end
theorem xW(l:List Int):l.flatMap b5=l.map eJ:=Dn l
end Go.Proofs.YtflecliffjbleaaGreat

/- Part 16 of the proof. No condition of its own. -/
import Derived.Test.YtbkhhfajcgkpgaaGreatQ12
import Derived.Test.YtbkhhfajcgkpgaaGreatQ15
namespace Go.Proofs.YtbkhhfajcgkpgaaGreat
open Go.RowKit Go.Proofs.Tryz
set_option maxRecDepth 1000000
set_option maxHeartbeats 25600000
set_option linter.unusedVariables false
variable{cs:List Value}{p:Prop}{f:an}{u:av}
def ck(s:List UInt8)(T:List Tok)(k:Nat):Bool:=match T[k]? with
 | some t=>(t.kind == 4 || t.kind == 3) && decide (strOf t.text=strOf s)
 | none=>false
def sQ(q:Int)(T:List Tok)(k:Nat):Bool:=match T[k]? with
 | some t=>t.kind == q
 | none=>false
structure bY(w:World)(g:Nat)(A:Kr)(n c:Nat)(T:List Tok)(k deep:Nat):Prop where
 blk:af w g 131 #[.slice A n c,.int .i64 k,.int .i64 0,.int .i64 0,.int .i64 0,.int .i64 deep]
 sR:cC (EF qC) 4 w g A n T
 lt:k<n
 jm:n≤4001
section
variable {w ac:World} {g:Nat} {A:Kr} {n c:Nat} {T:List Tok} {k deep:Nat}
theorem bY.on{M:Nat→Prop}(h:bY w g A n c T k deep)(O:Fr M w ac)(hM:∀b,M b→g<b):bY ac g A n c T k deep:=
 ⟨h.blk.on O fun hm=>by have:=hM g hm;omega,h.sR.fS (O.below (aH h.blk.lt) fun b O hm=>by have:=hM b hm;omega),h.lt,h.jm⟩
theorem bY.ak(h:bY w g A n c T k deep)(O:Ext w ac):bY ac g A n c T k deep:=h.on O fun _ h=>h.elim
theorem bY.tok(h:bY w g A n c T k deep):∃(b o:Nat) (t:Tok),A=some ⟨b,o,none⟩∧b<g∧T[k]?=some t∧w.cell? ⟨b,o+k*4,none⟩=some (.int .i64 t.kind)∧w.cell? ⟨b,o+k*4+1,none⟩=some (.string (strOf t.text))∧w.cell? ⟨b,o+k*4+2,none⟩=some (.int .i64 t.num)∧w.cell? ⟨b,o+k*4+3,none⟩=some (.int .i64 t.pos):=by
 have hl:=h.sR.1;obtain⟨b,o,bk,O,hc⟩:=h.sR.2 (aH h.lt);have aj:k<T.length:=by have:=h.lt;omega
 have ht:T[k]?=some T[k]:=List.getElem?_eq_getElem aj;obtain⟨cs,rfl,_,bc⟩:=hc k _ ht;have c0:=bc 0 _ rfl;simp only[J0] at c0;exact⟨b,o,_,bk,O,ht,c0,bc 1 _ rfl,bc 2 _ rfl,bc 3 _ rfl⟩
end
theorem EX(a b:List UInt8):((strOf a).toList == (strOf b).toList)=decide (strOf a=strOf b):=by
 by_cases h:strOf a=strOf b
 ·rw[h];simp
 ·rw[sP h];simp[h]
namespace Bd
theorem fK(h:p:=by
 generalize hX:World.drew _=X;have aF:Ext w X:=hX▸(Kn.alloc _).drew;have aL:af X w.heap.size 147 #[.int .i64 t.kind,.string (strOf t.text),.int .i64 t.num,.int .i64 t.pos]:=hX▸Ko;have a2:=ad aF;have dw:=(aL.ak Kn)
 obtain⟨d0,ag,aR⟩:=aL.two;obtain⟨a0,ap,ak⟩:=(show af X g 131 _ from b4.ak aF).two;clear hX aF aL dw;have hv:(t.kind == 4 || t.kind == 3)=true→ck s T k=((strOf t.text).toList == (strOf s).toList):=fun h=>by rw[bu.o,h,EX,Bool.true_and]
 have d:(t.kind == 4 || t.kind == 3)=false→ck s T k=false:=fun h=>by rw[bu.o,h,Bool.false_and]
 have bX:=ai hv d;clear hv d;by_cases a9:t.kind=4
 ·have cF:(t.kind == 4)=true:=by simpa using a9
  clear a9;go_wp2_with(fail);go_ret;exact⟨ret_bool (bX.1 (by simp[cF])).symm,a2.o⟩
 ·have cF:(t.kind == 4)=false:=by simpa using a9
  clear a9;by_cases aT:t.kind=3
  ·have cv:(t.kind == 3)=true:=by simpa using aT
   clear aT;go_wp2_with(fail);go_ret;exact⟨ret_bool (bX.1 (by simp[cv])).symm,a2.o⟩
  ·have cv:(t.kind == 3)=false:=by simpa using aT
   clear aT;go_wp2_with(fail);go_ret;exact⟨ret_bool (bX.2 (by simp[cv,cF])).symm,a2.o⟩
 ):p:=h
end Bd
open Bd in
theorem lj(s:List UInt8)(g:Nat)(A:Kr)(n c:Nat)(T:List Tok)(k deep:Nat)(w:World)(h:bY w g A n c T k deep) :
  Calls prog 72 #[.pointer (some ⟨g,0,none⟩),.string (strOf s)] w fun e ac=>e=.returned (.bool (ck s T k))∧Ext w ac:=by
 obtain⟨b,o,t,rfl,O,ht,c0,c1,c2,c3⟩:=h.tok;have aw:=h.lt;have J:=h.jm;have bN:=h.blk.lt;have I:(0:Int)≤(k:Int):=ab;have cd:(k:Int)<(n:Int):=ab;have bv:b<w.heap.size:=ab;have f:ck s T k=((t.kind == 4 || t.kind == 3) && decide (strOf t.text=strOf s)):=by unfold ck;rw[ht]
 have bu:=ad f;obtain⟨a0,ap,ak⟩:=h.blk.two;have b4:=ad h.blk;clear h f ht;go_enter func72,ntmps72;go_upto_region 1 with(fail);refine eE (fun _=>False) [(0,3),(1,3),(2,3),(3,0),(4,3),(5,3),(6,3),(7,0),(8,3),(9,0),(10,1),(11,2)] ?_
 iterate 3 refine pf ?_
 refine ph ?_
 iterate 3 refine pf ?_
 refine ph ?_;refine pf ?_;refine ph ?_;refine ru ?_;exact fJ
theorem dj(s:List UInt8)(g:Nat)(A:Kr)(n c:Nat)(T:List Tok)(k deep:Nat)(w:World)(h:bY w g A n c T k deep)(q:Bool)(bm:ck s T k=q)(aj:q=true→k+1<n) :
  Calls prog 74 #[.pointer (some ⟨g,0,none⟩),.string (strOf s)] w fun e ac=>e=.returned (.bool q)∧bY ac g A n c T (if q=true then k+1 else k) deep∧Fr (fun b=>b=g) w ac:=by
 obtain⟨H,ce⟩:=aM h bm;have aw:=h.lt;have J:=h.jm;clear h bm
 cases q with
 | false=>
  go_enter func74,ntmps74;go_wp2_with(fail);refine(lj s g A n c T k deep w H.o).mono ?_;rintro e aN ⟨rfl,aF⟩;rw[ce.o];have H1:=ai (H.ak aF) aF;clear aF aj;go_wp2_with(fail);go_ret
  exact⟨rfl,by simpa using H1.1,H1.2.mono fun _ h=>h.elim⟩
 | true=>
  have cn:=aj rfl;clear aj;go_enter func74,ntmps74;go_wp2_with(fail);refine(lj s g A n c T k deep w H.o).mono ?_;rintro e aN ⟨rfl,aF⟩;rw[ce.o];have H1:=ai (H.ak aF) aF;obtain⟨a0,ap,ak⟩:=H1.1.blk.two;clear aF;go_wp2_with(fail);go_ret;have aD:Fr (fun b=>b=g) aN (aN.setCell ⟨g,1,none⟩ (.int .i64 ((k:Int)+1))):=(Fr.refl (fun b=>b=g) aN).setCell (.inl rfl) _;refine⟨rfl,⟨?_,H1.1.sR.fS (aD.below (aH H1.1.blk.lt) fun b O hm=>ab),by simpa using cn,J⟩,(H1.2.mono fun _ h=>h.elim).trans aD⟩;exact H1.1.blk.aC 1 (.int .i64 ((k:Int)+1))
theorem mz(s:List UInt8)(g:Nat)(A:Kr)(n c:Nat)(T:List Tok)(k deep:Nat)(w:World)(h:bY w g A n c T k deep)(bm:ck s T k=true)(aj:k+1<n) :
  Calls prog 110 #[.pointer (some ⟨g,0,none⟩),.string (strOf s)] w fun e ac=>e=.returned (.tuple #[])∧bY ac g A n c T (k+1) deep∧Fr (fun b=>b=g) w ac:=by
 obtain⟨H,ce⟩:=aM h bm;clear h bm;go_enter func110,ntmps110;go_wp2_with(fail);refine(dj s g A n c T k deep w H.o true ce.o (fun _=>aj)).mono ?_;rintro e aN ⟨rfl,aY,hF⟩;have H1:=ai aY hF;clear aY hF;go_wp2_with(fail);refine bodyPost_end (v:=.tuple #[]) (by simp[results,Tryz.results110,go_sem]) rfl ?_;exact⟨rfl,by simpa using H1.1,H1.2⟩
theorem ox(q:Int)(g:Nat)(A:Kr)(n c:Nat)(T:List Tok)(k deep:Nat)(w:World)(h:bY w g A n c T k deep) :
  Calls prog 71 #[.pointer (some ⟨g,0,none⟩),.int .i64 q] w fun e ac=>e=.returned (.bool (sQ q T k))∧Ext w ac:=by
 obtain⟨b,o,t,rfl,O,ht,c0,c1,c2,c3⟩:=h.tok;have aw:=h.lt;have J:=h.jm;have bN:=h.blk.lt;have I:(0:Int)≤(k:Int):=ab;have cd:(k:Int)<(n:Int):=ab;have bv:b<w.heap.size:=ab;have f:sQ q T k=(t.kind == q):=by unfold sQ;rw[ht]
 have bu:=ad f;obtain⟨a0,ap,ak⟩:=h.blk.two;clear h f ht;go_enter func71,ntmps71;go_upto_region 1 with(fail);refine eE (fun _=>False) [(0,3),(1,3),(2,3),(3,0),(4,3),(5,3),(6,3),(7,3),(8,3),(9,0),(10,3),(11,3),(12,3),(13,0),(14,3),(15,3),(16,0),(17,3),(18,3),(19,3),(20,3)] ?_
 iterate 3 refine pf ?_
 refine ph ?_
 iterate 5 refine pf ?_
 refine ph ?_
 iterate 3 refine pf ?_
 refine ph ?_
 iterate 2 refine pf ?_
 refine ph ?_
 iterate 4 refine pf ?_
 refine aA ?_;go_wp2_with(fail);go_ret;exact⟨ret_bool bu.symm,Kn.drew⟩
theorem oy(g:Nat)(A:Kr)(n c:Nat)(T:List Tok)(k deep:Nat)(w:World)(t:Tok)(h:bY w g A n c T k deep)(ht:T[k]?=some t)(bm:t.kind=1)(aj:k+1<n) :
  Calls prog 77 #[.pointer (some ⟨g,0,none⟩)] w fun e ac=>e=.returned (.string (strOf t.text))∧bY ac g A n c T (k+1) deep∧Fr (fun b=>b=g) w ac:=by
 have H:=ad h;have d:sQ 1 T k=true:=by unfold sQ;rw[ht];simp[bm]
 obtain⟨ce,L⟩:=aM d ht;have J:=h.jm;clear h d bm ht;go_enter func77,ntmps77;go_wp2_with(fail);refine(ox 1 g A n c T k deep w H.o).mono ?_;rintro e aN ⟨rfl,aF⟩;rw[ce.o];have H1:=ai (H.ak aF) aF;obtain⟨a0,ap,ak⟩:=H1.1.blk.two;clear aF;go_upto_region 5 with(fail);generalize hX:World.setCell _ _ _=X;have aD:Fr (fun b=>b=g) aN X:=hX▸(Fr.refl (fun b=>b=g) aN).setCell (.inl rfl) _;have aY:bY X g A n c T (k+1) deep:=by
  rw[←hX];have aD:Fr (fun b=>b=g) aN (aN.setCell ⟨g,1,none⟩ (.int .i64 ((k:Int)+1))):=(Fr.refl (fun b=>b=g) aN).setCell (.inl rfl) _;exact⟨H1.1.blk.aC 1 (.int .i64 ((k:Int)+1)),H1.1.sR.fS (aD.below (aH H1.1.blk.lt) fun b O hm=>ab),aj,J⟩
 have aP:=ai aY ((H1.2.mono fun _ h=>h.elim).trans aD);obtain⟨b,o,f,rfl,O,j,c0,c1,c2,c3⟩:=H1.1.tok;have R:f=t:=by
  have:=L.o;rw[j] at this;injection this
 subst R;have bN:=aY.blk.lt;have bv:b<X.heap.size:=ab;have ed:¬b=g:=ab;have c1:X.cell? ⟨b,o+k*4+1,none⟩=some (.string (strOf f.text)):=(aD.cell (aH H1.1.blk.lt) ed).trans c1;clear a0 ap ak c0 c2 c3 hX aD;obtain⟨a0,ap,ak⟩:=aY.blk.two;have I:(0:Int)≤(k:Int):=ab;have cd:(k:Int)<(n:Int):=ab;have i:(k:Int)≤4001:=ab;clear aY j;refine eE (fun _=>False) [(0,3),(1,3),(2,3),(3,0),(4,3),(5,3),(6,3),(7,0),(8,3),(9,3),(10,3),(11,0),(12,3)] ?_
 iterate 3 refine pf ?_
 refine ph ?_
 iterate 3 refine pf ?_
 refine ph ?_;refine pf ?_;rw[show IntKind.i64.wrap ((k:Nat):Int)=(k:Int) from IntWalk.i64_in _ ab]
 iterate 2 refine pf ?_
 refine ph ?_;refine pf ?_;refine aA ?_;go_wp2_with(fail);go_ret;exact⟨rfl,aP.1.ak Kn.drew,aP.2.drew⟩
structure hk where
 proc:Int
 aw:List Int
def ff(i:hk):D:=.st [.i i.proc,.sl (i.aw.map .i)]
theorem kk{w:World}{P:Nat→Prop}{i:hk}:(ff i).rep w P cs↔∃A c n,cs=[.int .i64 i.proc,.slice A n c]∧n≤c∧Sl w P A n (i.aw.map .i):=by
 unfold ff;simp only[D.rep];rw[aZ];constructor
 ·rintro⟨f,rfl,h⟩;obtain⟨A,n,c,y,rfl,hc,hs,a4⟩:=aD.1 h;rw[aJ] at a4;subst a4;exact⟨A,c,n,rfl,hc,hs⟩
 ·rintro⟨A,c,n,rfl,hc,hs⟩;exact Cf
theorem Sl.vt{w:World}{P:Nat→Prop}{A:Kr}{n:Nat}{l:List hk}(h:Sl w P A n (l.map ff)){k:Nat}(aj:k<n):
  ∃b o x cl ck ct,A=some ⟨b,o,none⟩∧P b∧l[k]?=some x∧w.cell? ⟨b,o+k*2,none⟩=some (.int .i64 x.proc)∧w.cell? ⟨b,o+k*2+1,none⟩=some (.slice cl ck ct)∧ck≤ct∧Sl w P cl ck (x.aw.map .i):=by
 obtain⟨b,o,x,cs,bk,O,hx,aU,hl,hc⟩:=Sl.gN (z:=2) h (fun _=>rfl) aj;obtain⟨cl,ct,ck,rfl,ae,aC⟩:=kk.1 aU;exact⟨b,o,x,cl,ck,ct,bk,O,hx,hc 0 _ rfl,hc 1 _ rfl,ae,aC⟩
namespace AG
theorem zR(h:p:=by
 refine aq rfl (fun K hK=>?_);go_simp;refine eD hK ?_;clear hK K;refine pf ?_;refine aA ?_;go_wp2_with(fail);go_roundw
 case rel=>exact⟨k+1,ab,by go_num,br.drew⟩
 case measure=>exact aB
 ):p:=h
end AG
open AG in
theorem pt(IA:Kr)(n ic:Nat)(bI:Kr)(bZ bO:Nat)(cj:Kr)(bc rc:Nat)(L:List hk)(x:hk)(cl:Kr)(ck ct:Nat)(w:World)
  (bR:Sl w (au w) IA n (L.map ff)) (hx:Sl w (au w) cl ck (x.aw.map .i)) (hn:n≤1000000) (aj:∀i∈L,i.aw.length≤1000000) :
  Calls prog 99 #[.agg #[.slice IA n ic,.slice bI bZ bO,.slice cj bc rc],.agg #[.int .i64 x.proc,.slice cl ck ct]] w fun e ac=>∃r:Int,e=.returned (.int .i64 r)∧-1≤r∧r<n∧Ext w ac:=by
 obtain⟨bK,aP,cm⟩:=ez bR hx aj;obtain⟨ea,da⟩:=x;simp only at aP ⊢;clear bR hx aj;go_enter func99,ntmps99;go_wp2_with(fail);generalize bg:World.alloc _ _=W;have aF:Ext w W:=bg▸(Kn.alloc _).alloc _;have aL:af W w.heap.size 75 #[.slice IA n ic,.slice bI bZ bO,.slice cj bc rc]:=bg▸(Ko).alloc _;have bH:af W (w.heap.size+1) 177 #[.int .i64 ea,.slice cl ck ct]:=bg▸af.ct _ _ _ (by simp);obtain⟨a2,bs,bY⟩:=ez aF aL bH;clear bg aF aL bH;go_loopw [5] (fun i wr=>∃k:Nat,k≤n∧i=.int .i64 k∧Ext W wr) (fun i _=>n - (intOf i).toNat)
 case atStart=>exact⟨0,Kc _,rfl,Kn⟩
 case round=>
  obtain⟨k,aj,rfl,he⟩:=hrel;have br:=ad he;have bF:=bs.ak he;have bx:=bY.ak he;obtain⟨G,j⟩:=aM bF bx;obtain⟨a0,ap,ak⟩:=bF.two;obtain⟨a6,am,aI⟩:=bx.two;clear he bF bx;by_cases aw:k<n
  ·obtain⟨b,o,y,cC,cI,cD,rfl,an,a4,c0,c1,co,cv⟩:=(bK.on (Fr.ext (a2.trans br.o))).vt aw;obtain⟨g,l⟩:=y;simp only at c0 cv;have d:cI≤140737488355328:=by have:=cm.o _ (JT a4);have:=cv.1;simp at this;simp at *;omega
   have I:(0:Int)≤(k:Int):=ab;have cd:(k:Int)<(n:Int):=ab;have c8:=ad cv;have c7:=ad (aP.on (Fr.ext (a2.trans br.o)));have f:=ad d;clear a4 cv d co;by_cases hp:g=ea
   ·have bV:(g == ea)=true:=by simp[hp]
    clear hp;go_upto_region 4 with(fail);refine eE (fun _=>False) [(0,3),(1,0),(2,3),(3,3),(4,3),(5,0),(6,3),(7,0),(8,3),(9,3),(10,3),(11,0),(12,3),(13,3),(14,3),(15,0),(16,3),(17,0),(18,2),(19,3)] ?_;refine pf ?_;refine ph ?_
    iterate 3 refine pf ?_
    refine ph ?_;refine pf ?_;refine ph ?_
    iterate 3 refine pf ?_
    refine ph ?_
    iterate 3 refine pf ?_
    refine ph ?_;refine pf ?_;refine ph ?_;refine aq rfl (fun K hK=>?_);go_simp;refine(jT cC cl cI cD ck ct l da wr.drew (c8.on (Fr.ext Kn.drew)) (c7.on (Fr.ext Kn.drew)) f.o).mono ?_;rintro e aN ⟨rfl,ar⟩;have J:=ad (br.trans (Fr.aO (Fr.of ar)));clear ar a0 ap ak a6 am aI c0 c1;generalize decide (l=da)=q;refine eD hK ?_;clear hK K;refine pf ?_;refine aA ?_;cases q
    ·go_wp2_with(fail);go_roundw
     case rel=>exact⟨k+1,ab,by go_num,J.o⟩
     case measure=>exact aB
    ·go_wp2_with(fail);go_ret;exact⟨k,rfl,ab,ab,a2.trans J.o⟩
   ·have bV:(g == ea)=false:=by simp[hp]
    clear hp;go_upto_region 4 with(fail);refine eE (fun _=>False) [(0,3),(1,0),(2,3),(3,3),(4,3),(5,0),(6,3),(7,0),(8,3),(9,3),(10,3),(11,0),(12,3),(13,3),(14,3),(15,0),(16,3),(17,0),(18,2),(19,3)] ?_;refine pf ?_;refine ph ?_
    iterate 3 refine pf ?_
    refine ph ?_;refine pf ?_;refine ph ?_
    iterate 2 refine pf ?_
    refine c9 rfl (by rfl) ?_
    try simp only[PU]
    refine hW rfl (by rfl) ?_;exact zQ
  ·obtain rfl:k=n:=ab;go_wp2_with(fail);go_ret;exact⟨-1,rfl,ab,ab,a2.trans br.o⟩
structure E7(w:World)(P:Nat→Prop)(x:ay)(cs:List Value)(eo en:Int)(es:ByteArray)(EA:Kr)(em ec:Nat)(QA:Kr)(qm qc:Nat)(IA:Kr)(i ic:Nat)(KA:Kr)(k kc:Nat):Prop where
 cells:cs=[.int .i64 x.op,.int .i64 x.target,.bool x.c8,.int .i64 eo,.int .i64 en,.string es,.slice EA em ec,.bool x.place.param,.int .i64 x.place.index,.slice QA qm qc,.slice IA i ic,.slice KA k kc]
 expr:(nZ x.expr).rep w P [.int .i64 eo,.int .i64 en,.string es,.slice EA em ec]
 place:(de x.place).rep w P [.bool x.place.param,.int .i64 x.place.index,.slice QA qm qc]
 ints:Sl w P IA i (x.ints.map bb)
 Gv:i≤ic
 places:Sl w P KA k (x.places.map de)
 Gy:k≤kc
theorem vj{w:World}{P:Nat→Prop}{x:ay}(h:(dP x).rep w P cs):∃eo en es EA em ec QA qm qc IA i ic KA k kc,E7 w P x cs eo en es EA em ec QA qm qc IA i ic KA k kc:=by
 unfold dP at h;rw[bu,aZ] at h;obtain⟨y,rfl,h⟩:=h;rw[aZ] at h;obtain⟨y,rfl,h⟩:=h;rw[eX] at h;obtain⟨y,rfl,h⟩:=h;simp only[D.aI] at h;obtain⟨ce,bm,rfl,he,c,aa,rfl,hp,ci,cI,rfl,al,b,a,rfl,aj,rfl⟩:=h;obtain⟨eo,en,es,EA,em,ec,rfl⟩:=pk he;obtain⟨QA,qm,qc,rfl,_,_⟩:=ej.1 hp;obtain⟨IA,ic,i,rfl,aA,al⟩:=D.sM.1 al;obtain⟨KA,kc,k,rfl,aw,aj⟩:=D.sM.1 aj;exact⟨eo,en,es,EA,em,ec,QA,qm,qc,IA,i,ic,KA,k,kc,rfl,he,hp,al,aA,aj,aw⟩
theorem CA(p:c6):(fN p).sz=5:=rfl
theorem tr{w:World}{P:Nat→Prop}{p:c6}(h:(fN p).rep w P cs):∃A n c,cs=[.string p.name,.int .i64 p.ints,.int .i64 p.aw,.int .i64 p.locals,.slice A n c]∧n≤c∧Sl w P A n (p.code.map dP):=by
 unfold fN at h;rw[bu,b9] at h;obtain⟨y,rfl,h⟩:=h;exact Fw
structure g5(w:World)(P:Nat→Prop)(u:av)(GA:Kr)(gn:Nat)(MA:Kr)(mn:Nat)(PA:Kr)(pn:Nat):Prop where
 g:Sl w P GA gn (u.globals.map .i)
 m:Sl w P MA mn (u.ae.map dZ)
 p:Sl w P PA pn (u.procs.map fN)
theorem lK{w:World}{P:Nat→Prop}(h:(ts u).rep w P cs):∃GA gn gc MA mn mc PA pn pc,cs=[.slice GA gn gc,.slice MA mn mc,.slice PA pn pc,.int .i64 u.main]∧gn≤gc∧mn≤mc∧pn≤pc∧g5 w P u GA gn MA mn PA pn:=by
 unfold ts at h;rw[bu] at h;obtain⟨A,n,c,y,rfl,hc,hs,h⟩:=aD.1 h;obtain⟨A2,n2,c2,bm,rfl,bJ,bz,h⟩:=aD.1 h;obtain⟨cf,n3,c3,aa,rfl,am,cu,h⟩:=aD.1 h;obtain⟨cI,rfl,a9⟩:=aZ.1 h;rw[aJ] at a9;subst a9;exact⟨A,n,c,A2,n2,c2,cf,n3,c3,rfl,hc,bJ,am,hs,bz,cu⟩
theorem g5.on{w ac:World}{u:av}{GA:Kr}{gn:Nat}{MA:Kr}{mn:Nat}{PA:Kr}{pn:Nat}(h:g5 w (au w) u GA gn MA mn PA pn)(he:Ext w ac):g5 ac (au ac) u GA gn MA mn PA pn:=
 ⟨h.g.on (Fr.ext he),h.m.on (Fr.ext he),h.p.on (Fr.ext he)⟩
theorem g5.proc{w:World}{P:Nat→Prop}{GA:Kr}{gn:Nat}{MA:Kr}{mn:Nat}{PA:Kr}{pn:Nat}(h:g5 w P u GA gn MA mn PA pn){k:Nat}(aj:k<pn):
  ∃b o p bI n c,PA=some ⟨b,o,none⟩∧P b∧u.procs[k]?=some p∧w.cell? ⟨b,o+k*5,none⟩=some (.string p.name)∧w.cell? ⟨b,o+k*5+1,none⟩=some (.int .i64 p.ints)∧w.cell? ⟨b,o+k*5+2,none⟩=some (.int .i64 p.aw)∧
   w.cell? ⟨b,o+k*5+3,none⟩=some (.int .i64 p.locals)∧w.cell? ⟨b,o+k*5+4,none⟩=some (.slice bI n c)∧n≤c∧Sl w P bI n (p.code.map dP):=by
 obtain⟨b,o,p,cs,bk,O,hp,aU,hl,hc⟩:=Sl.gN (z:=5) h.p CA aj;obtain⟨bI,n,c,rfl,ae,aC⟩:=tr aU;exact⟨b,o,p,bI,n,c,bk,O,hp,hc 0 _ rfl,hc 1 _ rfl,hc 2 _ rfl,hc 3 _ rfl,hc 4 _ rfl,ae,aC⟩
theorem Sl.CP{w:World}{P:Nat→Prop}{A:Kr}{n:Nat}{l:List ay}(h:Sl w P A n (l.map dP)){k:Nat}(aj:k<n):
  ∃b o x cs eo en es EA em ec QA qm qc IA i ic KA m mc,A=some ⟨b,o,none⟩∧P b∧l[k]?=some x∧E7 w P x cs eo en es EA em ec QA qm qc IA i ic KA m mc∧∀j v,cs[j]?=some v→w.cell? ⟨b,o+k*12+j,none⟩=some v:=by
 obtain⟨b,o,x,cs,bk,O,hx,aU,hl,hc⟩:=Sl.gN (z:=12) h mf aj;obtain⟨eo,en,es,EA,em,ec,QA,qm,qc,IA,i,ic,KA,m,mc,al⟩:=vj aU;exact⟨b,o,x,cs,eo,en,es,EA,em,ec,QA,qm,qc,IA,i,ic,KA,m,mc,bk,O,hx,al,hc⟩
theorem Sl.sF{w:World}{P:Nat→Prop}{A:Kr}{n:Nat}{l:List bC}(h:Sl w P A n (l.map de)){k:Nat}(aj:k<n):
  ∃b o x QA m c,A=some ⟨b,o,none⟩∧P b∧l[k]?=some x∧w.cell? ⟨b,o+k*3,none⟩=some (.bool x.param)∧w.cell? ⟨b,o+k*3+1,none⟩=some (.int .i64 x.index)∧w.cell? ⟨b,o+k*3+2,none⟩=some (.slice QA m c)∧m≤c∧Sl w P QA m (x.at_.toList.map bb):=by
 obtain⟨b,o,x,cs,bk,O,hx,aU,hl,hc⟩:=Sl.gN (z:=3) h (fun _=>rfl) aj;obtain⟨QA,m,c,rfl,ae,aC⟩:=ej.1 aU;exact⟨b,o,x,QA,m,c,bk,O,hx,hc 0 _ rfl,hc 1 _ rfl,hc 2 _ rfl,ae,aC⟩
def lL(u:av)(i:hk):Prop:=∃p,0≤i.proc∧u.procs[i.proc.toNat]?=some p∧(i.aw.length:Int)=p.aw
structure l1(w:World)(P:Nat→Prop)(s:ah)(GA:Kr)(gn:Nat)(TA:Kr)(tn:Nat)(HA:Kr)(hn:Nat):Prop where
 g:Sl w P GA gn (s.globals.map .i)
 t:Sl w P TA tn (s.table.map me)
 h:Sl w P HA hn (s.threads.map mg)
section
variable {w ac:World} {P bb:Nat→Prop} {s:ah} {GA TA HA:Kr} {gn gc tn tc hn hc:Nat}
theorem l1.on(h:l1 w (au w) s GA gn TA tn HA hn)(he:Ext w ac):l1 ac (au ac) s GA gn TA tn HA hn:=⟨h.g.on (Fr.ext he),h.t.on (Fr.ext he),h.h.on (Fr.ext he)⟩
theorem l1.mono(h:l1 w P s GA gn TA tn HA hn)(hp:∀b,P b→bb b):l1 w bb s GA gn TA tn HA hn:=⟨h.g.mono hp,h.t.mono hp,h.h.mono hp⟩
theorem gO:(hh f).rep w P cs↔∃IA i ic bj l lc,cs=[.int .i64 f.proc,.int .i64 f.pc,.slice IA i ic,.slice bj l lc]∧i≤ic∧l≤lc∧Sl w P IA i (f.ints.map D.i)∧Sl w P bj l (f.aw.map D.i):=by
 unfold hh;rw[bu];constructor
 ·intro h;obtain⟨y,rfl,ae⟩:=aZ.1 h;obtain⟨cr,rfl,aC⟩:=aZ.1 ae;obtain⟨A,n,c,bm,rfl,hc,hs,aT⟩:=aD.1 aC;obtain⟨A2,n2,c2,aa,rfl,bJ,bz,a9⟩:=aD.1 aT;rw[aJ] at a9;subst a9;exact⟨A,n,c,A2,n2,c2,rfl,hc,bJ,hs,bz⟩
 ·rintro⟨A,n,c,A2,n2,c2,rfl,hc,bJ,hs,bz⟩;exact aZ.2 ⟨_,rfl,aZ.2 ⟨_,rfl,aD.2 ⟨A,n,c,_,rfl,hc,hs,aD.2 ⟨A2,n2,c2,_,rfl,bJ,bz,aJ.2 rfl⟩⟩⟩⟩
theorem Ed(f:an):(hh f).sz=4:=rfl
theorem Ee(t:List an):(mg t).sz=1:=rfl
theorem e5{t:List an}:(mg t).rep w P cs↔∃A n c,cs=[.slice A n c]∧n≤c∧Sl w P A n (t.map hh):=by
 unfold mg;rw[bu];constructor
 ·intro h;obtain⟨A,n,c,y,rfl,hc,hs,ae⟩:=aD.1 h;rw[aJ] at ae;subst ae;exact⟨A,n,c,rfl,hc,hs⟩
 ·rintro⟨A,n,c,rfl,hc,hs⟩;exact aD.2 ⟨A,n,c,_,rfl,hc,hs,aJ.2 rfl⟩
theorem Sl.xv{A:Kr}{n:Nat}{l:List (List an)}(h:Sl w P A n (l.map mg)){k:Nat}(aj:k<n):
  ∃b o t FA m c,A=some ⟨b,o,none⟩∧P b∧l[k]?=some t∧w.cell? ⟨b,o+k,none⟩=some (.slice FA m c)∧m≤c∧Sl w P FA m (t.map hh):=by
 obtain⟨b,o,t,cs,bk,O,hx,aU,_,hc⟩:=Sl.gN (z:=1) h Ee aj;obtain⟨FA,m,c,rfl,ae,aC⟩:=e5.1 aU;have aT:=hc 0 _ rfl;simp only[Nat.mul_one,J0] at aT;exact⟨b,o,t,FA,m,c,bk,O,hx,aT,ae,aC⟩
theorem Sl.Hy{A:Kr}{n:Nat}{l:List an}(h:Sl w P A n (l.map hh)){k:Nat}(aj:k<n):
  ∃b o f IA i ic bj m lc,A=some ⟨b,o,none⟩∧P b∧l[k]?=some f∧w.cell? ⟨b,o+k*4,none⟩=some (.int .i64 f.proc)∧w.cell? ⟨b,o+k*4+1,none⟩=some (.int .i64 f.pc)∧w.cell? ⟨b,o+k*4+2,none⟩=some (.slice IA i ic)∧
   w.cell? ⟨b,o+k*4+3,none⟩=some (.slice bj m lc)∧i≤ic∧m≤lc∧Sl w P IA i (f.ints.map D.i)∧Sl w P bj m (f.aw.map D.i):=by
 obtain⟨b,o,f,cs,bk,O,hx,aU,_,hc⟩:=Sl.gN (z:=4) h Ed aj;obtain⟨IA,i,ic,bj,m,lc,rfl,ae,aC,aT,a9⟩:=gO.1 aU;have cl:=hc 0 _ rfl;simp only[J0] at cl;exact⟨b,o,f,IA,i,ic,bj,m,lc,bk,O,hx,cl,hc 1 _ rfl,hc 2 _ rfl,hc 3 _ rfl,ae,aC,aT,a9⟩
end
abbrev bt(A:Kr)(n c:Nat):List Nat:=(Value.slice A n c).ownBlock.toList
structure Own(w:World)(e:TypeId)(z:Nat)(A:Kr)(n c:Nat)(xs:List Value)(F:List Nat):Prop where
 row:w.ownsRow 0 e z (.slice A n c) n xs
 eq:F=bt A n c
section
variable {w ac:World} {e:TypeId} {z n c:Nat} {A:Kr} {xs:List Value} {F:List Nat}
theorem Own.aj(h:Own w e z A n c xs F)(aj:∀b∈F,ac.heap[b]?=w.heap[b]?):Own ac e z A n c xs F:=by
 refine⟨⟨h.row.1,?_⟩,h.eq⟩;rcases h.row.2 with aC|⟨g,cap,cur,bD,O,aJ,rest⟩
 ·exact .inl aC
 ·exact .inr ⟨g,cap,cur,bD,O,(aj g (by rw[h.eq];unfold bt;rw[bD];simp[Value.ownBlock])).trans aJ,rest⟩
theorem Own.cap(h:Own w e z A n c xs F):n≤c:=by
 obtain⟨I,az,bD,ae,_⟩:=bs h.row;injection bD with _ _ bD;omega
theorem Own.lt(h:Own w e z A n c xs F):∀b∈F,b<w.heap.size:=fun b O=>by
 rw[h.eq] at O;exact(h.row.lt b (by simpa using O)).2
theorem Own.block(h:Own w e z A n c xs F)(hn:0<n):∃g,A=some ⟨g,0,none⟩∧F=[g]∧g<w.heap.size∧(∀j u,xs[j]?=some u→w.cell? ⟨g,j,none⟩=some u)∧(∀j,w.frozen? ⟨g,j,none⟩=false)∧
  ∀j u,j<n*z→Own (w.setCell ⟨g,j,none⟩ u) e z A n c (xs.set j u) F:=by
 obtain⟨g,bk,_,aw,hc,aD,hs⟩:=hR h.row hn;subst bk;exact⟨g,rfl,h.eq,aw,hc,aD,fun j u bc=>⟨hs j u bc,h.eq⟩⟩
theorem Own.sl{l:List D}{P:Nat→Prop}(h:Own w e z A n c xs F)(aU:D.aI w P l xs)(hl:l.length=n)(hF:∀b∈F,P b):Sl w P A n l:=
 Sl.pP h.row aU hl fun g aJ _ _=>hF g (by rw[h.eq,aJ];simp[Value.ownBlock])
theorem Own.shorter(h:Own w e z A n c xs F){m:Nat}(hm:m≤n)(hn:0<n):Own w e z A m c (xs.take (m*z)) F:=by
 refine⟨⟨by rw[List.length_take,h.row.1];exact Nat.min_eq_left (Nat.mul_le_mul_right _ hm),?_⟩,by rw[h.eq];cases A<;>rfl⟩;rcases h.row.2 with⟨_,aC⟩|⟨g,cap,cur,bD,O,aJ,ae,aC,aT,a9⟩
 ·omega
 ·injection bD with bk _ hc;subst bk hc;exact .inr ⟨g,c,cur,rfl,O,aJ,ab,aC,aT,by rw[←a9,List.take_take,Nat.min_eq_left (Nat.mul_le_mul_right _ hm)]⟩
end
def j1{α:Type}(E:World→α→List Value→List Nat→Prop)(w:World):List α→List Value→List Nat→Prop
 | [],xs,F=>xs=[]∧F=[]
 | a::l,xs,F=>∃x y F1 F2,xs=x++y∧F=F1++F2∧E w a x F1∧j1 E w l y F2
section
variable {α:Type} {E:World→α→List Value→List Nat→Prop} {z:Nat}
def wA(E:World→α→List Value→List Nat→Prop):Prop:=∀(w ac:World) (a:α) (x:List Value) (F:List Nat),E w a x F→(∀b∈F,ac.heap[b]?=w.heap[b]?)→E ac a x F
def yE(z:Nat)(E:World→α→List Value→List Nat→Prop):Prop:=∀(w:World) (a:α) (x:List Value) (F:List Nat),E w a x F→x.length=z
theorem j1.aj(aF:wA E){w ac:World}:∀{l:List α} {xs:List Value} {F:List Nat},j1 E w l xs F→(∀b∈F,ac.heap[b]?=w.heap[b]?)→j1 E ac l xs F
 | [],_,_,h,_=>h
 | a::l,xs,F,h,aj=>by
  obtain⟨x,y,F1,F2,rfl,rfl,ae,aC⟩:=h;exact⟨x,y,F1,F2,rfl,rfl,aF _ _ _ _ _ ae fun b O=>aj b (by simp[O]),j1.aj aF aC fun b O=>aj b (by simp[O])⟩
theorem j1.snoc{w:World}{a:α}{x:List Value}{f:List Nat}:∀{l:List α} {xs:List Value} {F:List Nat},j1 E w l xs F→E w a x f→j1 E w (l++[a]) (xs++x) (F++f)
 | [],_,_,⟨ae,aC⟩,he=>by
  subst ae aC
  exact⟨x,[],f,[],by simp,by simp,he,rfl,rfl⟩
 | b::l,xs,F,h,he=>by
  obtain⟨Z,y,F1,F2,rfl,rfl,ae,aC⟩:=h;exact⟨Z,y++x,F1,F2++f,by simp,by simp,ae,j1.snoc aC he⟩
theorem j1.len(bi:yE z E){w:World}:∀{l:List α} {xs:List Value} {F:List Nat},j1 E w l xs F→xs.length=l.length*z
 | [],_,_,⟨ae,_⟩=>by simp[ae]
 | a::l,xs,F,h=>by
  obtain⟨x,y,F1,F2,rfl,rfl,ae,aC⟩:=h;rw[JS,bi _ _ _ _ ae,j1.len bi aC,J3,Nat.succ_mul];omega
theorem j1.take{w:World}(bi:yE z E):∀{l:List α} {xs:List Value} {F:List Nat},j1 E w l xs F→∀k,∃F1,j1 E w (l.take k) (xs.take (k*z)) F1∧F1 <+: F
 | [],xs,F,⟨ae,aC⟩,k=>⟨[],by subst ae;simp[j1],by simp⟩
 | a::l,xs,F,h,0=>⟨[],by simp[j1],by simp⟩
 | a::l,xs,F,h,k+1=>by
  obtain⟨x,y,F1,F2,rfl,rfl,ae,aC⟩:=h;obtain⟨L,aT,a9⟩:=j1.take bi aC k;refine⟨F1++L,⟨x,y.take (k*z),F1,L,?_,rfl,ae,aT⟩,by simpa using a9⟩;have:=bi _ _ _ _ ae;rw[List.take_append,JY (by rw[this,Nat.succ_mul];omega),this,show (k+1)*z - z=k*z by rw[Nat.succ_mul];omega]
theorem j1.at_(aF:wA E)(bi:yE z E){w:World}:∀{l:List α} {xs:List Value} {F:List Nat},j1 E w l xs F→∀{k:Nat} {a:α},l[k]?=some a→
  ∃x F1 f F2,F=F1++(f++F2)∧E w a x f∧(∀j u,x[j]?=some u→xs[k*z+j]?=some u)∧
   (∀ac r d,(∀b∈F1++F2,ac.heap[b]?=w.heap[b]?)→E ac r x d→j1 E ac (l.set k r) xs (F1++(d++F2)))∧
   (∀ac r j u d,(∀b∈F1++F2,ac.heap[b]?=w.heap[b]?)→j<z→E ac r (x.set j u) d→j1 E ac (l.set k r) (xs.set (k*z+j) u) (F1++(d++F2)))
 | [],_,_,_,k,a,aj=>by simp at aj
 | b::l,xs,F,h,0,a,aj=>by
  obtain⟨x,y,F1,F2,rfl,rfl,ae,aC⟩:=h;simp only[List.getElem?_cons_zero,Ki] at aj;subst aj;have hx:=bi _ _ _ _ ae;refine⟨x,[],F1,F2,by simp,ae,fun j u bc=>?_,fun ac r d aj he=>⟨x,y,d,F2,rfl,by simp,he,j1.aj aF aC fun b O=>aj b (by simp[O])⟩,fun ac r j u d aj bc he=>⟨x.set j u,y,d,F2,?_,by simp,he,j1.aj aF aC fun b O=>aj b (by simp[O])⟩⟩
  ·rw[Nat.zero_mul,J8,List.getElem?_append_left (List.getElem?_eq_some_iff.1 bc).1];exact bc
  ·rw[Nat.zero_mul,J8,List.set_append_left _ _ ab]
 | b::l,xs,F,h,k+1,a,aj=>by
  obtain⟨br,y,g,Y,rfl,rfl,ae,aC⟩:=h;simp only[List.getElem?_cons_succ] at aj;have hx:=bi _ _ _ _ ae;obtain⟨x,F1,f,F2,rfl,aT,a9,cl,m⟩:=j1.at_ aF bi aC aj;have i:∀j,(k+1)*z+j=br.length+(k*z+j):=fun j=>by rw[hx,Nat.succ_mul];omega
  refine⟨x,g++F1,f,F2,by simp,aT,fun j u bc=>?_,fun ac r d aj he=>⟨br,y,g,F1++(d++F2),rfl,by simp,aF _ _ _ _ _ ae fun b O=>aj b (by simp[O]),cl ac r d (fun b O=>aj b (by simp at O ⊢;rcases O with O|O<;>simp[O])) he⟩,
   fun ac r j u d aj bc he=>⟨br,y.set (k*z+j) u,g,F1++(d++F2),?_,by simp,aF _ _ _ _ _ ae fun b O=>aj b (by simp[O]),m ac r j u d (fun b O=>aj b (by simp at O ⊢;rcases O with O|O<;>simp[O])) bc he⟩⟩
  ·rw[i,List.getElem?_append_right ab,Nat.add_sub_cancel_left];exact a9 j u bc
  ·rw[i,List.set_append_right _ _ ab,Nat.add_sub_cancel_left]
theorem j1.aI{w:World}{P:Nat→Prop}{enc:α→D}(aU:∀a x F,E w a x F→(∀b∈F,P b)→(enc a).rep w P x):∀{l:List α} {xs:List Value} {F:List Nat},j1 E w l xs F→(∀b∈F,P b)→D.aI w P (l.map enc) xs
 | [],_,_,⟨ae,_⟩,_=>by simp only[Kd,D.aI];exact ae
 | a::l,xs,F,h,aj=>by
  obtain⟨x,y,F1,F2,rfl,rfl,ae,aC⟩:=h;simp only[JW,D.aI];exact⟨x,y,rfl,aU _ _ _ ae fun b O=>aj b (by simp[O]),j1.aI aU aC fun b O=>aj b (by simp[O])⟩
end
abbrev eC:Int→Value:=Value.int .i64
def oJ(w:World)(f:an)(cs:List Value)(F:List Nat):Prop:=∃IA i ic bj l lc F1 F2,cs=[.int .i64 f.proc,.int .i64 f.pc,.slice IA i ic,.slice bj l lc]∧F=F1++F2∧
 i=f.ints.length∧l=f.aw.length∧Own w 3 1 IA i ic (f.ints.map eC) F1∧Own w 3 1 bj l lc (f.aw.map eC) F2
def nW(w:World)(fs:List an)(cs:List Value)(F:List Nat):Prop:=∃FA n c xs F1 F2,cs=[.slice FA n c]∧F=F1++F2∧n=fs.length∧Own w 100 4 FA n c xs F1∧j1 oJ w fs xs F2
structure qy(w:World)(s:ah)(GA:Kr)(gn gc:Nat)(TA:Kr)(tn tc:Nat)(HA:Kr)(hn hc:Nat)(xs:List Value)(F1 F2 L S:List Nat):Prop where
 gl:gn=s.globals.length
 tl:tn=s.table.length
 hl:hn=s.threads.length
 g:Own w 3 1 GA gn gc (s.globals.map eC) F1
 t:Own w 83 2 TA tn tc (s.table.flatMap cz) F2
 h:Own w 52 1 HA hn hc xs L
 hs:j1 nW w s.threads xs S
 nd:(F1++(F2++(L++S))).Nodup
theorem oJ.aj:wA oJ:=fun w ac a x F h aj=>by
 obtain⟨IA,i,ic,bj,l,lc,F1,F2,rfl,rfl,al,hl,ae,aC⟩:=h;exact⟨IA,i,ic,bj,l,lc,F1,F2,rfl,rfl,al,hl,ae.aj fun b O=>aj b (by simp[O]),aC.aj fun b O=>aj b (by simp[O])⟩
theorem oJ.len:yE 4 oJ:=fun w a x F h=>by
 obtain⟨IA,i,ic,bj,l,lc,F1,F2,rfl,_⟩:=h;rfl
theorem nW.aj:wA nW:=fun w ac a x F h aj=>by
 obtain⟨FA,n,c,xs,F1,F2,rfl,rfl,hn,ae,aC⟩:=h;exact⟨FA,n,c,xs,F1,F2,rfl,rfl,hn,ae.aj fun b O=>aj b (by simp[O]),aC.aj oJ.aj fun b O=>aj b (by simp[O])⟩
theorem nW.len:yE 1 nW:=fun w a x F h=>by
 obtain⟨FA,n,c,xs,F1,F2,rfl,_⟩:=h;rfl
theorem cy{w:World}{P:Nat→Prop}:∀(l:List Int),D.aI w P (l.map D.i) (l.map eC)
 | []=>by simp only[Kd,D.aI]
 | a::l=>by simp only[JW];exact aZ.2 ⟨_,rfl,cy l⟩
theorem dD{w:World}{P:Nat→Prop}:∀(l:List db),D.aI w P (l.map me) (l.flatMap cz)
 | []=>by simp only[Kd,D.aI,List.flatMap_nil]
 | a::l=>by
  simp only[JW,Ka,D.aI];exact⟨_,_,rfl,by unfold me;exact aZ.2 ⟨_,rfl,aZ.2 ⟨_,rfl,aJ.2 rfl⟩⟩,dD l⟩
theorem oJ.rep{w:World}{P:Nat→Prop}(f:an)(x:List Value)(F:List Nat)(h:oJ w f x F)(aY:∀b∈F,P b):(hh f).rep w P x:=by
 obtain⟨IA,i,ic,bj,l,lc,F1,F2,rfl,rfl,al,hl,ae,aC⟩:=h;exact gO.2 ⟨IA,i,ic,bj,l,lc,rfl,ae.cap,aC.cap,ae.sl (cy _) (by simp[al]) fun b O=>aY b (by simp[O]),aC.sl (cy _) (by simp[hl]) fun b O=>aY b (by simp[O])⟩
theorem nW.rep{w:World}{P:Nat→Prop}(t:List an)(x:List Value)(F:List Nat)(h:nW w t x F)(aY:∀b∈F,P b):(mg t).rep w P x:=by
 obtain⟨FA,n,c,xs,F1,F2,rfl,rfl,hn,ae,aC⟩:=h;exact e5.2 ⟨FA,n,c,rfl,ae.cap,ae.sl (aC.aI oJ.rep fun b O=>aY b (by simp[O])) (by simp[hn]) fun b O=>aY b (by simp[O])⟩
section
variable {w ac:World} {P bb:Nat→Prop} {s:ah} {GA TA HA:Kr} {gn gc tn tc hn hc:Nat} {xs:List Value} {F1 F2 L S:List Nat}
theorem qy.at_(h:qy w s GA gn gc TA tn tc HA hn hc xs F1 F2 L S)(aY:∀b∈F1++(F2++(L++S)),P b):l1 w P s GA gn TA tn HA hn:=
 ⟨h.g.sl (cy _) (by simp[h.gl]) fun b O=>aY b (by simp[O]),h.t.sl (dD _) (by simp[h.tl]) fun b O=>aY b (by simp[O]),h.h.sl (h.hs.aI nW.rep fun b O=>aY b (by simp[O])) (by simp[h.hl]) fun b O=>aY b (by simp[O])⟩
theorem qy.aj(h:qy w s GA gn gc TA tn tc HA hn hc xs F1 F2 L S)(aj:∀b∈F1++(F2++(L++S)),ac.heap[b]?=w.heap[b]?):qy ac s GA gn gc TA tn tc HA hn hc xs F1 F2 L S:=
 ⟨h.gl,h.tl,h.hl,h.g.aj fun b O=>aj b (by simp[O]),h.t.aj fun b O=>aj b (by simp[O]),h.h.aj fun b O=>aj b (by simp[O]),h.hs.aj nW.aj fun b O=>aj b (by simp[O]),h.nd⟩
end
theorem ep{A B:List Nat}{x:Nat}(h:(A++x::B).Nodup):∀b∈A++B,b≠x:=by
 intro b O he;subst he;have:=(List.perm_middle (a:=b) (l₁:=A) (l₂:=B)).nodup_iff.1 h;exact(List.nodup_cons.1 this).1 O
theorem kW{α:Type}{g:α→α}{x:α}:∀{l:List α} {k:Nat},l[k]?=some x→l.modify k g=l.set k (g x)
 | [],k,h=>by simp at h
 | a::l,0,h=>by simp at h;subst h;rfl
 | a::l,k+1,h=>by
  simp only[List.getElem?_cons_succ] at h;rw[List.modify_succ_cons,List.set_cons_succ,kW h]
theorem kh{α:Type}(l:List α)(x:α):(l++[x]).dropLast=l:=by simp
theorem aL{w:World}{p:Addr}{u:Value}{b:Nat}(h:b≠p.block):(w.setCell p u).heap[b]?=w.heap[b]?:=Below.heap_setCell w p u b h
section
variable {w ac:World} {P bb:Nat→Prop} {s:ah} {GA TA HA:Kr} {gn gc tn tc hn hc:Nat} {xs:List Value} {F1 F2 L S:List Nat}
theorem qy.top(h:qy w s GA gn gc TA tn tc HA hn hc xs F1 F2 L S){k:Nat}{fs:List an}(bm:s.threads[k]?=some (fs++[f])):
  ∃O b2 fc IA i ic bj l lc,HA=some ⟨O,0,none⟩∧k<hn∧O<w.heap.size∧b2<w.heap.size∧O∈L∧b2∈S∧i=f.ints.length∧l=f.aw.length∧
   w.cell? ⟨O,k,none⟩=some (.slice (some ⟨b2,0,none⟩) (fs.length+1) fc)∧fs.length+1≤fc∧
   w.cell? ⟨b2,fs.length*4,none⟩=some (.int .i64 f.proc)∧w.cell? ⟨b2,fs.length*4+1,none⟩=some (.int .i64 f.pc)∧w.cell? ⟨b2,fs.length*4+2,none⟩=some (.slice IA i ic)∧w.cell? ⟨b2,fs.length*4+3,none⟩=some (.slice bj l lc)∧
   (∀j,w.frozen? ⟨O,j,none⟩=false)∧(∀j,w.frozen? ⟨b2,j,none⟩=false)∧
   (∀v,qy (w.setCell ⟨b2,fs.length*4+1,none⟩ (.int .i64 v)) {s with threads:=s.threads.set k (fs++[{f with pc:=v}])} GA gn gc TA tn tc HA hn hc xs F1 F2 L S)∧
   (∀j v,j<i→∃H,IA=some ⟨H,0,none⟩∧H<w.heap.size∧H∈S∧w.frozen? ⟨H,j,none⟩=false∧(∃u,w.cell? ⟨H,j,none⟩=some u)∧qy (w.setCell ⟨H,j,none⟩ (.int .i64 v)) {s with threads:=s.threads.set k (fs++[{f with ints:=f.ints.set j v}])} GA gn gc TA tn tc HA hn hc xs F1 F2 L S)∧
   (∃C q,qy (w.setCell ⟨O,k,none⟩ (.slice (some ⟨b2,0,none⟩) fs.length fc)) {s with threads:=s.threads.set k fs} GA gn gc TA tn tc HA hn hc C F1 F2 L q∧∀b∈q,b∈S):=by
 obtain⟨x,av,K,g,R,aR,hx,c1,c2⟩:=h.hs.at_ nW.aj nW.len bm;obtain⟨FA,n,c,br,bp,a7,rfl,rfl,a3,a8,aD⟩:=aR;have bN:k<s.threads.length:=(List.getElem?_eq_some_iff.1 bm).1;have J:k<hn:=by rw[h.hl];exact bN
 have bB:n=fs.length+1:=by simpa using a3
 obtain⟨b2,rfl,rfl,ch,F,bK,aZ⟩:=a8.block ab;obtain⟨O,sj,bq,bO,o,t,A⟩:=h.h.block ab;obtain⟨y,aU,D,bE,rfl,B,a4,d1,d2⟩:=aD.at_ (k:=fs.length) (a:=f) oJ.aj oJ.len (by simp);obtain⟨IA,i,ic,bj,l,lc,e,M2,rfl,rfl,al,hl,r,N⟩:=B;subst R bq sj;have nd:=h.nd;have nf:∀b∈(F1++(F2++([O]++av)))++(aU++((e++M2)++(bE++g))),b≠b2:=ep (by simpa[J4] using nd);have z:∀b∈(F1++F2)++(av++(b2::(aU++(e++(M2++(bE++g)))))),b≠O:=ep (by simpa[J4] using nd);refine⟨O,b2,c,IA,i,ic,bj,l,lc,rfl,J,bO,ch,by simp,by simp,al,hl,?_,?_,?_,?_,?_,?_,t,bK,fun v=>?_,fun j v bc=>?_,?_⟩
 ·rw[←bB];have:=hx 0 _ rfl;rw[Nat.mul_one,J0] at this;exact o _ _ this
 ·rw[←bB];exact a8.cap
 ·exact F _ _ (by have:=a4 0 _ rfl;rwa [J0] at this)
 ·exact F _ _ (a4 1 _ rfl)
 ·exact F _ _ (a4 2 _ rfl)
 ·exact F _ _ (a4 3 _ rfl)
 ·have aj:∀b,b≠b2→(w.setCell ⟨b2,fs.length*4+1,none⟩ (.int .i64 v)).heap[b]?=w.heap[b]?:=fun b O=>aL O;have e1:oJ (w.setCell ⟨b2,fs.length*4+1,none⟩ (.int .i64 v)) {f with pc:=v} ([.int .i64 f.proc,.int .i64 f.pc,.slice IA i ic,.slice bj l lc].set 1 (.int .i64 v)) (e++M2):=
   ⟨IA,i,ic,bj,l,lc,e,M2,rfl,rfl,al,hl,r.aj fun b O=>aj b (nf b (by simp[O])),N.aj fun b O=>aj b (nf b (by simp[O]))⟩
  have e2:=d2 _ _ 1 (.int .i64 v) _ (fun b O=>aj b (nf b (by simp at O ⊢;rcases O with O|O<;>simp[O]))) ab e1;rw[List.set_append_right _ _ (JQ _),Nat.sub_self,List.set_cons_zero] at e2;have e3:nW (w.setCell ⟨b2,fs.length*4+1,none⟩ (.int .i64 v)) (fs++[{f with pc:=v}]) _ _:=⟨some ⟨b2,0,none⟩,n,c,_,[b2],_,rfl,rfl,by simpa using bB,aZ _ (.int .i64 v) (by rw[bB];omega),e2⟩
  have bs:=c1 _ _ _ (fun b O=>aj b (nf b (by simp at O ⊢;rcases O with O|O<;>simp[O]))) e3;exact⟨h.gl,h.tl,by simpa using h.hl,h.g.aj fun b O=>aj b (nf b (by simp[O])),h.t.aj fun b O=>aj b (nf b (by simp[O])),h.h.aj fun b O=>aj b (nf b (by simp at O;simp[O])),bs,nd⟩
 ·obtain⟨H,rfl,rfl,aM,aA,Q,aa⟩:=r.block ab;have d:∀b∈(F1++(F2++([O]++(av++(b2::aU)))))++(M2++(bE++g)),b≠H:=ep (by simpa[J4] using nd);have aj:∀b,b≠H→(w.setCell ⟨H,j,none⟩ (.int .i64 v)).heap[b]?=w.heap[b]?:=fun b O=>aL O;have e0:=aa j (.int .i64 v) ab;rw[show (f.ints.map eC).set j (.int .i64 v)=(f.ints.set j v).map eC from (List.map_set (f:=eC)).symm] at e0;have e1:oJ (w.setCell ⟨H,j,none⟩ (.int .i64 v)) {f with ints:=f.ints.set j v} [.int .i64 f.proc,.int .i64 f.pc,.slice (some ⟨H,0,none⟩) i ic,.slice bj l lc] ([H]++M2):=
   ⟨some ⟨H,0,none⟩,i,ic,bj,l,lc,[H],M2,rfl,rfl,by simpa using al,hl,e0,N.aj fun b O=>aj b (d b (by simp[O]))⟩
  have e2:=d1 _ _ _ (fun b O=>aj b (d b (by simp at O ⊢;rcases O with O|O<;>simp[O]))) e1;rw[List.set_append_right _ _ (JQ _),Nat.sub_self,List.set_cons_zero] at e2;have e3:nW (w.setCell ⟨H,j,none⟩ (.int .i64 v)) (fs++[{f with ints:=f.ints.set j v}]) _ _:=⟨some ⟨b2,0,none⟩,n,c,_,[b2],_,rfl,rfl,by simpa using bB,a8.aj fun b O=>aj b (d b (by simp at O;simp[O])),e2⟩
  have bs:=c1 _ _ _ (fun b O=>aj b (d b (by simp at O ⊢;rcases O with O|O<;>simp[O]))) e3;refine⟨H,rfl,aM,by simp,Q _,⟨.int .i64 (f.ints[j]'ab),aA _ _ (by rw[List.getElem?_map,List.getElem?_eq_getElem ab];rfl)⟩,h.gl,h.tl,by simpa using h.hl,h.g.aj fun b O=>aj b (d b (by simp[O])),h.t.aj fun b O=>aj b (d b (by simp[O])),h.h.aj fun b O=>aj b (d b (by simp at O;simp[O])),bs,nd⟩
 ·have aj:∀b,b≠O→(w.setCell ⟨O,k,none⟩ (.slice (some ⟨b2,0,none⟩) fs.length c)).heap[b]?=w.heap[b]?:=fun b h=>aL h;obtain⟨Y,hp,E⟩:=aD.take oJ.len fs.length;rw[List.take_left] at hp;have X:∀b∈Y,b∈aU++(e++(M2++bE)):=fun b O=>by have:=E.subset O;simpa[J4] using this
  have e3:nW (w.setCell ⟨O,k,none⟩ (.slice (some ⟨b2,0,none⟩) fs.length c)) fs ([.slice (some ⟨b2,0,none⟩) n c].set 0 (.slice (some ⟨b2,0,none⟩) fs.length c)) ([b2]++Y):=
   ⟨some ⟨b2,0,none⟩,fs.length,c,_,[b2],Y,rfl,rfl,rfl,(a8.shorter (m:=fs.length) ab ab).aj fun b O=>aj b (z b (by simp at O;simp[O])),hp.aj oJ.aj fun b O=>aj b (z b (by have:=X b O;simp at this ⊢;rcases this with h|h|h|h<;>simp[h]))⟩
  have bs:=c2 _ _ 0 (.slice (some ⟨b2,0,none⟩) fs.length c) _ (fun b O=>aj b (z b (by simp at O ⊢;rcases O with O|O<;>simp[O]))) ab e3;rw[Nat.mul_one,J0] at bs;refine⟨_,_,⟨h.gl,h.tl,by simpa using h.hl,h.g.aj fun b O=>aj b (z b (by simp[O])),h.t.aj fun b O=>aj b (z b (by simp[O])),A k _ ab,bs,?_⟩,fun b O=>?_⟩
  ·refine List.Sublist.nodup (l₂:=F1++(F2++([O]++(av++(([b2]++(aU++((e++M2)++bE)))++g))))) ?_ nd;exact(List.Sublist.refl _).append ((List.Sublist.refl _).append ((List.Sublist.refl _).append ((List.Sublist.refl _).append (((List.Sublist.refl _).append E.sublist).append (List.Sublist.refl _)))))
  ·simp only[JZ] at O ⊢;rcases O with O|(O|O)|O
   ·exact .inl O
   ·exact .inr (.inl (.inl O))
   ·exact .inr (.inl (.inr (by have:=E.subset O;simpa only[JZ] using this)))
   ·exact .inr (.inr O)
theorem qy.c8(h:qy w s GA gn gc TA tn tc HA hn hc xs F1 F2 L S){j:Nat}(bc:j<gn):∃aB,GA=some ⟨aB,0,none⟩∧aB<w.heap.size∧w.frozen? ⟨aB,j,none⟩=false∧(∃u,w.cell? ⟨aB,j,none⟩=some u)∧aB∈F1∧
  ∀v,qy (w.setCell ⟨aB,j,none⟩ (.int .i64 v)) {s with globals:=s.globals.set j v} GA gn gc TA tn tc HA hn hc xs F1 F2 L S:=by
 obtain⟨aB,a,I,bN,al,c,a4⟩:=h.g.block ab;subst a I;have nd:=h.nd;have ng:∀b∈[]++(F2++(L++S)),b≠aB:=ep (by simpa using nd);have xW:=h.gl;refine⟨aB,rfl,bN,c _,⟨.int .i64 (s.globals[j]'ab),al _ _ (by rw[List.getElem?_map,List.getElem?_eq_getElem ab];rfl)⟩,by simp,fun v=>?_⟩;have aj:∀b,b≠aB→(w.setCell ⟨aB,j,none⟩ (.int .i64 v)).heap[b]?=w.heap[b]?:=fun b O=>aL O;have e0:=a4 j (.int .i64 v) ab;rw[show (s.globals.map eC).set j (.int .i64 v)=(s.globals.set j v).map eC from (List.map_set (f:=eC)).symm] at e0;exact⟨by simpa using h.gl,h.tl,h.hl,e0,h.t.aj fun b O=>aj b (ng b (by simp[O])),h.h.aj fun b O=>aj b (ng b (by simp[O])),h.hs.aj nW.aj fun b O=>aj b (ng b (by simp[O])),nd⟩
theorem qy.HT(h:qy w s GA gn gc TA tn tc HA hn hc xs F1 F2 L S){T:List db}{c:Kr}{l aO:Nat}(hT:w.ownsRow 0 83 2 (.slice c l aO) l (T.flatMap cz))(hl:l=T.length)(hd:∀b∈bt c l aO,b∉F1++(F2++(L++S))):
  qy w {s with table:=T} GA gn gc c l aO HA hn hc xs F1 (bt c l aO) L S:=by
 refine⟨h.gl,hl,h.hl,h.g,⟨hT,rfl⟩,h.h,h.hs,?_⟩;have nd:=h.nd;have n1:=List.nodup_append.1 nd;have n2:=List.nodup_append.1 n1.2.1;refine List.nodup_append.2 ⟨n1.1,List.nodup_append.2 ⟨?_,n2.2.1,fun a aV b O ai=>?_⟩,fun a aV b O ai=>?_⟩
 ·unfold bt;cases (Value.slice c l aO).ownBlock<;>simp
 ·subst ai;exact hd a aV (by simp at O ⊢;rcases O with O|O<;>simp[O])
 ·subst ai;rcases JZ.1 O with O|O
  ·exact hd a O (by simp[aV])
  ·exact n1.2.2 a aV a (by simp at O ⊢;rcases O with O|O<;>simp[O]) rfl
end
theorem w8(l:List Int):l.flatMap b2=l.map eC:=CD l
end Go.Proofs.YtbkhhfajcgkpgaaGreat

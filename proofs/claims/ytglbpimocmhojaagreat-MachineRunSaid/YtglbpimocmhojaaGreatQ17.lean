/- Part 17 of the proof. No condition of its own. -/
import Derived.Test.YtglbpimocmhojaaGreatQ12
import Derived.Test.YtglbpimocmhojaaGreatQ15
namespace Go.Proofs.YtglbpimocmhojaaGreat
open Go.RowKit Go.Proofs.Tryz
set_option maxRecDepth 1000000
set_option maxHeartbeats 25600000
set_option linter.unusedVariables false
variable{cs:List Value}{k m:Nat}{p:Prop}{f:al}{u:ay}
theorem Sl.tN{w:World}{P:Nat->Prop}{A:Lp}{n:Nat}{l:List Int}(h:Sl w P A n (l.map .i))(ap:k<n):
  ∃b o x,A=some ⟨b,o,none⟩/\P b/\l[k]?=some x/\w.cell? ⟨b,o+k,none⟩=some (.int .i64 x):=by
 obtain⟨b,o,x,cs,bw,O,hx,a5,hl,hc⟩:=Sl.g0 (z:=1) h (λ_=>rfl) ap;simp only[D.rep] at a5;subst a5;exact⟨b,o,x,bw,O,hx,by have:=hc 0 _ rfl;simpa using this⟩
namespace BZ
theorem si(h:p:=by
 go_enter func40,ntmps40;exact r2
 ):p:=h
end BZ
open BZ in
theorem h5(A A2:Lp)(n c n2 c2:Nat)(S T:List Int)(w:World)(hs:Sl w (av w) A n (S.map .i))(ht:Sl w (av w) A2 n2 (T.map .i))(hn:n<=140737488355328) :
  Calls prog 40 #[.slice A n c,.slice A2 n2 c2] w λr ab=>r=.returned (.bool (decide (S=T)))/\Below w.heap.size w ab:=by
 have hl:S.length=n:=by have:=hs.1;simpa using this
 have cg:T.length=n2:=by have:=ht.1;simpa using this
 by_cases be:n=n2
 case neg=>
  exact sf
 subst be;obtain⟨b9,J⟩:=aH hl cg;clear hl cg;have b6:((n:Int) != (n:Int))=false:=by simp
 go_enter func40,ntmps40;go_wp2;go_loopw [5] (λi wr=>∃k:Nat,k<=n/\i=.int .i64 k/\(∀j,j<k->S[j]?=T[j]?)/\Below w.heap.size w wr) (λi _=>n - (intOf i).toNat)
 case atStart=>exact⟨0,KZ _,rfl,λj bi=>absurd bi ad,Below.refl _ _⟩
 case round=>
  obtain⟨k,ap,rfl,bQ,O⟩:=hrel;have aA:=ae bQ;clear bQ;by_cases ak:k<n
  .obtain⟨b,o,x,rfl,U,hx,c0⟩:=(hs.on O).tN ak;obtain⟨K,M,d,rfl,l,g,d0⟩:=(ht.on O).tN ak;exact F4
  .obtain rfl:k=n:=ad;exact w8
theorem ye(A:Lp)(n c:Nat)(S:List Int)(bs:Int)(w:World)(hs:Sl w (av w) A n (S.map .i))(hn:n<=140737488355328) :
  Calls prog 107 #[.slice A n c,.int .i64 bs] w λr ab=>r=.returned (.bool (decide (bs∈S)))/\Below w.heap.size w ab:=by
 have hl:S.length=n:=by have:=hs.1;simpa using this
 have b9:=ae hl;clear hl;go_enter func107,ntmps107;go_wp2;go_loopw [5] (λi wr=>∃k:Nat,k<=n/\i=.int .i64 k/\(∀j,j<k->S[j]?≠some bs)/\Below w.heap.size w wr) (λi _=>n - (intOf i).toNat)
 case atStart=>exact⟨0,KZ _,rfl,λj bi=>absurd bi ad,Below.refl _ _⟩
 case round=>
  obtain⟨k,ap,rfl,bQ,O⟩:=hrel;have aA:=ae bQ;clear bQ;by_cases ak:k<n
  .obtain⟨b,o,x,rfl,U,hx,c0⟩:=(hs.on O).tN ak;have bz:(0:Int)<=(k:Int):=ad;have cb:(k:Int)<(n:Int):=ad;by_cases hd:x=bs
   .have aW:=ae (show decide (bs∈S)=true from decide_eq_true (hd▸KG hx));have u:(x == bs)=true:=by simp[hd]
    clear hx hd;exact tr
   .have aQ:=ae (show S[k]?≠some bs by rw[hx];intro h;injection h with h;exact hd h);have u:(x == bs)=false:=by simp[hd]
    clear hx hd;go_wp2;go_roundw
    case rel=>
     refine⟨k+1,ad,by go_num,λj bi=>?_,O⟩;by_cases z:j<k
     .exact aA.o j z
     .obtain rfl:j=k:=ad;exact aQ.o
    case measure=>exact aG
  .obtain rfl:k=n:=ad;have aW:=ae (show decide (bs∈S)=false from decide_eq_false (λh=>by
    obtain⟨j,bi,he⟩:=List.mem_iff_getElem.1 h;exact aA.o j (aC b9.o) (by rw[List.getElem?_eq_getElem bi,he])))
   exact tr
theorem yr(cq:Int)(A:Lp)(n c:Nat)(L:List Int)(p:bQ)(q:List Value)(sl:Value)(w:World)(hs:Sl w (av w) A n (L.map .i))(hn:n<=140737488355328)(hp:p.param=true->0<=p.index/\p.index<n) :
  Calls prog 106 #[.agg #[.int .i64 cq,.slice A n c],.agg #[.bool p.param,.int .i64 p.index,sl]] w λr ab=>r=.returned (.int .i64 (if p.param then L.getD p.index.toNat 0 else p.index))/\Ext w ab:=by
 obtain⟨pm,i,a⟩:=p;simp only at hp ⊢;cases pm
 .go_enter func106,ntmps106;go_wp2;go_ret;exact⟨rfl,(Ll.alloc _).alloc _⟩
 .obtain⟨h0,ac⟩:=hp rfl;obtain⟨k,rfl⟩:=KI h0;have ap:k<n:=ad;obtain⟨b,o,x,rfl,U,hx,c0⟩:=hs.tN ap;have aQ:=ae (show L.getD (Int.toNat k) 0=x by rw[List.getD_eq_getElem?_getD,KY,hx];rfl);clear hx;suffices ag:Calls prog 106 #[.agg #[.int .i64 cq,.slice (some ⟨b,o,none⟩) n c],.agg #[.bool true,.int .i64 (k:Int),sl]] w λr ab=>r=.returned (.int .i64 x)/\Ext w ab from
   ag.mono λe aS ac=>⟨ac.1.trans (by rw[<-aQ.o];simp),ac.2⟩
  go_enter func106,ntmps106;go_wp2;go_ret;exact⟨rfl,(Ll.alloc _).alloc _⟩
structure hO where
 proc:Int
 au:List Int
def fB(i:hO):D:=.st [.i i.proc,.sl (i.au.map .i)]
theorem kv{w:World}{P:Nat->Prop}{i:hO}:(fB i).rep w P cs↔∃A c n,cs=[.int .i64 i.proc,.slice A n c]/\n<=c/\Sl w P A n (i.au.map .i):=by
 unfold fB;simp only[D.rep];rw[bm];constructor
 .rintro⟨f,rfl,h⟩;obtain⟨A,n,c,y,rfl,hc,hs,bb⟩:=aN.1 h;rw[aP] at bb;subst bb;exact⟨A,c,n,rfl,hc,hs⟩
 .rintro⟨A,c,n,rfl,hc,hs⟩;exact uW
theorem Sl.vP{w:World}{P:Nat->Prop}{A:Lp}{n:Nat}{l:List hO}(h:Sl w P A n (l.map fB))(ap:k<n):
  ∃b o x cA cj cF,A=some ⟨b,o,none⟩/\P b/\l[k]?=some x/\w.cell? ⟨b,o+k*2,none⟩=some (.int .i64 x.proc)/\w.cell? ⟨b,o+k*2+1,none⟩=some (.slice cA cj cF)/\cj<=cF/\Sl w P cA cj (x.au.map .i):=by
 obtain⟨b,o,x,cs,bw,O,hx,a5,hl,hc⟩:=Sl.g0 (z:=2) h (λ_=>rfl) ap;obtain⟨cA,cF,cj,rfl,ac,au⟩:=kv.1 a5;exact⟨b,o,x,cA,cj,cF,bw,O,hx,hc 0 _ rfl,hc 1 _ rfl,ac,au⟩
namespace B0
theorem Am(h:p:=by
 refine ax rfl (λK hK=>?_);go_simp;refine dO hK ?_;clear hK K;refine pf ?_;refine aE ?_;go_wp2_with(fail);go_roundw
 case rel=>exact⟨k+1,ad,by go_num,bu.drew⟩
 case measure=>exact aG
 ):p:=h
end B0
open B0 in
theorem pJ(IA:Lp)(n ic:Nat)(bx:Lp)(b2 bK:Nat)(cc:Lp)(bD rc:Nat)(L:List hO)(x:hO)(cA:Lp)(cj cF:Nat)(w:World)
  (bR:Sl w (av w) IA n (L.map fB)) (hx:Sl w (av w) cA cj (x.au.map .i)) (hn:n<=1000000) (ap:∀i∈L,i.au.length<=1000000) :
  Calls prog 72 #[.agg #[.slice IA n ic,.slice bx b2 bK,.slice cc bD rc],.agg #[.int .i64 x.proc,.slice cA cj cF]] w λe ab=>∃r:Int,e=.returned (.int .i64 r)∧-1<=r/\r<n/\Ext w ab:=by
 obtain⟨b9,aQ,c5⟩:=eh bR hx ap;obtain⟨eE,dn⟩:=x;simp only at aQ ⊢;clear bR hx ap;go_enter func72,ntmps72;go_wp2_with(fail);generalize ba:World.alloc _ _=W;have aw:=iN ba;have aR:=gC ba;have bs:=ga ba;obtain⟨bq,b1,br⟩:=eh aw aR bs;clear ba aw aR bs;go_loopw [5] (λi wr=>∃k:Nat,k<=n/\i=.int .i64 k/\Ext W wr) (λi _=>n - (intOf i).toNat)
 case atStart=>exact⟨0,KZ _,rfl,Ll⟩
 case round=>
  obtain⟨k,ap,rfl,he⟩:=hrel;have bu:=ae he;have bS:=b1.ai he;have bg:=br.ai he;obtain⟨G,g⟩:=aH bS bg;obtain⟨a0,ai,af⟩:=bS.two;obtain⟨a8,am,aF⟩:=bg.two;clear he bS bg;by_cases ak:k<n
  .obtain⟨b,o,y,cX,da,db,rfl,U,bb,c0,c1,dc,cR⟩:=(b9.on (Fr.ext (bq.trans bu.o))).vP ak;obtain⟨f,j⟩:=y;simp only at c0 cR;have aI:da<=140737488355328:=by have:=c5.o _ (KG bb);have:=cR.1;simp at this;simp at *;omega
   have bz:(0:Int)<=(k:Int):=ad;have cb:(k:Int)<(n:Int):=ad;have df:=ae cR;have c8:=ae (aQ.on (Fr.ext (bq.trans bu.o)));have d:=ae aI;clear bb cR aI dc;by_cases hp:f=eE
   .have cP:(f == eE)=true:=by simp[hp]
    clear hp;go_upto_region 4 with(fail);refine eK (λ_=>False) [(0,3),(1,0),(2,3),(3,3),(4,3),(5,0),(6,3),(7,0),(8,3),(9,3),(10,3),(11,0),(12,3),(13,3),(14,3),(15,0),(16,3),(17,0),(18,2),(19,3)] ?_;refine pf ?_;refine ph ?_
    iterate 3 refine pf ?_
    refine ph ?_;refine pf ?_;refine ph ?_
    iterate 3 refine pf ?_
    refine ph ?_
    iterate 3 refine pf ?_
    refine ph ?_;refine pf ?_;refine ph ?_;refine ax rfl (λK hK=>?_);go_simp;refine(h5 cX cA da db cj cF j dn wr.drew (df.on (Fr.ext Ll.drew)) (c8.on (Fr.ext Ll.drew)) d.o).mono ?_;rintro e aS ⟨rfl,ar⟩;have a4:=ae (bu.trans (Fr.aF (Fr.of ar)));clear ar a0 ai af a8 am aF c0 c1;generalize decide (j=dn)=q;refine dO hK ?_;clear hK K;refine pf ?_;refine aE ?_;cases q
    .go_wp2_with(fail);go_roundw
     case rel=>exact⟨k+1,ad,by go_num,a4.o⟩
     case measure=>exact aG
    .go_wp2_with(fail);go_ret;exact⟨k,rfl,ad,ad,bq.trans a4.o⟩
   .have cP:(f == eE)=false:=by simp[hp]
    clear hp;go_upto_region 4 with(fail);refine eK (λ_=>False) [(0,3),(1,0),(2,3),(3,3),(4,3),(5,0),(6,3),(7,0),(8,3),(9,3),(10,3),(11,0),(12,3),(13,3),(14,3),(15,0),(16,3),(17,0),(18,2),(19,3)] ?_;refine pf ?_;refine ph ?_
    iterate 3 refine pf ?_
    refine ph ?_;refine pf ?_;refine ph ?_
    iterate 2 refine pf ?_
    refine dm rfl (by rfl) ?_
    try simp only[PU]
    refine ib rfl (by rfl) ?_;exact Al
  .obtain rfl:k=n:=ad;go_wp2_with(fail);go_ret;exact⟨-1,rfl,ad,ad,bq.trans bu.o⟩
structure FM(w:World)(P:Nat->Prop)(x:az)(cs:List Value)(eo en:Int)(es:ByteArray)(EA:Lp)(em ec:Nat)(QA:Lp)(qm qc:Nat)(IA:Lp)(i ic:Nat)(KA:Lp)(k kc:Nat):Prop where
 cells:cs=[.int .i64 x.op,.int .i64 x.target,.bool x.dg,.int .i64 eo,.int .i64 en,.string es,.slice EA em ec,.bool x.place.param,.int .i64 x.place.index,.slice QA qm qc,.slice IA i ic,.slice KA k kc]
 expr:(oj x.expr).rep w P [.int .i64 eo,.int .i64 en,.string es,.slice EA em ec]
 place:(di x.place).rep w P [.bool x.place.param,.int .i64 x.place.index,.slice QA qm qc]
 ints:Sl w P IA i (x.ints.map bk)
 Hi:i<=ic
 places:Sl w P KA k (x.places.map di)
 Hk:k<=kc
theorem vE{w:World}{P:Nat->Prop}{x:az}(h:(ef x).rep w P cs):∃eo en es EA em ec QA qm qc IA i ic KA k kc,FM w P x cs eo en es EA em ec QA qm qc IA i ic KA k kc:=by
 unfold ef at h;rw[bI,bm] at h;obtain⟨y,rfl,h⟩:=h;rw[bm] at h;obtain⟨y,rfl,h⟩:=h;rw[fp] at h;obtain⟨y,rfl,h⟩:=h;simp only[D.aQ] at h;obtain⟨ce,cd,rfl,he,c,bv,rfl,hp,ci,cJ,rfl,an,b,a,rfl,ap,rfl⟩:=h;obtain⟨eo,en,es,EA,em,ec,rfl⟩:=pF he;obtain⟨QA,qm,qc,rfl,_,_⟩:=dT.1 hp;obtain⟨IA,ic,i,rfl,aN,an⟩:=D.sY.1 an;obtain⟨KA,kc,k,rfl,aO,ap⟩:=D.sY.1 ap;exact⟨eo,en,es,EA,em,ec,QA,qm,qc,IA,i,ic,KA,k,kc,rfl,he,hp,an,aN,ap,aO⟩
theorem Dp(p:cH):(gd p).sz=5:=rfl
theorem tB{w:World}{P:Nat->Prop}{p:cH}(h:(gd p).rep w P cs):∃A n c,cs=[.string p.name,.int .i64 p.ints,.int .i64 p.au,.int .i64 p.locals,.slice A n c]/\n<=c/\Sl w P A n (p.code.map ef):=by
 unfold gd at h;rw[bI,cp] at h;obtain⟨y,rfl,h⟩:=h;exact Gs
structure hq(w:World)(P:Nat->Prop)(u:ay)(GA:Lp)(gn:Nat)(MA:Lp)(mn:Nat)(PA:Lp)(pn:Nat):Prop where
 g:Sl w P GA gn (u.globals.map .i)
 m:Sl w P MA mn (u.af.map ey)
 p:Sl w P PA pn (u.procs.map gd)
theorem lT{w:World}{P:Nat->Prop}(h:(tC u).rep w P cs):∃GA gn gc MA mn mc PA pn pc,cs=[.slice GA gn gc,.slice MA mn mc,.slice PA pn pc,.int .i64 u.main]/\gn<=gc/\mn<=mc/\pn<=pc/\hq w P u GA gn MA mn PA pn:=by
 unfold tC at h;rw[bI] at h;obtain⟨A,n,c,y,rfl,hc,hs,h⟩:=aN.1 h;obtain⟨A2,n2,c2,cd,rfl,ci,bN,h⟩:=aN.1 h;obtain⟨cC,n3,c3,bv,rfl,U,cO,h⟩:=aN.1 h;obtain⟨cJ,rfl,bE⟩:=bm.1 h;rw[aP] at bE;subst bE;exact⟨A,n,c,A2,n2,c2,cC,n3,c3,rfl,hc,ci,U,hs,bN,cO⟩
theorem hq.on{w ab:World}{u:ay}{GA:Lp}{gn:Nat}{MA:Lp}{mn:Nat}{PA:Lp}{pn:Nat}(h:hq w (av w) u GA gn MA mn PA pn)(he:Ext w ab):hq ab (av ab) u GA gn MA mn PA pn:=
 ⟨h.g.on (Fr.ext he),h.m.on (Fr.ext he),h.p.on (Fr.ext he)⟩
theorem hq.proc{w:World}{P:Nat->Prop}{GA:Lp}{gn:Nat}{MA:Lp}{mn:Nat}{PA:Lp}{pn:Nat}(h:hq w P u GA gn MA mn PA pn)(ap:k<pn):
  ∃b o p bx n c,PA=some ⟨b,o,none⟩/\P b/\u.procs[k]?=some p/\w.cell? ⟨b,o+k*5,none⟩=some (.string p.name)/\w.cell? ⟨b,o+k*5+1,none⟩=some (.int .i64 p.ints)/\w.cell? ⟨b,o+k*5+2,none⟩=some (.int .i64 p.au)/\
   w.cell? ⟨b,o+k*5+3,none⟩=some (.int .i64 p.locals)/\w.cell? ⟨b,o+k*5+4,none⟩=some (.slice bx n c)/\n<=c/\Sl w P bx n (p.code.map ef):=by
 obtain⟨b,o,p,cs,bw,O,hp,a5,hl,hc⟩:=Sl.g0 (z:=5) h.p Dp ap;obtain⟨bx,n,c,rfl,ac,au⟩:=tB a5;exact⟨b,o,p,bx,n,c,bw,O,hp,hc 0 _ rfl,hc 1 _ rfl,hc 2 _ rfl,hc 3 _ rfl,hc 4 _ rfl,ac,au⟩
theorem Sl.DE{w:World}{P:Nat->Prop}{A:Lp}{n:Nat}{l:List az}(h:Sl w P A n (l.map ef))(ap:k<n):
  ∃b o x cs eo en es EA em ec QA qm qc IA i ic KA m mc,A=some ⟨b,o,none⟩/\P b/\l[k]?=some x/\FM w P x cs eo en es EA em ec QA qm qc IA i ic KA m mc/\∀j v,cs[j]?=some v->w.cell? ⟨b,o+k*12+j,none⟩=some v:=by
 obtain⟨b,o,x,cs,bw,O,hx,a5,hl,hc⟩:=Sl.g0 (z:=12) h mv ap;obtain⟨eo,en,es,EA,em,ec,QA,qm,qc,IA,i,ic,KA,m,mc,an⟩:=vE a5;exact⟨b,o,x,cs,eo,en,es,EA,em,ec,QA,qm,qc,IA,i,ic,KA,m,mc,bw,O,hx,an,hc⟩
theorem Sl.oM{w:World}{P:Nat->Prop}{A:Lp}{n:Nat}{l:List bQ}(h:Sl w P A n (l.map di))(ap:k<n):
  ∃b o x QA m c,A=some ⟨b,o,none⟩/\P b/\l[k]?=some x/\w.cell? ⟨b,o+k*3,none⟩=some (.bool x.param)/\w.cell? ⟨b,o+k*3+1,none⟩=some (.int .i64 x.index)/\w.cell? ⟨b,o+k*3+2,none⟩=some (.slice QA m c)/\m<=c/\Sl w P QA m (x.at_.toList.map bk):=by
 obtain⟨b,o,x,cs,bw,O,hx,a5,hl,hc⟩:=Sl.g0 (z:=3) h (λ_=>rfl) ap;obtain⟨QA,m,c,rfl,ac,au⟩:=dT.1 a5;exact⟨b,o,x,QA,m,c,bw,O,hx,hc 0 _ rfl,hc 1 _ rfl,hc 2 _ rfl,ac,au⟩
def lV(u:ay)(i:hO):Prop:=∃p,0<=i.proc/\u.procs[i.proc.toNat]?=some p/\(i.au.length:Int)=p.au
structure lD(w:World)(P:Nat->Prop)(s:aj)(GA:Lp)(gn:Nat)(TA:Lp)(tn:Nat)(HA:Lp)(hn:Nat):Prop where
 g:Sl w P GA gn (s.globals.map .i)
 t:Sl w P TA tn (s.table.map lh)
 h:Sl w P HA hn (s.threads.map jP)
section
variable {w ab:World} {P c6:Nat->Prop} {s:aj} {GA TA HA:Lp} {gn gc tn tc hn hc:Nat}
theorem lD.on(h:lD w (av w) s GA gn TA tn HA hn)(he:Ext w ab):lD ab (av ab) s GA gn TA tn HA hn:=⟨h.g.on (Fr.ext he),h.t.on (Fr.ext he),h.h.on (Fr.ext he)⟩
theorem lD.mono(h:lD w P s GA gn TA tn HA hn)(hp:∀b,P b->c6 b):lD w c6 s GA gn TA tn HA hn:=⟨h.g.mono hp,h.t.mono hp,h.h.mono hp⟩
theorem gb:(er f).rep w P cs↔∃IA i ic S l lc,cs=[.int .i64 f.proc,.int .i64 f.pc,.slice IA i ic,.slice S l lc]/\i<=ic/\l<=lc/\Sl w P IA i (f.ints.map D.i)/\Sl w P S l (f.au.map D.i):=by
 unfold er;rw[bI];constructor
 .intro h;obtain⟨y,rfl,ac⟩:=bm.1 h;obtain⟨cy,rfl,au⟩:=bm.1 ac;obtain⟨A,n,c,cd,rfl,hc,hs,aU⟩:=aN.1 au;obtain⟨A2,n2,c2,bv,rfl,ci,bN,bE⟩:=aN.1 aU;rw[aP] at bE;subst bE;exact⟨A,n,c,A2,n2,c2,rfl,hc,ci,hs,bN⟩
 .rintro⟨A,n,c,A2,n2,c2,rfl,hc,ci,hs,bN⟩;exact bm.2 ⟨_,rfl,bm.2 ⟨_,rfl,aN.2 ⟨A,n,c,_,rfl,hc,hs,aN.2 ⟨A2,n2,c2,_,rfl,ci,bN,aP.2 rfl⟩⟩⟩⟩
theorem E0(f:al):(er f).sz=4:=rfl
theorem E1(t:List al):(jP t).sz=1:=rfl
theorem eS{t:List al}:(jP t).rep w P cs↔∃A n c,cs=[.slice A n c]/\n<=c/\Sl w P A n (t.map er):=by
 unfold jP;rw[bI];constructor
 .intro h;obtain⟨A,n,c,y,rfl,hc,hs,ac⟩:=aN.1 h;rw[aP] at ac;subst ac;exact⟨A,n,c,rfl,hc,hs⟩
 .rintro⟨A,n,c,rfl,hc,hs⟩;exact aN.2 ⟨A,n,c,_,rfl,hc,hs,aP.2 rfl⟩
theorem Sl.lz{A:Lp}{n:Nat}{l:List (List al)}(h:Sl w P A n (l.map jP))(ap:k<n):
  ∃b o t FA m c,A=some ⟨b,o,none⟩/\P b/\l[k]?=some t/\w.cell? ⟨b,o+k,none⟩=some (.slice FA m c)/\m<=c/\Sl w P FA m (t.map er):=by
 obtain⟨b,o,t,cs,bw,O,hx,a5,_,hc⟩:=Sl.g0 (z:=1) h E1 ap;obtain⟨FA,m,c,rfl,ac,au⟩:=eS.1 a5;have aU:=hc 0 _ rfl;simp only[Nat.mul_one,KN] at aU;exact⟨b,o,t,FA,m,c,bw,O,hx,aU,ac,au⟩
theorem Sl.pM{A:Lp}{n:Nat}{l:List al}(h:Sl w P A n (l.map er))(ap:k<n):
  ∃b o f IA i ic S m lc,A=some ⟨b,o,none⟩/\P b/\l[k]?=some f/\w.cell? ⟨b,o+k*4,none⟩=some (.int .i64 f.proc)/\w.cell? ⟨b,o+k*4+1,none⟩=some (.int .i64 f.pc)/\w.cell? ⟨b,o+k*4+2,none⟩=some (.slice IA i ic)/\
   w.cell? ⟨b,o+k*4+3,none⟩=some (.slice S m lc)/\i<=ic/\m<=lc/\Sl w P IA i (f.ints.map D.i)/\Sl w P S m (f.au.map D.i):=by
 obtain⟨b,o,f,cs,bw,O,hx,a5,_,hc⟩:=Sl.g0 (z:=4) h E0 ap;obtain⟨IA,i,ic,S,m,lc,rfl,ac,au,aU,bE⟩:=gb.1 a5;have cF:=hc 0 _ rfl;simp only[KN] at cF;exact⟨b,o,f,IA,i,ic,S,m,lc,bw,O,hx,cF,hc 1 _ rfl,hc 2 _ rfl,hc 3 _ rfl,ac,au,aU,bE⟩
end
abbrev bq(A:Lp)(n c:Nat):List Nat:=(Value.slice A n c).ownBlock.toList
structure Own(w:World)(e:TypeId)(z:Nat)(A:Lp)(n c:Nat)(xs:List Value)(F:List Nat):Prop where
 row:w.ownsRow 0 e z (.slice A n c) n xs
 eq:F=bq A n c
section
variable {w ab:World} {e:TypeId} {z n c:Nat} {A:Lp} {xs:List Value} {F:List Nat}
theorem Own.ak(h:Own w e z A n c xs F)(ap:∀b∈F,ab.heap[b]?=w.heap[b]?):Own ab e z A n c xs F:=by
 refine⟨⟨h.row.1,?_⟩,h.eq⟩;rcases h.row.2 with au|⟨g,cap,cur,bI,O,a2,rest⟩
 .exact .inl au
 .exact .inr ⟨g,cap,cur,bI,O,(ap g (by rw[h.eq];unfold bq;rw[bI];simp[Value.ownBlock])).trans a2,rest⟩
theorem Own.cap(h:Own w e z A n c xs F):n<=c:=by
 obtain⟨I,aJ,bI,ac,_⟩:=b1 h.row;injection bI with _ _ bI;omega
theorem Own.lt(h:Own w e z A n c xs F):∀b∈F,b<w.heap.size:=λb O=>by
 rw[h.eq] at O;exact(h.row.lt b (by simpa using O)).2
theorem Own.block(h:Own w e z A n c xs F)(hn:0<n):∃g,A=some ⟨g,0,none⟩/\F=[g]/\g<w.heap.size/\(∀j u,xs[j]?=some u->w.cell? ⟨g,j,none⟩=some u)/\(∀j,w.frozen? ⟨g,j,none⟩=false)/\
  ∀j u,j<n*z->Own (w.setCell ⟨g,j,none⟩ u) e z A n c (xs.set j u) F:=by
 obtain⟨g,bw,_,ak,hc,J,hs⟩:=ia h.row hn;subst bw;exact⟨g,rfl,h.eq,ak,hc,J,λj u bi=>⟨hs j u bi,h.eq⟩⟩
theorem Own.sl{l:List D}{P:Nat->Prop}(h:Own w e z A n c xs F)(a5:D.aQ w P l xs)(hl:l.length=n)(hF:∀b∈F,P b):Sl w P A n l:=
 Sl.p9 h.row a5 hl λg a2 _ _=>hF g (by rw[h.eq,a2];simp[Value.ownBlock])
theorem Own.shorter(h:Own w e z A n c xs F)(hm:m<=n)(hn:0<n):Own w e z A m c (xs.take (m*z)) F:=by
 refine⟨⟨by rw[List.length_take,h.row.1];exact Nat.min_eq_left (Nat.mul_le_mul_right _ hm),?_⟩,by rw[h.eq];cases A<;>rfl⟩;rcases h.row.2 with⟨_,au⟩|⟨g,cap,cur,bI,O,a2,ac,au,aU,bE⟩
 .omega
 .injection bI with bw _ hc;subst bw hc;exact .inr ⟨g,c,cur,rfl,O,a2,ad,au,aU,by rw[<-bE,List.take_take,Nat.min_eq_left (Nat.mul_le_mul_right _ hm)]⟩
end
def ka{α:Type}(E:World->α->List Value->List Nat->Prop)(w:World):List α->List Value->List Nat->Prop
 | [],xs,F=>xs=[]/\F=[]
 | a::l,xs,F=>∃x y F1 F2,xs=x++y/\F=F1++F2/\E w a x F1/\ka E w l y F2
section
variable {α:Type} {E:World->α->List Value->List Nat->Prop} {z:Nat}
def wZ(E:World->α->List Value->List Nat->Prop):Prop:=∀(w ab:World) (a:α) (x:List Value) (F:List Nat),E w a x F->(∀b∈F,ab.heap[b]?=w.heap[b]?)->E ab a x F
def yT(z:Nat)(E:World->α->List Value->List Nat->Prop):Prop:=∀(w:World) (a:α) (x:List Value) (F:List Nat),E w a x F->x.length=z
theorem ka.ak(aw:wZ E){w ab:World}:∀{l:List α} {xs:List Value} {F:List Nat},ka E w l xs F->(∀b∈F,ab.heap[b]?=w.heap[b]?)->ka E ab l xs F
 | [],_,_,h,_=>h
 | a::l,xs,F,h,ap=>by
  obtain⟨x,y,F1,F2,rfl,rfl,ac,au⟩:=h;exact⟨x,y,F1,F2,rfl,rfl,aw _ _ _ _ _ ac λb O=>ap b (by simp[O]),ka.ak aw au λb O=>ap b (by simp[O])⟩
theorem ka.snoc{w:World}{a:α}{x:List Value}{f:List Nat}:∀{l:List α} {xs:List Value} {F:List Nat},ka E w l xs F->E w a x f->ka E w (l++[a]) (xs++x) (F++f)
 | [],_,_,⟨ac,au⟩,he=>by
  subst ac au
  exact⟨x,[],f,[],by simp,by simp,he,rfl,rfl⟩
 | b::l,xs,F,h,he=>by
  obtain⟨Z,y,F1,F2,rfl,rfl,ac,au⟩:=h;exact⟨Z,y++x,F1,F2++f,by simp,by simp,ac,ka.snoc au he⟩
theorem ka.len(bt:yT z E){w:World}:∀{l:List α} {xs:List Value} {F:List Nat},ka E w l xs F->xs.length=l.length*z
 | [],_,_,⟨ac,_⟩=>by simp[ac]
 | a::l,xs,F,h=>by
  obtain⟨x,y,F1,F2,rfl,rfl,ac,au⟩:=h;rw[KF,bt _ _ _ _ ac,ka.len bt au,KQ,Nat.succ_mul];omega
theorem ka.take{w:World}(bt:yT z E):∀{l:List α} {xs:List Value} {F:List Nat},ka E w l xs F->∀k,∃F1,ka E w (l.take k) (xs.take (k*z)) F1/\F1 <+: F
 | [],xs,F,⟨ac,au⟩,k=>⟨[],by subst ac;simp[ka],by simp⟩
 | a::l,xs,F,h,0=>⟨[],by simp[ka],by simp⟩
 | a::l,xs,F,h,k+1=>by
  obtain⟨x,y,F1,F2,rfl,rfl,ac,au⟩:=h;obtain⟨bK,aU,bE⟩:=ka.take bt au k;refine⟨F1++bK,⟨x,y.take (k*z),F1,bK,?_,rfl,ac,aU⟩,by simpa using bE⟩;have:=bt _ _ _ _ ac;rw[List.take_append,KL (by rw[this,Nat.succ_mul];omega),this,show (k+1)*z - z=k*z by rw[Nat.succ_mul];omega]
theorem ka.at_(aw:wZ E)(bt:yT z E){w:World}:∀{l:List α} {xs:List Value} {F:List Nat},ka E w l xs F->∀{k:Nat} {a:α},l[k]?=some a->
  ∃x F1 f F2,F=F1++(f++F2)/\E w a x f/\(∀j u,x[j]?=some u->xs[k*z+j]?=some u)/\
   (∀ab r d,(∀b∈F1++F2,ab.heap[b]?=w.heap[b]?)->E ab r x d->ka E ab (l.set k r) xs (F1++(d++F2)))/\
   (∀ab r j u d,(∀b∈F1++F2,ab.heap[b]?=w.heap[b]?)->j<z->E ab r (x.set j u) d->ka E ab (l.set k r) (xs.set (k*z+j) u) (F1++(d++F2)))
 | [],_,_,_,k,a,ap=>by simp at ap
 | b::l,xs,F,h,0,a,ap=>by
  obtain⟨x,y,F1,F2,rfl,rfl,ac,au⟩:=h;simp only[List.getElem?_cons_zero,Lg] at ap;subst ap;have hx:=bt _ _ _ _ ac;refine⟨x,[],F1,F2,by simp,ac,λj u bi=>?_,λab r d ap he=>⟨x,y,d,F2,rfl,by simp,he,ka.ak aw au λb O=>ap b (by simp[O])⟩,λab r j u d ap bi he=>⟨x.set j u,y,d,F2,?_,by simp,he,ka.ak aw au λb O=>ap b (by simp[O])⟩⟩
  .rw[Nat.zero_mul,KV,List.getElem?_append_left (List.getElem?_eq_some_iff.1 bi).1];exact bi
  .rw[Nat.zero_mul,KV,List.set_append_left _ _ ad]
 | b::l,xs,F,h,k+1,a,ap=>by
  obtain⟨bs,y,g,R,rfl,rfl,ac,au⟩:=h;simp only[List.getElem?_cons_succ] at ap;have hx:=bt _ _ _ _ ac;obtain⟨x,F1,f,F2,rfl,aU,bE,cF,aY⟩:=ka.at_ aw bt au ap;have i:∀j,(k+1)*z+j=bs.length+(k*z+j):=λj=>by rw[hx,Nat.succ_mul];omega
  refine⟨x,g++F1,f,F2,by simp,aU,λj u bi=>?_,λab r d ap he=>⟨bs,y,g,F1++(d++F2),rfl,by simp,aw _ _ _ _ _ ac λb O=>ap b (by simp[O]),cF ab r d (λb O=>ap b (by simp at O ⊢;rcases O with O|O<;>simp[O])) he⟩,
   λab r j u d ap bi he=>⟨bs,y.set (k*z+j) u,g,F1++(d++F2),?_,by simp,aw _ _ _ _ _ ac λb O=>ap b (by simp[O]),aY ab r j u d (λb O=>ap b (by simp at O ⊢;rcases O with O|O<;>simp[O])) bi he⟩⟩
  .rw[i,List.getElem?_append_right ad,Nat.add_sub_cancel_left];exact bE j u bi
  .rw[i,List.set_append_right _ _ ad,Nat.add_sub_cancel_left]
theorem ka.aQ{w:World}{P:Nat->Prop}{enc:α->D}(a5:∀a x F,E w a x F->(∀b∈F,P b)->(enc a).rep w P x):∀{l:List α} {xs:List Value} {F:List Nat},ka E w l xs F->(∀b∈F,P b)->D.aQ w P (l.map enc) xs
 | [],_,_,⟨ac,_⟩,_=>by simp only[Lb,D.aQ];exact ac
 | a::l,xs,F,h,ap=>by
  obtain⟨x,y,F1,F2,rfl,rfl,ac,au⟩:=h;simp only[KJ,D.aQ];exact⟨x,y,rfl,a5 _ _ _ ac λb O=>ap b (by simp[O]),ka.aQ a5 au λb O=>ap b (by simp[O])⟩
end
abbrev dc:Int->Value:=Value.int .i64
def oY(w:World)(f:al)(cs:List Value)(F:List Nat):Prop:=∃IA i ic S l lc F1 F2,cs=[.int .i64 f.proc,.int .i64 f.pc,.slice IA i ic,.slice S l lc]/\F=F1++F2/\
 i=f.ints.length/\l=f.au.length/\Own w 3 1 IA i ic (f.ints.map dc) F1/\Own w 3 1 S l lc (f.au.map dc) F2
def og(w:World)(fs:List al)(cs:List Value)(F:List Nat):Prop:=∃FA n c xs F1 F2,cs=[.slice FA n c]/\F=F1++F2/\n=fs.length/\Own w 75 4 FA n c xs F1/\ka oY w fs xs F2
structure qI(w:World)(s:aj)(GA:Lp)(gn gc:Nat)(TA:Lp)(tn tc:Nat)(HA:Lp)(hn hc:Nat)(xs:List Value)(F1 F2 bK bP:List Nat):Prop where
 gl:gn=s.globals.length
 tl:tn=s.table.length
 hl:hn=s.threads.length
 g:Own w 3 1 GA gn gc (s.globals.map dc) F1
 t:Own w 107 2 TA tn tc (s.table.flatMap bH) F2
 h:Own w 79 1 HA hn hc xs bK
 hs:ka og w s.threads xs bP
 nd:(F1++(F2++(bK++bP))).Nodup
theorem oY.ak:wZ oY:=λw ab a x F h ap=>by
 obtain⟨IA,i,ic,S,l,lc,F1,F2,rfl,rfl,an,hl,ac,au⟩:=h;exact⟨IA,i,ic,S,l,lc,F1,F2,rfl,rfl,an,hl,ac.ak λb O=>ap b (by simp[O]),au.ak λb O=>ap b (by simp[O])⟩
theorem oY.len:yT 4 oY:=λw a x F h=>by
 obtain⟨IA,i,ic,S,l,lc,F1,F2,rfl,_⟩:=h;rfl
theorem og.ak:wZ og:=λw ab a x F h ap=>by
 obtain⟨FA,n,c,xs,F1,F2,rfl,rfl,hn,ac,au⟩:=h;exact⟨FA,n,c,xs,F1,F2,rfl,rfl,hn,ac.ak λb O=>ap b (by simp[O]),au.ak oY.ak λb O=>ap b (by simp[O])⟩
theorem og.len:yT 1 og:=λw a x F h=>by
 obtain⟨FA,n,c,xs,F1,F2,rfl,_⟩:=h;rfl
theorem ct{w:World}{P:Nat->Prop}:∀(l:List Int),D.aQ w P (l.map D.i) (l.map dc)
 | []=>by simp only[Lb,D.aQ]
 | a::l=>by simp only[KJ];exact bm.2 ⟨_,rfl,ct l⟩
theorem dw{w:World}{P:Nat->Prop}:∀(l:List cy),D.aQ w P (l.map lh) (l.flatMap bH)
 | []=>by simp only[Lb,D.aQ,List.flatMap_nil]
 | a::l=>by
  simp only[KJ,KX,D.aQ];exact⟨_,_,rfl,by unfold lh;exact bm.2 ⟨_,rfl,bm.2 ⟨_,rfl,aP.2 rfl⟩⟩,dw l⟩
theorem oY.rep{w:World}{P:Nat->Prop}(f:al)(x:List Value)(F:List Nat)(h:oY w f x F)(aZ:∀b∈F,P b):(er f).rep w P x:=by
 obtain⟨IA,i,ic,S,l,lc,F1,F2,rfl,rfl,an,hl,ac,au⟩:=h;exact gb.2 ⟨IA,i,ic,S,l,lc,rfl,ac.cap,au.cap,ac.sl (ct _) (by simp[an]) λb O=>aZ b (by simp[O]),au.sl (ct _) (by simp[hl]) λb O=>aZ b (by simp[O])⟩
theorem og.rep{w:World}{P:Nat->Prop}(t:List al)(x:List Value)(F:List Nat)(h:og w t x F)(aZ:∀b∈F,P b):(jP t).rep w P x:=by
 obtain⟨FA,n,c,xs,F1,F2,rfl,rfl,hn,ac,au⟩:=h;exact eS.2 ⟨FA,n,c,rfl,ac.cap,ac.sl (au.aQ oY.rep λb O=>aZ b (by simp[O])) (by simp[hn]) λb O=>aZ b (by simp[O])⟩
section
variable {w ab:World} {P c6:Nat->Prop} {s:aj} {GA TA HA:Lp} {gn gc tn tc hn hc:Nat} {xs:List Value} {F1 F2 bK bP:List Nat}
theorem qI.at_(h:qI w s GA gn gc TA tn tc HA hn hc xs F1 F2 bK bP)(aZ:∀b∈F1++(F2++(bK++bP)),P b):lD w P s GA gn TA tn HA hn:=
 ⟨h.g.sl (ct _) (by simp[h.gl]) λb O=>aZ b (by simp[O]),h.t.sl (dw _) (by simp[h.tl]) λb O=>aZ b (by simp[O]),h.h.sl (h.hs.aQ og.rep λb O=>aZ b (by simp[O])) (by simp[h.hl]) λb O=>aZ b (by simp[O])⟩
theorem qI.ak(h:qI w s GA gn gc TA tn tc HA hn hc xs F1 F2 bK bP)(ap:∀b∈F1++(F2++(bK++bP)),ab.heap[b]?=w.heap[b]?):qI ab s GA gn gc TA tn tc HA hn hc xs F1 F2 bK bP:=
 ⟨h.gl,h.tl,h.hl,h.g.ak λb O=>ap b (by simp[O]),h.t.ak λb O=>ap b (by simp[O]),h.h.ak λb O=>ap b (by simp[O]),h.hs.ak og.ak λb O=>ap b (by simp[O]),h.nd⟩
end
theorem eF{A B:List Nat}{x:Nat}(h:(A++x::B).Nodup):∀b∈A++B,b≠x:=by
 intro b O he;subst he;have:=(List.perm_middle (a:=b) (l₁:=A) (l₂:=B)).nodup_iff.1 h;exact(List.nodup_cons.1 this).1 O
theorem k1{α:Type}{g:α->α}{x:α}:∀{l:List α} {k:Nat},l[k]?=some x->l.modify k g=l.set k (g x)
 | [],k,h=>by simp at h
 | a::l,0,h=>by simp at h;subst h;rfl
 | a::l,k+1,h=>by
  simp only[List.getElem?_cons_succ] at h;rw[List.modify_succ_cons,List.set_cons_succ,k1 h]
theorem ks{α:Type}(l:List α)(x:α):(l++[x]).dropLast=l:=by simp
theorem aR{w:World}{p:Addr}{u:Value}{b:Nat}(h:b≠p.block):(w.setCell p u).heap[b]?=w.heap[b]?:=Below.heap_setCell w p u b h
section
variable {w ab:World} {P c6:Nat->Prop} {s:aj} {GA TA HA:Lp} {gn gc tn tc hn hc:Nat} {xs:List Value} {F1 F2 bK bP:List Nat}
theorem qI.top(h:qI w s GA gn gc TA tn tc HA hn hc xs F1 F2 bK bP){fs:List al}(bv:s.threads[k]?=some (fs++[f])):
  ∃O ch fc IA i ic S l lc,HA=some ⟨O,0,none⟩/\k<hn/\O<w.heap.size/\ch<w.heap.size/\O∈bK/\ch∈bP/\i=f.ints.length/\l=f.au.length/\
   w.cell? ⟨O,k,none⟩=some (.slice (some ⟨ch,0,none⟩) (fs.length+1) fc)/\fs.length+1<=fc/\
   w.cell? ⟨ch,fs.length*4,none⟩=some (.int .i64 f.proc)/\w.cell? ⟨ch,fs.length*4+1,none⟩=some (.int .i64 f.pc)/\w.cell? ⟨ch,fs.length*4+2,none⟩=some (.slice IA i ic)/\w.cell? ⟨ch,fs.length*4+3,none⟩=some (.slice S l lc)/\
   (∀j,w.frozen? ⟨O,j,none⟩=false)/\(∀j,w.frozen? ⟨ch,j,none⟩=false)/\
   (∀v,qI (w.setCell ⟨ch,fs.length*4+1,none⟩ (.int .i64 v)) {s with threads:=s.threads.set k (fs++[{f with pc:=v}])} GA gn gc TA tn tc HA hn hc xs F1 F2 bK bP)/\
   (∀j v,j<i->∃I,IA=some ⟨I,0,none⟩/\I<w.heap.size/\I∈bP/\w.frozen? ⟨I,j,none⟩=false/\(∃u,w.cell? ⟨I,j,none⟩=some u)/\qI (w.setCell ⟨I,j,none⟩ (.int .i64 v)) {s with threads:=s.threads.set k (fs++[{f with ints:=f.ints.set j v}])} GA gn gc TA tn tc HA hn hc xs F1 F2 bK bP)/\
   (∃e d,qI (w.setCell ⟨O,k,none⟩ (.slice (some ⟨ch,0,none⟩) fs.length fc)) {s with threads:=s.threads.set k fs} GA gn gc TA tn tc HA hn hc e F1 F2 bK d/\∀b∈d,b∈bP):=by
 obtain⟨x,U,G,g,aa,aL,hx,c1,c2⟩:=h.hs.at_ og.ak og.len bv;obtain⟨FA,n,c,cN,e4,bC,rfl,rfl,co,bn,J⟩:=aL;have bc:k<s.threads.length:=(List.getElem?_eq_some_iff.1 bv).1;have cm:k<hn:=by rw[h.hl];exact bc
 have bH:n=fs.length+1:=by simpa using co
 obtain⟨ch,rfl,rfl,cd,aB,ag,bW⟩:=bn.block ad;obtain⟨O,mB,aY,bG,o,t,A⟩:=h.h.block ad;obtain⟨y,bJ,C,a6,rfl,B,bb,d1,d2⟩:=J.at_ (k:=fs.length) (a:=f) oY.ak oY.len (by simp);obtain⟨IA,i,ic,S,l,lc,q,M2,rfl,rfl,an,hl,r,br⟩:=B;subst aa aY mB;have nd:=h.nd;have nf:∀b∈(F1++(F2++([O]++U)))++(bJ++((q++M2)++(a6++g))),b≠ch:=eF (by simpa[KR] using nd);have z:∀b∈(F1++F2)++(U++(ch::(bJ++(q++(M2++(a6++g)))))),b≠O:=eF (by simpa[KR] using nd);refine⟨O,ch,c,IA,i,ic,S,l,lc,rfl,cm,bG,cd,by simp,by simp,an,hl,?_,?_,?_,?_,?_,?_,t,ag,λv=>?_,λj v bi=>?_,?_⟩
 .rw[<-bH];have:=hx 0 _ rfl;rw[Nat.mul_one,KN] at this;exact o _ _ this
 .rw[<-bH];exact bn.cap
 .exact aB _ _ (by have:=bb 0 _ rfl;rwa [KN] at this)
 .exact aB _ _ (bb 1 _ rfl)
 .exact aB _ _ (bb 2 _ rfl)
 .exact aB _ _ (bb 3 _ rfl)
 .have ap:∀b,b≠ch->(w.setCell ⟨ch,fs.length*4+1,none⟩ (.int .i64 v)).heap[b]?=w.heap[b]?:=λb O=>aR O;have e1:oY (w.setCell ⟨ch,fs.length*4+1,none⟩ (.int .i64 v)) {f with pc:=v} ([.int .i64 f.proc,.int .i64 f.pc,.slice IA i ic,.slice S l lc].set 1 (.int .i64 v)) (q++M2):=
   ⟨IA,i,ic,S,l,lc,q,M2,rfl,rfl,an,hl,r.ak λb O=>ap b (nf b (by simp[O])),br.ak λb O=>ap b (nf b (by simp[O]))⟩
  have e2:=d2 _ _ 1 (.int .i64 v) _ (λb O=>ap b (nf b (by simp at O ⊢;rcases O with O|O<;>simp[O]))) ad e1;rw[List.set_append_right _ _ (KD _),Nat.sub_self,List.set_cons_zero] at e2;have e3:og (w.setCell ⟨ch,fs.length*4+1,none⟩ (.int .i64 v)) (fs++[{f with pc:=v}]) _ _:=⟨some ⟨ch,0,none⟩,n,c,_,[ch],_,rfl,rfl,by simpa using bH,bW _ (.int .i64 v) (by rw[bH];omega),e2⟩
  have b0:=c1 _ _ _ (λb O=>ap b (nf b (by simp at O ⊢;rcases O with O|O<;>simp[O]))) e3;exact⟨h.gl,h.tl,by simpa using h.hl,h.g.ak λb O=>ap b (nf b (by simp[O])),h.t.ak λb O=>ap b (nf b (by simp[O])),h.h.ak λb O=>ap b (nf b (by simp at O;simp[O])),b0,nd⟩
 .obtain⟨I,rfl,rfl,cg,aN,T,ax⟩:=r.block ad;have dM:∀b∈(F1++(F2++([O]++(U++(ch::bJ)))))++(M2++(a6++g)),b≠I:=eF (by simpa[KR] using nd);have ap:∀b,b≠I->(w.setCell ⟨I,j,none⟩ (.int .i64 v)).heap[b]?=w.heap[b]?:=λb O=>aR O;have e0:=ax j (.int .i64 v) ad;rw[show (f.ints.map dc).set j (.int .i64 v)=(f.ints.set j v).map dc from (List.map_set (f:=dc)).symm] at e0;have e1:oY (w.setCell ⟨I,j,none⟩ (.int .i64 v)) {f with ints:=f.ints.set j v} [.int .i64 f.proc,.int .i64 f.pc,.slice (some ⟨I,0,none⟩) i ic,.slice S l lc] ([I]++M2):=
   ⟨some ⟨I,0,none⟩,i,ic,S,l,lc,[I],M2,rfl,rfl,by simpa using an,hl,e0,br.ak λb O=>ap b (dM b (by simp[O]))⟩
  have e2:=d1 _ _ _ (λb O=>ap b (dM b (by simp at O ⊢;rcases O with O|O<;>simp[O]))) e1;rw[List.set_append_right _ _ (KD _),Nat.sub_self,List.set_cons_zero] at e2;have e3:og (w.setCell ⟨I,j,none⟩ (.int .i64 v)) (fs++[{f with ints:=f.ints.set j v}]) _ _:=⟨some ⟨ch,0,none⟩,n,c,_,[ch],_,rfl,rfl,by simpa using bH,bn.ak λb O=>ap b (dM b (by simp at O;simp[O])),e2⟩
  have b0:=c1 _ _ _ (λb O=>ap b (dM b (by simp at O ⊢;rcases O with O|O<;>simp[O]))) e3;refine⟨I,rfl,cg,by simp,T _,⟨.int .i64 (f.ints[j]'ad),aN _ _ (by rw[List.getElem?_map,List.getElem?_eq_getElem ad];rfl)⟩,h.gl,h.tl,by simpa using h.hl,h.g.ak λb O=>ap b (dM b (by simp[O])),h.t.ak λb O=>ap b (dM b (by simp[O])),h.h.ak λb O=>ap b (dM b (by simp at O;simp[O])),b0,nd⟩
 .have ap:∀b,b≠O->(w.setCell ⟨O,k,none⟩ (.slice (some ⟨ch,0,none⟩) fs.length c)).heap[b]?=w.heap[b]?:=λb h=>aR h;obtain⟨R,hp,E⟩:=J.take oY.len fs.length;rw[List.take_left] at hp;have H:∀b∈R,b∈bJ++(q++(M2++a6)):=λb O=>by have:=E.subset O;simpa[KR] using this
  have e3:og (w.setCell ⟨O,k,none⟩ (.slice (some ⟨ch,0,none⟩) fs.length c)) fs ([.slice (some ⟨ch,0,none⟩) n c].set 0 (.slice (some ⟨ch,0,none⟩) fs.length c)) ([ch]++R):=
   ⟨some ⟨ch,0,none⟩,fs.length,c,_,[ch],R,rfl,rfl,rfl,(bn.shorter (m:=fs.length) ad ad).ak λb O=>ap b (z b (by simp at O;simp[O])),hp.ak oY.ak λb O=>ap b (z b (by have:=H b O;simp at this ⊢;rcases this with h|h|h|h<;>simp[h]))⟩
  have b0:=c2 _ _ 0 (.slice (some ⟨ch,0,none⟩) fs.length c) _ (λb O=>ap b (z b (by simp at O ⊢;rcases O with O|O<;>simp[O]))) ad e3;rw[Nat.mul_one,KN] at b0;refine⟨_,_,⟨h.gl,h.tl,by simpa using h.hl,h.g.ak λb O=>ap b (z b (by simp[O])),h.t.ak λb O=>ap b (z b (by simp[O])),A k _ ad,b0,?_⟩,λb O=>?_⟩
  .refine List.Sublist.nodup (l₂:=F1++(F2++([O]++(U++(([ch]++(bJ++((q++M2)++a6)))++g))))) ?_ nd;exact(List.Sublist.refl _).append ((List.Sublist.refl _).append ((List.Sublist.refl _).append ((List.Sublist.refl _).append (((List.Sublist.refl _).append E.sublist).append (List.Sublist.refl _)))))
  .simp only[KM] at O ⊢;rcases O with O|(O|O)|O
   .exact .inl O
   .exact .inr (.inl (.inl O))
   .exact .inr (.inl (.inr (by have:=E.subset O;simpa only[KM] using this)))
   .exact .inr (.inr O)
theorem qI.dg(h:qI w s GA gn gc TA tn tc HA hn hc xs F1 F2 bK bP){j:Nat}(bi:j<gn):∃bZ,GA=some ⟨bZ,0,none⟩/\bZ<w.heap.size/\w.frozen? ⟨bZ,j,none⟩=false/\(∃u,w.cell? ⟨bZ,j,none⟩=some u)/\bZ∈F1/\
  ∀v,qI (w.setCell ⟨bZ,j,none⟩ (.int .i64 v)) {s with globals:=s.globals.set j v} GA gn gc TA tn tc HA hn hc xs F1 F2 bK bP:=by
 obtain⟨bZ,y,U,ck,ay,a,co⟩:=h.g.block ad;subst y U;have nd:=h.nd;have ng:∀b∈[]++(F2++(bK++bP)),b≠bZ:=eF (by simpa using nd);have ry:=h.gl;refine⟨bZ,rfl,ck,a _,⟨.int .i64 (s.globals[j]'ad),ay _ _ (by rw[List.getElem?_map,List.getElem?_eq_getElem ad];rfl)⟩,by simp,λv=>?_⟩;have ap:∀b,b≠bZ->(w.setCell ⟨bZ,j,none⟩ (.int .i64 v)).heap[b]?=w.heap[b]?:=λb O=>aR O;have e0:=co j (.int .i64 v) ad;rw[show (s.globals.map dc).set j (.int .i64 v)=(s.globals.set j v).map dc from (List.map_set (f:=dc)).symm] at e0;exact⟨by simpa using h.gl,h.tl,h.hl,e0,h.t.ak λb O=>ap b (ng b (by simp[O])),h.h.ak λb O=>ap b (ng b (by simp[O])),h.hs.ak og.ak λb O=>ap b (ng b (by simp[O])),nd⟩
theorem qI.HQ(h:qI w s GA gn gc TA tn tc HA hn hc xs F1 F2 bK bP){T:List cy}{aV:Lp}{L:Nat}(hT:w.ownsRow 0 107 2 (.slice aV m L) m (T.flatMap bH))(hl:m=T.length)(hd:∀b∈bq aV m L,b∉F1++(F2++(bK++bP))):
  qI w {s with table:=T} GA gn gc aV m L HA hn hc xs F1 (bq aV m L) bK bP:=by
 refine⟨h.gl,hl,h.hl,h.g,⟨hT,rfl⟩,h.h,h.hs,?_⟩;have nd:=h.nd;have n1:=List.nodup_append.1 nd;have n2:=List.nodup_append.1 n1.2.1;refine List.nodup_append.2 ⟨n1.1,List.nodup_append.2 ⟨?_,n2.2.1,λa bx b O ay=>?_⟩,λa bx b O ay=>?_⟩
 .unfold bq;cases (Value.slice aV m L).ownBlock<;>simp
 .subst ay;exact hd a bx (by simp at O ⊢;rcases O with O|O<;>simp[O])
 .subst ay;rcases KM.1 O with O|O
  .exact hd a O (by simp[bx])
  .exact n1.2.2 a bx a (by simp at O ⊢;rcases O with O|O<;>simp[O]) rfl
end
theorem tG(l:List Int):l.flatMap cT=l.map dc:=tH l
theorem lQ(A:Lp)(n c:Nat)(l:List Int)(w:World)(h:cx (EF cT) 1 w w.heap.size A n l)(hn:n<=100000) :
  Calls prog 24 #[.slice A n c] w λr ab=>∃I aJ,r=.returned (.slice I n aJ)/\ab.ownsRow w.heap.size 3 1 (.slice I n aJ) n (l.map dc)/\Below w.heap.size w ab:=by
 have heq:=λW=>rM (P:=prog) W 22 3 A n c 0 0 Tryz.underlying22;rcases A with _|a
 .have aM:n=0:=by
   rcases Nat.eq_zero_or_pos n with h0|h0
   .exact h0
   .obtain⟨b,o,h,_⟩:=h.2 h0;cases h
  subst aM;have hT:l=[]:=List.eq_nil_of_length_eq_zero h.1;subst hT;go_enter func24,ntmps24;exact zy
 .have ay:=Src.lv h (jA l) (mH l) ad;rw[tG] at ay;go_enter func24,ntmps24;go_wp2_with(at_builtin;refine fU _ de (by rfl) (.tmp 5) (.tmp 6) (by rfl) (by rfl) _ _ _ _ (by rfl) ay ad ad (λh=>nomatch h) ?_;intro bU c1 aS bb bS);go_ret;exact⟨bU,c1,rfl,bb,bS⟩
theorem Sl.lQ{A:Lp}{n c:Nat}{l:List Int}{w:World}(h:Sl w (av w) A n (l.map D.i))(hn:n<=100000) :
  Calls prog 24 #[.slice A n c] w λr ab=>∃I aJ,r=.returned (.slice I n aJ)/\Own ab 3 1 I n aJ (l.map dc) (bq I n aJ)/\(∀b∈bq I n aJ,w.heap.size<=b/\b<ab.heap.size)/\Ext w ab:=
 (Go.Proofs.YtglbpimocmhojaaGreat.lQ A n c l w h.ints hn).mono λr ab ⟨I,aJ,a5,bn,O⟩=>⟨I,aJ,a5,⟨g9 bn (KZ _),rfl⟩,λb O=>bn.lt b (by simpa using O),Fr.of O⟩
theorem Sl.vC{A:Lp}{n c:Nat}{l:List cy}{w:World}(h:Sl w (av w) A n (l.map lh))(hn:n<=5000):
  Calls prog 74 #[.slice A n c] w λr ab=>∃I aJ,r=.returned (.slice I n aJ)/\Own ab 107 2 I n aJ (l.flatMap bH) (bq I n aJ)/\(∀b∈bq I n aJ,w.heap.size<=b/\b<ab.heap.size)/\Ext w ab:=
 (m9 A n c l w h.holds hn).mono λr ab ⟨I,aJ,a5,bn,O⟩=>⟨I,aJ,a5,⟨g9 bn (KZ _),rfl⟩,λb O=>bn.lt b (by simpa using O),Fr.of O⟩
end Go.Proofs.YtglbpimocmhojaaGreat

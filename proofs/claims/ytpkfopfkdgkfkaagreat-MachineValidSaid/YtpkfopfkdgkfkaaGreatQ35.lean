/- Part 35 of the proof. No condition of its own. -/
import Derived.Test.YtpkfopfkdgkfkaaGreatQ30
import Derived.Test.YtpkfopfkdgkfkaaGreatQ33
namespace Go.Proofs.YtpkfopfkdgkfkaaGreat
open Go.RowKit Go.Proofs.Tryz
set_option maxRecDepth 1000000
set_option maxHeartbeats 25600000
set_option linter.unusedVariables false
variable{p:Prop}
namespace CS
theorem sK(h:p:=by
 clear aO
 cases bE:fk u.af s.table hn with
 | false=>
  exact zK
 | true=>
 have cc:=ae bE;clear bE;by_cases e2:(hn:Int)<1
 .have a5:decide ((hn:Int)<1)=true:=decide_eq_true e2;have n:=ae e2;clear e2;go_wp2_with(fail);go_ret;exact⟨false,rfl,⟨λh=>(by cases h),λh=>absurd (b4.1 h).2.1 (ay n.o)⟩,H1.2⟩
 have a5:decide ((hn:Int)<1)=false:=decide_eq_false e2;have aR:=ae e2;clear e2;by_cases e3:(hn:Int) > 32
 .have av:decide ((hn:Int) > 32)=true:=decide_eq_true e3;have n:=ae e3;clear e3;go_wp2_with(fail);go_ret;exact⟨false,rfl,⟨λh=>(by cases h),λh=>absurd (b4.1 h).2.2.1 (ay n.o)⟩,H1.2⟩
 have av:decide ((hn:Int) > 32)=false:=decide_eq_false e3;have R:=ae e3;clear e3;by_cases be:a1<0
 .have ax:decide (a1<0)=true:=decide_eq_true be;have n:=ae be;clear be;go_wp2_with(fail);go_ret;exact⟨false,rfl,⟨λh=>(by cases h),λh=>absurd (b4.1 h).2.2.2.1 (ay n.o)⟩,H1.2⟩
 have ax:decide (a1<0)=false:=decide_eq_false be;have Z:=ae be;clear be;by_cases co:a1 > 4
 .have aC:decide (a1 > 4)=true:=decide_eq_true co;have n:=ae co;clear co;go_wp2_with(fail);go_ret;exact⟨false,rfl,⟨λh=>(by cases h),λh=>absurd (b4.1 h).2.2.2.2.1 (ay n.o)⟩,H1.2⟩
 have aC:decide (a1 > 4)=false:=decide_eq_false co;have ab:=ae co;clear co;go_wp2_with(fail);clear a0 ai af bq am aG;go_loopw [6] (λcA wr=>∃i:Nat,cA=.int .i64 i/\i<=hn/\Ext W wr/\∀(j:Nat) t,j<i->s.threads[j]?=some t->∀f∈t,eI u f) (λcA _=>hn - (intOf cA).toNat)
 case atStart=>exact⟨0,rfl,ad,H1.1,λj t bd=>ad⟩
 case round=>
  obtain⟨i,rfl,aX,aw,P⟩:=hrel;generalize wr=gW at *;have br:=ag aw P;by_cases an:i<hn
  case neg=>
   obtain rfl:i=hn:=ad;obtain⟨a0,ai,af⟩:=(ah.2.1.aj aw).two;obtain⟨bq,am,aG⟩:=(ah.2.2.aj aw).two;have gA:¬(i:Int)<(i:Int):=ad;clear aw P;go_wp2_with(fail);go_ret;refine⟨true,rfl,⟨λ_=>b4.2 ⟨by have:=bf.o;omega,by have:=aR.o;omega,by have:=R.o;omega,by have:=Z.o;omega,by have:=ab.o;omega,cc.o,λt ht f J=>?_⟩,λ_=>rfl⟩,ah.1.trans br.1⟩;obtain⟨j,bd,Q⟩:=List.getElem_of_mem ht;exact br.2 j t (ay bt.2.2.2.2.2.2) (by rw[List.getElem?_eq_getElem bd,Q]) f J
  have gA:(i:Int)<(hn:Int):=ad;obtain⟨cm,da,ch,FA,x,cY,e,cy,H,c0,bv,aZ⟩:=(bt.2.2.1.on (ah.1.trans aw)).at_.h.m4 an;simp only at e;subst e;have aY:x=ch.length:=by have:=aZ.1;simpa using this.symm
  have U:=bt.2.2.2.2.2.1 ch (LN H);have a2:x<=9223372036854775807:=ad;have aE:cm<gW:=cy;have b3:=bF H aZ aY U.2;have L:=ae c0;clear aw P cy H bv aZ aY U c0;go_wp2_with(fail);go_loopw [7] (λbH wr=>∃k:Nat,bH=.int .i64 k/\k<=x/\Ext gW wr/\∀(j:Nat) f,j<k->ch[j]?=some f->eI u f) (λbH _=>x - (intOf bH).toNat)
  case atStart=>exact⟨0,rfl,ad,Mo,λj t bd=>ad⟩
  case round=>
   obtain⟨k,rfl,aj,aW,O⟩:=hrel;have a8:=az aW O (br.1.trans aW);obtain⟨a0,ai,af⟩:=(ah.2.1.aj a8.2.2).two;obtain⟨bq,am,aG⟩:=(ah.2.2.aj a8.2.2).two;have c0:=(aW.cell (j:=da+i) aE λh=>h).trans L.o;have cb:cm<wr:=LL aE aW.size;by_cases Y:k<x
   case neg=>
    have bl:¬(k:Int)<(x:Int):=ad;clear aW O;go_wp2_with(fail);go_roundw
    case rel=>
     refine⟨i+1,by go_num,ad,a8.2.2,λj t bd Q f J=>?_⟩;by_cases M:j=i
     .rw[M,b3.1] at Q;injection Q with Q;subst Q;obtain⟨m,hm,l⟩:=List.getElem_of_mem J;exact a8.2.1 m f (ay b3.2.2.1) (by rw[List.getElem?_eq_getElem hm,l])
     .exact br.2 j t ad Q f J
    case measure=>exact aH
   have bl:(k:Int)<(x:Int):=ad;obtain⟨ct,go,f,IA,il,ic,bw,y,lc,e,cJ,N,d0,d1,d2,d3,cH,cx,aQ,ce⟩:=(b3.2.1.on (Fr.ext aW)).rL Y;subst e;have cg:ct<wr:=cJ;have c9:il=f.ints.length:=by have:=aQ.1;simpa using this.symm
   have a3:y=f.an.length:=by have:=ce.1;simpa using this.symm
   have aT:y<=9223372036854775807:=by have:=b3.2.2.2 f (LN N);omega
   have I:=cL N aQ ce c9 a3;have bN:eI u f↔0<=f.proc/\0<=f.pc/\∃p,u.procs[f.proc.toNat]?=some p/\f.pc<p.code.length/\(il:Int)=p.locals/\(y:Int)=p.an/\∀k∈f.an,0<=k/\k<elems u.af:=by rw[c9,a3];exact Iff.rfl
   have aP:=ae bN;have cz:ca->eI u f:=λh=>(b4.1 h).2.2.2.2.2.2 ch (LN b3.1) f (LN N);have aK:=ae cz;clear aW O cJ N cH cx aQ ce c9 a3 bN cz;generalize dY:f.proc=bJ at *;generalize aJ:f.pc=p3 at *;clear dY aJ;go_upto_region 11 with(fail);generalize hX:World.alloc _ _=X;have bu:=aU hX;have bp:=aI hX;have aN:=az bu (a8.2.2.trans bu) bp;clear a0 ai af bq am aG c0 d0 d1 d2 d3;obtain⟨a0,ai,af⟩:=(ah.2.1.aj aN.2.1).two;obtain⟨ci,bO,b5⟩:=bp.two;have bm:=ah.1.trans aN.2.1;clear hX bu bp;by_cases bT:bJ<0
   .have FN:decide (bJ<0)=true:=decide_eq_true bT;have n:=ae bT;clear bT;go_quiet (fail)
    go_wp2_with(fail);go_ret;exact⟨false,rfl,⟨λh=>(by cases h),λh=>(by have ac:=aP.1 (aK.o h);have:=n.o;omega)⟩,(ah.1.trans aN.2.1).drewN _⟩
   have FN:decide (bJ<0)=false:=decide_eq_false bT;by_cases g2:bJ>=(pn:Int)
   .have bs:decide (bJ>=(pn:Int))=true:=decide_eq_true g2;have n:=ae g2;clear g2;go_quiet (fail)
    go_wp2_with(fail);go_ret;exact⟨false,rfl,⟨λh=>(by cases h),λh=>(by have ac:=aP.1 (aK.o h);have:=n.o;obtain⟨_,_,cn,hp,_⟩:=ac;have:=(List.getElem?_eq_some_iff.1 hp).1;have:=bt.2.2.2.1;omega)⟩,(ah.1.trans aN.2.1).drewN _⟩
   have bs:decide (bJ>=(pn:Int))=false:=decide_eq_false g2;have V:0<=bJ:=ad;have o:bJ<(pn:Int):=ad;obtain⟨pb,gU,cn,S,cT,b2,e,bg,cD,cK,cp,cX,bx,bK,a4,T⟩:=(bt.2.1.on bm).at_.proc (k:=bJ.toNat) (by show bJ.toNat<pn;omega);simp only at e;subst e;have bo:pb<X:=bg;have a6:cT=cn.code.length:=by have:=T.1;simpa using this.symm
   have r:=bt.2.2.2.2.1 cn (LN cD);have bj:cT<=100000:=ad;have kz:eI u f↔0<=p3/\p3<(cT:Int)/\(il:Int)=cn.locals/\(y:Int)=cn.an/\∀k∈f.an,0<=k/\k<elems u.af:=by
    rw[aP.o,a6];constructor
    .rintro⟨_,ap,p,hp,aV,bz,cI,bM⟩;rw[cD] at hp;injection hp with hp;subst hp;exact⟨ap,aV,bz,cI,bM⟩
    .rintro⟨ap,aV,bz,cI,bM⟩;exact⟨V,ap,cn,cD,aV,bz,cI,bM⟩
   have z:=ae kz;clear bT g2 bg cD a4 T a6 r kz bm;by_cases cP:p3<0
   .have bA:decide (p3<0)=true:=decide_eq_true cP;have n:=ae cP;clear cP;go_quiet (fail)
    go_wp2_with(fail);go_ret;exact⟨false,rfl,⟨λh=>(by cases h),λh=>absurd (z.1 (aK.o h)).1 (ay n.o)⟩,(ah.1.trans aN.2.1).drewN _⟩
   have bA:decide (p3<0)=false:=decide_eq_false cP;have bR:=ae cP;clear cP;by_cases db:p3>=(cT:Int)
   .have bC:decide (p3>=(cT:Int))=true:=decide_eq_true db;have n:=ae db;clear db;go_quiet (fail)
    go_wp2_with(fail);go_ret;exact⟨false,rfl,⟨λh=>(by cases h),λh=>absurd (z.1 (aK.o h)).2.1 (ay n.o)⟩,(ah.1.trans aN.2.1).drewN _⟩
   have bC:decide (p3>=(cT:Int))=false:=decide_eq_false db;have bS:=ae db;clear db;by_cases dU:¬(il:Int)=cn.locals
   .have bG:((il:Int) != cn.locals)=true:=by simpa using dU
    have n:=ae dU;clear dU;go_quiet (fail)
    go_wp2_with(fail);go_ret;exact⟨false,rfl,⟨λh=>(by cases h),λh=>absurd (z.1 (aK.o h)).2.2.1 (ay n.o)⟩,(ah.1.trans aN.2.1).drewN _⟩
   have bG:((il:Int) != cn.locals)=false:=by simpa using dU
   have bX:=ae dU;clear dU;by_cases aq:¬(y:Int)=cn.an
   .have bL:((y:Int) != cn.an)=true:=by simpa using aq
    have n:=ae aq;clear aq;go_quiet (fail)
    go_wp2_with(fail);go_ret;exact⟨false,rfl,⟨λh=>(by cases h),λh=>absurd (z.1 (aK.o h)).2.2.2.1 (ay n.o)⟩,(ah.1.trans aN.2.1).drewN _⟩
   have bL:((y:Int) != cn.an)=false:=by simpa using aq
   have b7:=ae aq;clear aq;go_quiet (fail)
   have bc:Ext X (X.drewN nq):=Mo.drewN _;generalize X.drewN nq=gT at *;have aL:=ae bc;clear bc a0 ai af ci bO b5 cK cp cX bx bK FN bs bA bC bG bL;generalize wr=bU at *;go_wp2_with(fail);go_loopw [9] (λbY wr=>∃j:Nat,bY=.int .i64 j/\j<=y/\Ext X wr/\∀(m:Nat) (e:Int),m<j->f.an[m]?=some e->0<=e/\e<elems u.af) (λbY _=>y - (intOf bY).toNat)
   case atStart=>exact⟨0,rfl,ad,aL.o,λm e hm=>ad⟩
   case round=>
    obtain⟨j,rfl,bd,a7,ar⟩:=hrel;have cd:=az a7 ar (aN.2.1.trans a7);obtain⟨a0,ai,af⟩:=(ah.2.1.aj cd.2.2).two;obtain⟨ci,bO,b5⟩:=(aN.2.2.aj a7).two;by_cases b8:j<y
    case neg=>
     obtain rfl:j=y:=ad;have bk:¬(j:Int)<(j:Int):=ad;clear a7 ar;go_wp2_with(fail);go_roundw
     case rel=>
      refine⟨k+1,by go_num,ad,a8.1.trans (aN.1.trans cd.1),λm f2 hm l=>?_⟩;by_cases dE:m=k
      .rw[dE,I.1] at l;injection l with l;subst l;refine z.2 ⟨by have:=bR.o;omega,by have:=bS.o;omega,by have:=bX.o;omega,by have:=b7.o;omega,λe he=>?_⟩;obtain⟨dv,bQ,v⟩:=List.getElem_of_mem he;exact cd.2.1 dv e (ay I.2.2.2.2) (by rw[List.getElem?_eq_getElem bQ,v])
      .exact a8.2.1 m f2 ad l
     case measure=>exact aH
    have bk:(j:Int)<(y:Int):=ad;obtain⟨lb,lo,le,e,cq,ao,ck⟩:=(I.2.2.1.on (Fr.ext (aN.1.trans a7))).rO b8;subst e;have cj:lb<wr:=cq;have b6:=ae ao;clear a7 ar cq ao;go_upto_region 16 with(fail);refine eJ (λ_=>False) [(0,3),(1,0),(2,3),(3,0),(4,3),(5,3),(6,0),(7,1),(8,3)] ?_;refine pf ?_;refine ph ?_;refine pf ?_;refine ph ?_
    iterate 2 refine pf ?_
    refine ph ?_;refine aB rfl (λK hK=>?_);go_simp;have cE:Ext wr wr.drew:=Mo.drew;refine(iR MA mn mc u.af le wr.drew ((bt.2.1.on ((ah.1.trans cd.2.2).trans cE)).at_.m.mM) bt.1).mono ?_;rintro e c6 ⟨rfl,bb⟩;have bP:Ext wr.drew c6:=Fr.of bb;have aa:=ae (Fr.aG bP);refine dq hK (bP) ?_;clear hK K;clear bb bP cE a0 ai af ci bO b5 ck;refine pf ?_;refine aF ?_;by_cases aD:a9 u.af le<0
    .have qm:decide (a9 u.af le<0)=true:=decide_eq_true aD;have aM:=ae aD;go_wp2_with(fail);go_ret;refine⟨false,rfl,⟨λh=>(by cases h),λh=>?_⟩,(ah.1.trans cd.2.2).trans aa.o⟩;have ac:=(z.1 (aK.o h)).2.2.2.2 le (LN b6.o);have ap:=eC (X:=u.af) (e:=le);have aV:=aM.o;exact absurd (ap.2 ac) ad
    .have qm:decide (a9 u.af le<0)=false:=decide_eq_false aD;have aM:=ae aD;go_wp2_with(fail);go_roundw
     case rel=>
      refine⟨j+1,by go_num,ad,cd.1.trans aa.o,λm e hm v=>?_⟩;by_cases bn:m=j
      .rw[bn,b6.o] at v;injection v with v;subst v;exact eC.1 (ay aM.o)
      .exact cd.2.1 m e ad v
     case measure=>exact aH
 ):p:=h
theorem AK(h:p:=by
 go_wp2_with(fail);refine(ti MA TA mn mc tn tc u.af s.table hn W ((bt.2.1.on ah.1).at_.m.mM) bt.1 ((bt.2.2.1.on ah.1).at_.t.holds)).mono ?_;exact BZ
 ):p:=h
theorem gS(h:p:=by
 have cl:gn=u.globals.length:=by have:=hu.at_.g.1;simpa using this.symm
 have cf:bW=s.globals.length:=by have:=hs.at_.g.1;simpa using this.symm
 have bB:hn=s.threads.length:=by have:=hs.at_.h.1;simpa using this.symm
 have dW:u.procs.length=pn:=by have:=hu.at_.p.1;rw[LO] at this;exact this
 have cZ:pn<=100000:=ad;have b4:Mw (ki u s↔bW=gn/\1<=hn/\hn<=32/\0<=s.fault/\s.fault<=4/\fk u.af s.table hn=true/\∀t∈s.threads,∀f∈t,eI u f):=ae (by rw[cl,cf,bB];exact Iff.rfl);have bt:=gr hX hu hs dW bh b1 bB;clear hX hu hs bi bh b1 cl cf bB dW;simp only at nv;dsimp only[UV.val,SV.val];generalize ki u s=ca at *;generalize al:s.fault=a1 at *;clear al;go_enter func7,ntmps7;exact AJ
 ):p:=h
end CS
open CS in
theorem IM(u:aA)(s:ak)(p:UV)(q:SV)(w:World)(hX:mr u.af)(hu:p.Ok w u)(hs:q.Ok w s)(bi:u.procs.length<=100000)(bh:∀q∈u.procs,q.code.length<=100000)(nv:q.hn<=9223372036854775807)(b1:∀t∈s.threads,t.length<=9223372036854775807/\∀f∈t,f.an.length<=9223372036854775807) :
  Calls prog 7 #[.agg (p.val u),.agg (q.val s)] w (h4 w (ki u s)):=by
 exact gR
namespace Du
theorem fy(h:p:=by
 refine ch ?_;generalize cG:World.setCell _ _ _=Y;have hi:wr<=aC:=ad;obtain⟨bH,bG,bx⟩:=ei (M:=λb=>b=S.heap.size+1) [.string (⟨#[103]⟩++strOf [byteOf bv]),.int .i64 (IntKind.i64.wrap ((j:Int) - 2))] (by rfl) ao ak hi cG;obtain⟨aj,bt⟩:∃aj:Int,aj=IntKind.i64.wrap ((j:Int) - 2):=⟨_,rfl⟩
 rw[<-bt] at bH;rw[IntWalk.i64_in _ ad] at bt;rw[ED ad aB.o] at bH;have F:=ct.next (aA.cT bx λb O h=>ad) bG;have a5:-2<=aj/\aj<=2:=ad;have bC:=ag F bH;have bQ:=ae a5;clear cG bH bG bx F bt a5 aA ak ao ci bO b5 bd;obtain⟨a0,ai,af⟩:=bC.1.blk.two;obtain⟨ci,bO,b5⟩:=bC.2.two;have m:∀b,(Value.slice GA i gc).ownBlock=some b->u<=b/\b<wr.heap.size:=λb O=>ct.rows.one.lt O;have aJ:∀b,(Value.slice aq i ba).ownBlock=some b->u<=b/\b<wr.heap.size:=λb O=>ct.rows.two.lt O;have b3:¬(Value.slice GA i gc).ownBlock=some (S.heap.size+1+1):=λh=>by have:=(m _ h).1;omega
 have c3:¬(Value.slice GA i gc).ownBlock=some aC:=λh=>by have:=(m _ h).2;omega
 have g6:u<=Y:=bC.1.hD.2;have cD:wr<=Y.heap.size:=by have:=bC.2.lt;omega
 have bh:=ag m aJ;clear m aJ;go_upto_region 18 with(fail);refine r0 (λb=>(Value.slice GA i gc).ownBlock=some b) [13,17] (.free 0 (.free 1 (.free 2 (.free 3 (.free 4 (.held 5 (.held 6 (.free 9 (.free 10 (.held 11 (.pick [7,12] (λi=>bif i == 7 then .pick [8,12] (λi=>bif i == 8 then .pick [12] (λ_=>.pick [13] (λ_=>.free 14 (.free 15 (.free 16 (.pick [17] (λ_=>.free 18 (.stop))))))) else .pick [8] (λ_=>.pick [13] (λ_=>.free 14 (.free 15 (.free 16 (.pick [17] (λ_=>.free 18 (.stop)))))))) else .pick [7] (λ_=>.pick [8] (λ_=>.pick [13] (λ_=>.free 14 (.free 15 (.free 16 (.pick [17] (λ_=>.free 18 (.stop)))))))))))))))))))) ?_
 iterate 5 refine tf ?_
 iterate 2 refine oI ?_
 iterate 2 refine tf ?_
 refine oI ?_;clear a0 ai af ci bO b5;refine iT (P:=?Lt) (ops:=?Lz) (Q:=?LD) (R:=?LG) (tails:=?LI) (rest:=.pick [13] (λ_=>.free 14 (.free 15 (.free 16 (.pick [17] (λ_=>.free 18 (.stop))))))) (aa:=?Ly)
  (C:=λ(_:Nat) bA A2 bY V=>True/\∃q1 cJ,Ext Y q1/\Gr (λb=>u<=b/\(Value.slice aq i ba).ownBlock≠some b) u 92 2 cJ A2 (i+1) bY (G.map iG++[iG (dW i,aj)])/\Fr (λb=>(Value.slice GA i gc).ownBlock=some b) q1 cJ/\dB q1 GA i gc A2 (i+1) bY/\Ext cJ V/\au V bA 9 #[.string (dW i)]) (λkey=>?Lc) ?Lb
 case Lc=>
  refine a2 ?_ ?_
  ·
   refine eu ?_;generalize hV:World.drew (World.alloc _ _)=fh;have e1:=gQ hV;have bP:au fh Y 92 #[.string (dW i),aj]:=hV▸Mp;clear hV;refine a2 ?_ ?_
   ·
    refine aE rfl (λK hK=>?_) rfl;rw[if_pos (by rfl)];refine fo vS (.tmp 108) (.tmp 110) (by rfl) (bC.1.rows.aj e1).one bP (tj.2 rfl:(iG (dW i,aj)).rep fh _ _) (by rfl) (by rfl) (by rfl) ad ad (ay e1.size) ?_;intro A2 bY aT bT f1 o1 c1;refine dq hK (f1) ?_;clear hK K;refine av ?_;refine eu ?_;have ah:True/\∃q1 cJ,Ext Y q1/\Gr (λb=>u<=b/\(Value.slice aq i ba).ownBlock≠some b) u 92 2 cJ A2 (i+1) bY (G.map iG++[iG (dW i,aj)])/\Fr (λb=>(Value.slice GA i gc).ownBlock=some b) q1 cJ/\dB q1 GA i gc A2 (i+1) bY/\Ext cJ (aT.alloc (.cells #[.string (dW i)] 9))/\au (aT.alloc (.cells #[.string (dW i)] 9)) aT 9 #[.string (dW i)]:=⟨trivial,fh,aT,e1,bT,f1,o1,Mo.alloc _,Mp⟩
    clear bT o1;revert ah;generalize aT.heap.size=bA;generalize Y.heap.size=cZ;intro ah;exact key cZ bA A2 bY _ ah
   ·
    refine eu ?_;generalize hV:World.alloc _ _=o;have a7:au o fh 9 #[.string (dW i)]:=hV▸Mp;have aR:=by have:=bP.alloc (.cells #[.string (dW i)] 9);rw[hV] at this;exact this
    have e2:Ext Y o:=hV▸e1.alloc _;clear hV bP;refine av ?_;refine aE rfl (λK hK=>?_) rfl;rw[if_pos (by rfl)];refine fo vS (.tmp 108) (.tmp 110) (by rfl) (bC.1.rows.aj e2).one aR (tj.2 rfl:(iG (dW i,aj)).rep o _ _) (by rfl) (by rfl) (by rfl) ad ad (ay e2.size) ?_;intro A2 bY aT bT f1 o1 c1;refine dq hK (f1) ?_;clear hK K;have bi:¬(Value.slice GA i gc).ownBlock=some fh.heap.size:=λO=>by have:=(bh.1 _ O).2;have:=e1.size;omega
    have ah:True/\∃q1 cJ,Ext Y q1/\Gr (λb=>u<=b/\(Value.slice aq i ba).ownBlock≠some b) u 92 2 cJ A2 (i+1) bY (G.map iG++[iG (dW i,aj)])/\Fr (λb=>(Value.slice GA i gc).ownBlock=some b) q1 cJ/\dB q1 GA i gc A2 (i+1) bY/\Ext cJ aT/\au aT fh 9 #[.string (dW i)]:=⟨trivial,o,aT,e2,bT,f1,o1,Mo,a7.on f1 bi⟩
    clear bT o1;revert ah;generalize fh.heap.size=bA;generalize Y.heap.size=cZ;intro ah;exact key cZ bA A2 bY _ ah
  ·
   refine eu ?_;generalize hV:World.drew (World.alloc _ _)=fh;have a7:au fh Y 9 #[.string (dW i)]:=hV▸Mp;have e1:=gQ hV;clear hV;refine av ?_;refine eu ?_;generalize hV:World.alloc _ _=o;have e2:Ext Y o:=hV▸e1.alloc _;have bP:=aI hV;have aV:au o Y 9 #[.string (dW i)]:=hV▸a7.alloc _;clear hV;refine av ?_;refine aE rfl (λK hK=>?_) rfl;rw[if_pos (by rfl)];refine fo vS (.tmp 108) (.tmp 110) (by rfl) (bC.1.rows.aj e2).one bP (tj.2 rfl:(iG (dW i,aj)).rep o _ _) (by rfl) (by rfl) (by rfl) ad ad (ay e2.size) ?_;intro A2 bY aT bT f1 o1 c1;refine dq hK (f1) ?_;clear hK K;have bi:¬(Value.slice GA i gc).ownBlock=some Y.heap.size:=λO=>by have:=(bh.1 _ O).2;omega
   have ah:True/\∃q1 cJ,Ext Y q1/\Gr (λb=>u<=b/\(Value.slice aq i ba).ownBlock≠some b) u 92 2 cJ A2 (i+1) bY (G.map iG++[iG (dW i,aj)])/\Fr (λb=>(Value.slice GA i gc).ownBlock=some b) q1 cJ/\dB q1 GA i gc A2 (i+1) bY/\Ext cJ aT/\au aT Y 9 #[.string (dW i)]:=⟨trivial,o,aT,e2,bT,f1,o1,Mo,aV.on f1 bi⟩
   clear bT o1;revert ah;generalize Y.heap.size=bA;generalize fh.heap.size=cZ;intro ah;exact key cZ bA A2 bY _ ah
 case Lb=>
  rintro cZ bA A2 bY V ⟨_,aS,aT,e1,bT,f1,o1,e2,a7⟩;have s1:=e1.size;have s2:=f1.size;have dN:=e2.size;obtain⟨m,aJ⟩:=bh.o;have L:=((bC.1.rows.aj e1).grow bT f1 o1).aj e2;have b8:au V (S.heap.size+1+1) _ _:=((bC.1.blk.aj e1).on f1 b3).aj e2;have cn:¬(Value.slice aq i ba).ownBlock=some (S.heap.size+1+1):=λh=>by have:=(aJ _ h).1;omega
  refine av ?_;refine bR rfl (λK hK=>?_) rfl;rw[if_pos (by rfl)];refine fo kF (.tmp 112) (.tmp 115) (by rfl) L.two a7 (uJ.2 rfl:(D.s (dW i)).rep V _ _) (by rfl) (by rfl) (by rfl) ad ad ad ?_;intro b7 ce cS g2 f2 fm c2;have Z:=(L.swap.grow g2 f2 fm).swap;have bZ:=b8.on f2 cn;have J:Fr (λb=>(Value.slice GA i gc).ownBlock=some b\/(Value.slice aq i ba).ownBlock=some b) Y cS:=((((e1.mono λ_ h=>h.elim).trans (f1.mono λ_ h=>.inl h)).trans (e2.mono λ_ h=>h.elim)).trans (f2.mono λ_ h=>.inr h))
  have r:=ag Z J;clear bT f1 o1 e1 e2 a7 L b8 g2 f2 fm c2 Z J;obtain⟨a0,ai,af⟩:=bZ.two;clear bZ;refine dX hK ?_;clear hK K
  iterate 3 refine tf ?_
  refine av ?_;refine bR rfl (λK hK=>?_) rfl;go_simp;refine dX hK ?_;clear hK K;refine tf ?_;refine ch ?_;generalize hX:World.setCell _ _ _=bU;have cb:lA u 92 2 9 1 cS A2 (i+1) bY ((G++[(dW i,aj)]).map iG) b7 (i+1) ce (((G++[(dW i,aj)]).map (·.1)).map D.s):=by
   simp only[LR,LQ,Me];exact r.1
  have f:=bC.1.add cb r.2 ad (ct.zp.snoc cl bQ.1 bQ.2);rw[hX] at f;have bE:=ae f;clear hX f cb a0 ai af;go_wp2_with(fail);go_roundw
  case rel=>exact⟨i+1,A2,bY,G++[(dW i,aj)],b7,ce,by go_num,rfl,ad,bE.o⟩
  case measure=>exact aH
 ):p:=h
theorem Av(h:p:=by
 generalize hg:IntKind.u8.wrap (IntKind.i64.wrap (48+(i:Int)))=bv;obtain⟨bJ,hS⟩:∃bJ,bJ=wr.heap.size:=⟨_,rfl⟩
 have aB:=ae hg;clear hg;have ht:(strOf [byteOf bv]).size=1:=aP _;have U:=ag ct.src (Fr.refl (λb=>b=S.heap.size+1) wr);refine g9 (P:=?oM) (ops:=?IH) (Q:=?FN) (R:=?IJ) (tails:=?IW) (rest:=.pick [14] (λ_=>.stop)) (aa:=?Ih)
  (C:=λ(a3 aC j:Nat) cP=>cr cP (S.heap.size+1) A n c l/\Fr (λb=>b=S.heap.size+1) wr cP/\au cP aC 92 #[Mq,(0:Int)]/\bJ<=aC/\j<5) (λkey=>?wI) ?wz
 case wI=>
  refine qN ?_ ?_ ?_
  ·
   refine eu ?_;refine bw (λV=>Ext wr V/\au V wr 5 #[.int .u8 bv]) ⟨(Mo.alloc _).drew,Mp⟩ (λr1 hV=>?_);have k:=ag (U.1.cT hV.1 λ_ _ h=>h) (U.2.trans (hV.1.mono λ_ h=>h.elim));have fc:wr<=wr.heap.size:=U.2.size;have T:=ae hV.2;clear hV;obtain⟨e0,be,a6⟩:=T.two;refine cC (v:=?_) rfl (by rfl) (λV hV=>?_) ?_;rotate_left
   .have a8:=fH V (wr.heap.size) bv ((hV.cell a6 ad).trans (e0 0))
    (go_simp<;>with_reducible rfl)
   try simp only[PU]
   clear e0 be a6;refine tf ?_;refine a2 ?_ ?_
   ·
    refine aE rfl (λK hK=>?_) rfl;go_simp;refine(a1 _ (S.heap.size+1) A n c l 5 (k.1.cT (M:=λ_=>False) Mo (λ_ _ h=>h)) ad ad).mono ?_;rintro e dQ ⟨gX,rfl,aZ,O,h,he⟩;obtain⟨j,rfl⟩:=LP aZ;have bd:j<5:=ad;have ak:Fr (λb=>b=S.heap.size+1) r1 dQ:=he.fr;have ax:=ag h (k.2.trans ak);have bM:=ae (T.on ak ad);refine dq hK (he.fr) ?_;clear hK K;clear h he ak aZ O
    iterate 2 refine tf ?_
    refine av ?_;refine eu ?_;refine bw (λV=>Ext dQ V/\au V dQ 92 #[Mq,(0:Int)]) ⟨Mo.alloc _,Mp⟩ (λfg hV=>?_);have aN:=ag (ax.1.cT hV.1 λ_ _ h=>h) (ax.2.trans (hV.1.mono λ_ h=>h.elim));have gn:wr<=dQ.heap.size:=ax.2.size;have bV:=ae hV.2;have dC:=ae (bM.aj hV.1);clear hV;have ah:=And.intro aN.1 (And.intro aN.2 (And.intro bV.o (And.intro (show bJ<=dQ.heap.size by omega) bd)));revert ah;generalize wr.heap.size=a3;generalize dQ.heap.size=aC;intro ah;exact key a3 aC j _ ah
   ·
    refine eu ?_;refine bw (λV=>Ext r1 V/\au V r1 92 #[Mq,(0:Int)]) ⟨Mo.alloc _,Mp⟩ (λgT hV=>?_);have aQ:=ag (k.1.cT hV.1 λ_ _ h=>h) (k.2.trans (hV.1.mono λ_ h=>h.elim));have gZ:wr<=r1.heap.size:=k.2.size;have bX:=ae hV.2;have bN:=ae (T.aj hV.1);clear hV;refine av ?_;refine aE rfl (λK hK=>?_) rfl;go_simp;refine(a1 _ (S.heap.size+1) A n c l 5 (aQ.1.cT (M:=λ_=>False) Mo (λ_ _ h=>h)) ad ad).mono ?_;rintro e gW ⟨gX,rfl,aZ,O,h,he⟩;obtain⟨j,rfl⟩:=LP aZ;have bd:j<5:=ad;have ak:Fr (λb=>b=S.heap.size+1) gT gW:=he.fr;have aW:=ag h (aQ.2.trans ak);have eJ:=ae (bN.on ak ad);have b1:=ae (bX.on ak ad);refine dq hK (he.fr) ?_;clear hK K;clear h he ak aZ O
    iterate 2 refine tf ?_
    have ah:=And.intro aW.1 (And.intro aW.2 (And.intro b1.o (And.intro (show bJ<=r1.heap.size by omega) bd)));revert ah;generalize wr.heap.size=a3;generalize r1.heap.size=aC;intro ah;exact key a3 aC j _ ah
  ·
   refine aE rfl (λK hK=>?_) rfl;go_simp;refine(a1 _ (S.heap.size+1) A n c l 5 (U.1.cT (M:=λ_=>False) (Mo.drew) (λ_ _ h=>h)) ad ad).mono ?_;rintro e f0 ⟨gX,rfl,aZ,O,h,he⟩;obtain⟨j,rfl⟩:=LP aZ;have bd:j<5:=ad;have ak:Fr (λb=>b=S.heap.size+1) wr f0:=Fr.aG he.fr;have g:=ag h (U.2.trans ak);refine dq hK (he.fr) ?_;clear hK K;clear h he ak aZ O;refine tf ?_;refine a2 ?_ ?_
   ·
    refine eu ?_;refine bw (λV=>Ext f0 V/\au V f0 5 #[.int .u8 bv]) ⟨Mo.alloc _,Mp⟩ (λbF hV=>?_);have az:=ag (g.1.cT hV.1 λ_ _ h=>h) (g.2.trans (hV.1.mono λ_ h=>h.elim));have g3:wr<=f0.heap.size:=g.2.size;have aL:=ae hV.2;clear hV;obtain⟨e0,be,a6⟩:=aL.two;refine cC (v:=?_) rfl (by rfl) (λV hV=>?_) ?_;rotate_left
    .have a8:=fH V (f0.heap.size) bv ((hV.cell a6 ad).trans (e0 0))
     (go_simp<;>with_reducible rfl)
    try simp only[PU]
    clear e0 be a6
    iterate 2 refine tf ?_
    refine av ?_;refine eu ?_;refine bw (λV=>Ext bF V/\au V bF 92 #[Mq,(0:Int)]) ⟨Mo.alloc _,Mp⟩ (λha hV=>?_);have aY:=ag (az.1.cT hV.1 λ_ _ h=>h) (az.2.trans (hV.1.mono λ_ h=>h.elim));have g4:wr<=bF.heap.size:=az.2.size;have b2:=ae hV.2;have eS:=ae (aL.aj hV.1);clear hV;have ah:=And.intro aY.1 (And.intro aY.2 (And.intro b2.o (And.intro (show bJ<=bF.heap.size by omega) bd)));revert ah;generalize f0.heap.size=a3;generalize bF.heap.size=aC;intro ah;exact key a3 aC j _ ah
   ·
    refine eu ?_;refine bw (λV=>Ext f0 V/\au V f0 92 #[Mq,(0:Int)]) ⟨Mo.alloc _,Mp⟩ (λbL hV=>?_);have aD:=ag (g.1.cT hV.1 λ_ _ h=>h) (g.2.trans (hV.1.mono λ_ h=>h.elim));have g5:wr<=f0.heap.size:=g.2.size;have b4:=ae hV.2;clear hV;refine av ?_;refine eu ?_;refine bw (λV=>Ext bL V/\au V bL 5 #[.int .u8 bv]) ⟨Mo.alloc _,Mp⟩ (λg7 hV=>?_);have ac:=ag (aD.1.cT hV.1 λ_ _ h=>h) (aD.2.trans (hV.1.mono λ_ h=>h.elim));have co:wr<=bL.heap.size:=aD.2.size;have a9:=ae hV.2;have bk:=ae (b4.aj hV.1);clear hV;obtain⟨e0,be,a6⟩:=a9.two;refine cC (v:=?_) rfl (by rfl) (λV hV=>?_) ?_;rotate_left
    .have a8:=fH V (bL.heap.size) bv ((hV.cell a6 ad).trans (e0 0))
     (go_simp<;>with_reducible rfl)
    try simp only[PU]
    clear e0 be a6
    iterate 2 refine tf ?_
    have ah:=And.intro ac.1 (And.intro ac.2 (And.intro bk.o (And.intro (show bJ<=f0.heap.size by omega) bd)));revert ah;generalize bL.heap.size=a3;generalize f0.heap.size=aC;intro ah;exact key a3 aC j _ ah
  ·
   refine eu ?_;refine bw (λV=>Ext wr V/\au V wr 92 #[Mq,(0:Int)]) ⟨(Mo.alloc _).drew,Mp⟩ (λy hV=>?_);have d:=ag (U.1.cT hV.1 λ_ _ h=>h) (U.2.trans (hV.1.mono λ_ h=>h.elim));have cp:wr<=wr.heap.size:=U.2.size;have aF:=ae hV.2;clear hV;refine a2 ?_ ?_
   ·
    refine eu ?_;refine bw (λV=>Ext y V/\au V y 5 #[.int .u8 bv]) ⟨Mo.alloc _,Mp⟩ (λcL hV=>?_);have al:=ag (d.1.cT hV.1 λ_ _ h=>h) (d.2.trans (hV.1.mono λ_ h=>h.elim));have cv:wr<=y.heap.size:=d.2.size;have X:=ae hV.2;have bl:=ae (aF.aj hV.1);clear hV;obtain⟨e0,be,a6⟩:=X.two;refine cC (v:=?_) rfl (by rfl) (λV hV=>?_) ?_;rotate_left
    .have a8:=fH V (y.heap.size) bv ((hV.cell a6 ad).trans (e0 0))
     (go_simp<;>with_reducible rfl)
    try simp only[PU]
    clear e0 be a6;refine tf ?_;refine av ?_;refine aE rfl (λK hK=>?_) rfl;go_simp;refine(a1 _ (S.heap.size+1) A n c l 5 (al.1.cT (M:=λ_=>False) Mo (λ_ _ h=>h)) ad ad).mono ?_;rintro e cU ⟨gX,rfl,aZ,O,h,he⟩;obtain⟨j,rfl⟩:=LP aZ;have bd:j<5:=ad;have ak:Fr (λb=>b=S.heap.size+1) cL cU:=he.fr;have ap:=ag h (al.2.trans ak);have cg:=ae (X.on ak ad);have bn:=ae (bl.on ak ad);refine dq hK (he.fr) ?_;clear hK K;clear h he ak aZ O
    iterate 2 refine tf ?_
    have ah:=And.intro ap.1 (And.intro ap.2 (And.intro bn.o (And.intro (show bJ<=wr.heap.size by omega) bd)));revert ah;generalize y.heap.size=a3;exact sq
   ·
    refine aE rfl (λK hK=>?_) rfl;go_simp;refine(a1 _ (S.heap.size+1) A n c l 5 (d.1.cT (M:=λ_=>False) Mo (λ_ _ h=>h)) ad ad).mono ?_;rintro e E ⟨gX,rfl,aZ,O,h,he⟩;obtain⟨j,rfl⟩:=LP aZ;have bd:j<5:=ad;have ak:Fr (λb=>b=S.heap.size+1) y E:=he.fr;have s:=ag h (d.2.trans ak);have br:=ae (aF.on ak ad);refine dq hK (he.fr) ?_;clear hK K;clear h he ak aZ O;refine tf ?_;refine av ?_;refine eu ?_;refine bw (λV=>Ext E V/\au V E 5 #[.int .u8 bv]) ⟨Mo.alloc _,Mp⟩ (λg8 hV=>?_);have aw:=ag (s.1.cT hV.1 λ_ _ h=>h) (s.2.trans (hV.1.mono λ_ h=>h.elim));have cI:wr<=E.heap.size:=s.2.size;have bc:=ae hV.2;have bs:=ae (br.aj hV.1);clear hV;obtain⟨e0,be,a6⟩:=bc.two;refine cC (v:=?_) rfl (by rfl) (λV hV=>?_) ?_;rotate_left
    .have a8:=fH V (E.heap.size) bv ((hV.cell a6 ad).trans (e0 0))
     (go_simp<;>with_reducible rfl)
    try simp only[PU]
    clear e0 be a6
    iterate 2 refine tf ?_
    have ah:=And.intro aw.1 (And.intro aw.2 (And.intro bs.o (And.intro (show bJ<=wr.heap.size by omega) bd)));revert ah;generalize E.heap.size=a3;exact sq
 case wz=>
  exact B1
 ):p:=h
end Du
open Du in
theorem Kr(S:World)(gY:Value)(z:∀K,(∀a ab,Code.wp prog (nH 19) (bodyPost prog Tryz.f11 (kp S)) a ab->K a ab)->FV S gY (bodyPost prog Tryz.f11 (kp S)) K)
  (K:Act->World->Prop) (hK:∀a ab,Code.wp prog (nH 13) (bodyPost prog Tryz.f11 (kp S)) a ab->K a ab):FU S gY (bodyPost prog Tryz.f11 (kp S)) K:=by
 unfold FU;intro A n c l ar MA mn mc M hu hw gR gV fn u8 gS eW bK gw gv cc bD u16 gx gy eX eY eZ e3 e4 e5 e6 e7 e8 e9 fa fb fd u32 fe ff fi fj fk fl fp fq fr fs ft fu fv fw fx fz fA fB fC fD fE fF fG fI fJ fK fL fM fN fO fP u64 fR fS fT fU fV fW fX fY fZ f3 f4 f5 f6 f7 f8 f9 ga gb gd ge gf gg gh gi gj gk gl gm go gp gq gr gs gt gu H I am aG aK aM aU a4 bb bf bm bo bp bq bu bz bB bI bW b6 b9 ca cd cj ck cm cq cu cw cy cB cE cF cH cK cM cN cO cQ cR cT cV cW cX cY c4 c5 c6 c7 c8 c9 da db dc dd de df dg dh di dj dk dl dm dn dp dr ds dt du dv dw dx dy dz dA dD dE dF dG dH dI dJ dK dL dM dO dP dR dS dT dU dV dY dZ d0 d1 d2 d3 d4 d5 d6 d7 d8 d9 ea eb ec ed ee ef eg eh ej ek el em en eo ep eq er es et ev ew ex ey ez eA eB eC eD eE eF eG eH eI eK eL eM eN eO eP eQ eR eT eU eV gB gC gD gE gF gG gH gI gJ gK gL gM gN gO gP w cz bg;have bj:=ae (bg.Kr cz);have g0:=ae z;obtain⟨u,hc⟩:∃u,u=w.heap.size:=⟨_,rfl⟩
 rw[<-hc] at bj;clear bg z hc;conv=>arg 2;whnf
 conv at hK=>enter [a,w,1,2];whnf
 obtain⟨a0,ai,af⟩:=bj.blk.two;go_wp2_with(fail);refine(a1 w (S.heap.size+1) A n c l 3 bj.src ad ad).mono ?_;rintro e aS ⟨cx,rfl,aO,b0,h,he⟩;obtain⟨N,rfl⟩:=LP aO;have hm:N<3:=ad;have g1:=ae (bj.next h he.fr);clear h he a0 ai af bj aO b0;go_wp2_with(fail);go_loopw [7,8] (λbS cA wr=>∃(i:Nat) (GA:Mt) (gc:Nat) (G:List (ByteArray×Int)) (aq:Mt) (ba:Nat),cA=.int .i64 i/\bS=.slice aq i ba/\i<=N/\xF S u wr A n c l ar MA mn mc M GA i gc G aq ba) (λ_ cA _=>N - (intOf cA).toNat)
 case atStart=>exact⟨0,none,0,[],none,0,rfl,rfl,ad,g1.o⟩
 case round=>
  obtain⟨i,GA,gc,G,aq,ba,rfl,rfl,aX,bg⟩:=hrel;clear g1;have ct:=ae bg;obtain⟨a0,ai,af⟩:=bg.blk.two;have cl:G.length=i:=by have:=bg.rows.one.len;simpa using this
  have hD:=bg.hD;clear bg;by_cases an:i<N
  .have gA:(i:Int)<(N:Int):=ad;have c0:i<=1:=ad;have gU:¬S+1+1=S.heap.size+1:=ad;have cf:S+1+1<wr.heap.size:=ct.blk.lt;go_upto_region 17 with(fail);exact Au
  .have gA:¬(i:Int)<(N:Int):=ad;go_upto_region 19 with(fail);have c3:=g0.o _ (by assumption);unfold FV at c3;exact c3 u A n c l ar MA mn mc M GA i gc G aq ba wr ct.o
end Go.Proofs.YtpkfopfkdgkfkaaGreat

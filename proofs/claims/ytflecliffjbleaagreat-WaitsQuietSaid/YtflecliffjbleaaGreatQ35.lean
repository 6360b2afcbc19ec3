/- Part 35 of the proof. No condition of its own. -/
import Derived.Test.YtflecliffjbleaaGreatQ34
namespace Go.Proofs.YtflecliffjbleaaGreat
open Go.RowKit Go.Proofs.Tryz
set_option maxRecDepth 1000000
set_option maxHeartbeats 25600000
set_option linter.unusedVariables false
variable{p:Prop}
namespace B8
theorem pC(h:p:=by
 exact gR.simple (st:=.ret) ⟨s,wb,sA,b2,bo,sl,GA,gn,gc,MA,mn,mc,FA,fn,fc,M,F,ar⟩ bl B eT bE d ps V T ls N L az aY QA cg qc bT aK.1 bY dD aK.2.2.2.1 ch.1 eX c2 aN (cJ.1.fresh aK.1 J λb O=>ab) aH (et mr kU (Sl.bN _) (Lb _) (Sl.bN _) (Lb _) (Sl.bN _) (Lb _)) trivial (λn hn=>by simp[ax.all] at hn) (by simp only[ax.num];omega) (Lb _) bu.2.2 aK.2.1
 ):p:=h
theorem l1(h:p:=by
 first
  | subst bO
    have cJ:=bQ
  | revert bJ
    intro bJ;have dk:decide ((bd:Int) > 0)=false:=by simp;omega
    have cx:¬(0:Int)<(bd:Int):=ab;clear bJ
    have cJ:=bQ
  | have cA:S.heap.size<wr.heap.size:=bQ.2.2.lt
    go_wp2_with(fail);refine(aX wr s sA b2 bo sl 3 bQ.1.src ab ab).mono ?_;rintro e wr ⟨cd,rfl,a2,bL,h,he⟩;have ag:=he.fr;have cJ:=aL (bQ.1.next a6 h ag) (bQ.2.1.on ag ab) (bQ.2.2.on ag ab);clear a0 ap aj a3 am aJ d0 af aS h he ag a2 bL;by_cases ai:cd=1
    case pos=>
     have q:(cd == 1)=true:=by simpa using ai
     clear ai;obtain⟨d0,af,aS⟩:=cJ.2.2.two;go_wp2_with(fail);generalize hX:World.setCell _ _ _=X;have J:=dj hX;have aH:an X S.heap.size 188 #[.int .i64 9,.string ⟨#[]⟩,.int .i64 0,.int .i64 0,.string ⟨#[]⟩,.slice none 0 0,.string ⟨#[]⟩,.slice none 0 0,.slice none 0 0,.slice none 0 0,.slice none 0 0]:=hX▸cJ.2.2.aD 0 _;exact pB
    have q:(cd == 1)=false:=by simpa using ai
    clear ai;obtain⟨a0,ap,aj⟩:=cJ.1.blk.two;obtain⟨a3,am,aJ⟩:=cJ.2.1.two;obtain⟨d0,af,aS⟩:=cJ.2.2.two
 go_wp2_with(fail);refine(q6 ⟨s,wb,sA,b2,bo,sl,GA,gn,gc,MA,mn,mc,FA,fn,fc,M,F,ar⟩ L bg au bd a8 aY ps QA cg qc bT wr (cJ.1.wr aK.1) ((Sl.cS aK.2.2.2.2.1 cJ.1.fr).mono λb O=>⟨O.1,λh=>O.2 (.inl h)⟩) ab ((Sl.cS aK.2.2.1 cJ.1.fr).mono λb O=>⟨O.1,λh=>O.2 (.inl h)⟩) br).mono ?_;rintro e aV ⟨r,IA,i,ic,rfl,a1,aq,aB,av,ag⟩;simp only at a1 av ag;have bm:S.heap.size<wr.heap.size:=cJ.2.2.lt;have l:=cJ.2.2.on ag ab;have be:=cJ.2.1.on ag ab;have aZ:=gY (cJ.1.next a6 av ag) l be (a1 (F.map λf=>(f.name,f.params))) aq aB ag.size;clear a0 ap aj a3 am aJ d0 af aS a1 aq aB av ag be;obtain⟨d0,af,aS⟩:=l.two;clear l;go_upto_region 10 with(fail);generalize hX:World.setCell _ _ _=X;have J:=EU hX;have bw:an X S.heap.size 188 #[.int .i64 5,.string ⟨#[]⟩,.int .i64 0,.int .i64 0,.string ⟨#[]⟩,.slice none 0 0,.string r.name,.slice IA i ic,.slice none 0 0,.slice none 0 0,.slice none 0 0]:=hX▸(aZ.2.1.aD 6 _).aD 7 _;have cp:Sl X (fresh wr X) IA i (r.idx.toList.map bf):=(aZ.2.2.2.2.2.1.ai λb O=>J.block b O.2 (aC O.1)).mono λb O=>⟨O.1,by have:=O.2;have:=J.size;omega⟩
 have aR:=dq (aZ.1.fresh aK.1 J λb O=>ab) bw (aZ.2.2.1.on J ab) cp (by have:=J.size;have:=aZ.2.2.2.2.2.2;omega:wr.heap.size<=X.heap.size);clear hX d0 af aS J bw cp;obtain⟨d0,af,aS⟩:=aR.2.1.two;go_upto_region 11 with(fail);generalize hU:World.alloc _ _=U;have ca:=bb hU;have bZ:=aT hU;have bG:=aR.1.aj a6 ca;have cj:Gr (λb=>(B<=b/\(Value.slice au bd a8).ownBlock≠some b)/\b≠S.heap.size) B 188 11 U bx on bp (ls.map a9):=(aK.2.2.2.1.two.mono λb ae aD=>⟨aD,ab⟩).cS bG.fr λb O hl=>⟨λh=>by have:=aK.2.2.2.2.2 b O;have:=h.1.1;omega,aK.2.2.2.2.2 b O⟩
 have bv:Gr (λ_=>False) B 9 1 U au bd a8 (bg.map D.s):=(Gr.strs aK.2.2.2.1.one).cS bG.fr λb O hl=>⟨λh=>h,aK.2.2.2.2.2 b O⟩
 have j:∀b,(Value.slice au bd a8).ownBlock=some b->b<S.heap.size:=λb O=>(aK.2.2.2.1.one.lt O).2;have m:∀b,(Value.slice bx on bp).ownBlock=some b->B<=b/\b<S.heap.size:=λb O=>aK.2.2.2.1.two.lt O;have aQ:∀b,(Value.slice au bd a8).ownBlock=some b->(Value.slice bx on bp).ownBlock≠some b:=aK.2.2.2.1.ne;have cF:X.heap.size<U.heap.size:=bZ.lt;have cT:wr.heap.size<=X.heap.size:=aR.2.2.2.2;have b0:Sl U (λb=>wr.heap.size<=b/\b<X.heap.size) IA i (r.idx.toList.map bf):=aR.2.2.2.1.ai λb O=>ca.block b O.2 λh=>h;have hD:(a9 (.lock false r)).rep U (lu (λb=>(B<=b/\(Value.slice au bd a8).ownBlock≠some b)/\b≠S.heap.size) U (.slice bx on bp)) [.int .i64 5,.string ⟨#[]⟩,.int .i64 0,.int .i64 0,.string ⟨#[]⟩,.slice none 0 0,.string r.name,.slice IA i ic,.slice none 0 0,.slice none 0 0,.slice none 0 0]:=by
  refine et mr (jC.2 ⟨IA,i,ic,rfl,aZ.2.2.2.2.1,b0.mono λb O=>⟨⟨⟨by have:=O.1;omega,λh=>by have:=j b h;have:=O.1;omega⟩,by have:=O.1;omega⟩,by have:=O.2;omega,λh=>by have:=(m b h).2;have:=O.1;omega⟩⟩) (Sl.bN _) (Lb _) (Sl.bN _) (Lb _) (Sl.bN _) (Lb _)
 have cv:=xu bG (aR.2.1.aj ca) (aR.2.2.1.aj ca) bZ cj bv b0 hD;have bt:=aL j m aQ;have b4:B<=U.heap.size:=ab;have aW:B<=X.heap.size:=ab;clear hU ca bZ bG cj bv b0 hD j m aQ d0 af aS;obtain⟨d0,af,aS⟩:=cv.2.1.two;obtain⟨a3,am,aJ⟩:=cv.2.2.1.two;go_upto_region 12 with(at_builtin;refine bI oQ rfl (.tmp 59) (.tmp 61) rfl cv.2.2.2.2.1 cv.2.2.2.2.2.2.2 rfl rfl rfl ab ab b4 ?_;intro cc bq b3 al ay cf bR;have bk:=aL al ay cf;clear al ay cf bR d0 af aS);obtain⟨a5,aP,bF⟩:=bk.o;obtain⟨j,m,aQ⟩:=bt.o;have ct:az.heap.size<B:=ab;have bD:¬(Value.slice bx on bp).ownBlock=some X.heap.size:=λh=>by have:=(m _ h).2;omega
 have aI:¬(Value.slice bx on bp).ownBlock=some S.heap.size:=λh=>by have:=(m _ h).2;omega
 have aF:¬(Value.slice bx on bp).ownBlock=some bl:=λh=>by have:=(m _ h).1;omega
 have aG:oN ⟨s,wb,sA,b2,bo,sl,GA,gn,gc,MA,mn,mc,FA,fn,fc,M,F,ar⟩ az b3 L:=(oN.mk cv.1.src cv.1.blk (bu.2.2.trans cv.1.fr) cv.1.le).fresh bu.1 aP λb O=>by have:=(m b O).1;omega
 have bU:=cv.2.2.2.2.2.1.c7 aP.size λb aw hp=>aP.block b aw (hp.elim (λh=>h.elim) λhp=>aQ b hp);have e2:Sl b3 (λb=>wr.heap.size<=b/\b<X.heap.size) IA i (r.idx.toList.map bf):=cv.2.2.2.2.2.2.1.ai λb O=>aP.block b (aC O.2) λh=>by have:=(m b h).2;have:=O.1;omega
 have ao:=gY aG (cv.2.1.on aP aI) (cv.2.2.1.on aP aF) (cv.2.2.2.1.on aP bD) a5 bU e2;have R:∀b,(Value.slice cc (on+1) bq).ownBlock=some b->(B<=b/\b<S.heap.size/\(Value.slice bx on bp).ownBlock=some b)\/U.heap.size<=b:=λb O=>(bF b O).imp (λh=>⟨(m b h).1,(m b h).2,h⟩) id;have bn:=ah R aP.size;clear a5 aP bF j m aQ bD aI aF aG bU e2 R cv bk a3 am aJ;obtain⟨a3,am,aJ⟩:=ao.2.2.1.two;have hh:Sl b3 (off (λb=>b=s\/b=wb) b3) au bd (bg.map D.s):=ao.2.2.2.2.2.1.sl (λ_ _ h=>h.elim) (λb O aN=>⟨O,λh=>ab⟩);go_wp2_with(fail);refine(ch.2.2 L ab 0 2 bg (T++decls ls) au bd a8 aY ps QA cg qc bT b3 ab ab (ao.1.wr bu.1) hh ab (λk ai=>ch.2.1 k ab) (Sl.cS bu.2.1 ao.1.fr) br).mono ?_;rintro e cz ⟨Z,bC,cC,aE,bP,rfl,ac,b9,b6,ck,z⟩
 try simp only at z
 clear a3 am aJ hh;have bh:=ac.le;have cw:L<=24:=ao.1.le;have cB:aE<=48:=by
  have ae:=ac.num;have aD:=ur Z;have aU:=b6.1;simp only[Lf] at aU;omega
 have R:=bn.1;have cE:=bn.2;have aa:∀b,(b=s\/b=wb)->b<az.heap.size:=λb O=>by
  have ae:=bu.1.src.lt;have aD:=bu.1.blk.lt;simp only at ae aD;rcases O with O|O<;>omega
 have ct:az.heap.size<B:=ab;have cm:=ao.2.2.2.2.1.cS z λb O hl=>⟨λh=>by have:=aa b O;have:=h.1.1;omega,by have:=aa b O;omega⟩
 have bW:=ao.2.2.2.2.2.1.cS z λb O hl=>⟨λh=>h,by have:=aa b O;omega⟩
 have cn:Sl cz (λb=>wr.heap.size<=b/\b<X.heap.size) IA i (r.idx.toList.map bf):=ao.2.2.2.2.2.2.ai λb O=>z.block b (aC O.2) λh=>by have:=aa b h;have:=O.1;omega
 have dp:=bt.1;have bM:Sl cz (lu (λb=>(B<=b/\(Value.slice au bd a8).ownBlock≠some b)/\b≠S.heap.size) cz (.slice cc (on+1) bq)) cC aE (Z.map a9):=b6.mono λb O=>⟨⟨⟨by have:=O.1;omega,λh=>by have:=dp b h;have:=O.1;omega⟩,by have:=O.1;omega⟩,O.2,λh=>by
  have ae:=O.1;rcases R b h with aD|aD
  .omega
  .have:=(ao.2.2.2.2.1.lt h).2;omega⟩
 have P:=xv (ao.1.HF ck z) (ao.2.1.on z λh=>by have:=aa _ h;omega) (ao.2.2.1.on z λh=>by have:=aa _ h;omega) (ao.2.2.2.1.on z λh=>by have:=aa _ h;omega) cm bW cn bM ac;have ba:∀d∈Z.map a9,d.sz=11:=λd hd=>by obtain⟨x,_,rfl⟩:=Lz.1 hd;exact wc x
 have cl:B<=cz.heap.size:=by have:=z.size;omega
 have aO:U.heap.size<=cz.heap.size:=by have:=z.size;omega
 clear ac b9 b6 ck z cm bW cn bM ao R dp;go_upto_region 13 with(at_builtin;refine xj oQ rfl (.tmp 63) (.tmp 67) rfl P.2.2.2.2.1 P.2.2.2.2.2.2.2.1 ba rfl rfl ab ab cl ?_;intro cq bN b5 al ay cf bR;have dr:=aL al ay cf;clear al ay cf bR);obtain⟨bB,aA,bH⟩:=dr.o;have R:=bn.1;obtain⟨j,m,aQ⟩:=bt.o;have bi:∀b,(Value.slice au bd a8).ownBlock=some b->(Value.slice cc (on+1) bq).ownBlock≠some b:=λb O h=>by
  rcases R b h with aD|aD
  .exact aQ b O aD.2.2
  .have:=j b O;omega
 have bD:¬(Value.slice cc (on+1) bq).ownBlock=some X.heap.size:=λh=>by rcases R _ h with aD|aD<;>omega
 have aI:¬(Value.slice cc (on+1) bq).ownBlock=some S.heap.size:=λh=>by rcases R _ h with aD|aD<;>omega
 have aF:¬(Value.slice cc (on+1) bq).ownBlock=some bl:=λh=>by rcases R _ h with aD|aD<;>omega
 have ci:=P.1.fresh bu.1 aA λb O=>by rcases R _ O with aD|aD<;>omega
 have bX:=P.2.2.2.2.2.1.c7 aA.size λb aw hp=>aA.block b aw (hp.elim (λh=>h.elim) λhp=>bi b hp);have co:Sl b5 (λb=>wr.heap.size<=b/\b<X.heap.size) IA i (r.idx.toList.map bf):=P.2.2.2.2.2.2.1.ai λb O=>aA.block b (aC O.2) λh=>by have ae:=O.1;have aU:=O.2;rcases R _ h with aD|aD<;>omega
 have bV:=gY ci (P.2.1.on aA aI) (P.2.2.1.on aA aF) (P.2.2.2.1.on aA bD) bB bX co;have bc:∀b,(Value.slice cq (on+1+aE) bN).ownBlock=some b->(B<=b/\b<S.heap.size/\(Value.slice bx on bp).ownBlock=some b)\/U.heap.size<=b:=λb O=>by
  rcases bH b O with ae|ae
  .exact R b ae
  .exact .inr ab
 have cr:=ad bc;clear bB aA bH R j m aQ bi bD aI aF ci bX co bc dr;obtain⟨d0,af,aS⟩:=bV.2.1.two;obtain⟨bs,a7,bS⟩:=bV.2.2.2.1.two;go_wp2_with(fail);generalize b7:World.setCell _ _ _=Y;have b1:az.heap.size<=S.heap.size:=bu.2.2.size;obtain⟨bz,bA,bj⟩:=dR (M:=λb=>b=s\/b=wb) (w:=az) [.int .i64 6,.string ⟨#[]⟩,.int .i64 0,.int .i64 0,.string ⟨#[]⟩,.slice none 0 0,.string r.name,.slice IA i ic,.slice none 0 0,.slice none 0 0,.slice none 0 0] (by rfl) bV.2.1 bV.1.fr b1 b7;have j:=bt.1;have bc:=cr.o;have yM:=bV.2.2.2.2.2.1;have c4:=bV.2.2.2.2.1;have ac:=P.2.2.2.2.2.2.2.2;have cu:Sl Y (λb=>wr.heap.size<=b/\b<X.heap.size) IA i (r.idx.toList.map bf):=bV.2.2.2.2.2.2.ai λb O=>bj.block b (pF O.2 bV.2.2.2.1.lt) (aC O.1);have cy:b5.heap.size<=Y.heap.size:=bj.size;have cD:X.heap.size<b5.heap.size:=bV.2.2.2.1.lt
 try refine hN _ _ ?_
 unfold lZ;refine⟨au,bd,a8,cq,on+1+aE,bN,?_⟩
 iterate 240 apply Exists.intro
 refine⟨?_,rfl⟩;refine⟨bg,.lock false r::Z,.lock true r,bC,_,bV.1.fresh bu.1 bj (λb O=>ab),bV.2.2.1.on bj ab,⟨?_,?_,λb O h=>?_⟩,bz,?_,E3 aZ.2.2.2.1 ch.1 ac.wf,?_,?_,bh,?_,ab,ab⟩
 .exact Gr.strs (yM.c7 bj.size λb aw hp=>bj.block b aw (hp.elim (λh=>h.elim) λhp=>by have:=j b hp;omega))
 .have ae:=(c4.c7 bj.size λb aw hp=>bj.block b aw (by
   rcases hp with hp|hp
   .exact hp.2
   .rcases bc b hp with aD|aD<;>omega)).mono λb _ hp=>hp.1
  have he:(ls++(ax.lock false r::Z)).map a9=(ls.map a9++[a9 (.lock false r)])++Z.map a9:=by simp
  rw[he];exact ae
 .rcases bc b h with aD|aD
  .exact bt.2.2 b O aD.2.2
  .have:=j b O;omega
 .exact et mr (jC.2 ⟨IA,i,ic,rfl,aZ.2.2.2.2.1,cu.mono λb O=>⟨⟨by have:=O.1;omega,λh=>by have:=j b h;have:=O.1;omega⟩,by have:=O.2;omega,λh=>by have ae:=O.1;have aU:=O.2;rcases bc b h with aD|aD<;>omega⟩⟩) (Sl.bN _) (Lb _) (Sl.bN _) (Lb _) (Sl.bN _) (Lb _)
 .intro n hn;rw[Lq,all_cons,xJ,all_cons] at hn;simp only[ax.all,ak.eH,ak.all,LD,LC] at hn;obtain⟨k,ae,aD,aU⟩:=ac.all n hn;exact⟨k,ae,ab,aU⟩
 .rw[Lq,kR,x7,td];have:=ac.num;simp only[ax.num];omega
 .intro y a4;have:=ch.1 a4;exact z4
 ):p:=h
end B8
open B8 in
theorem yk(k:Int)(d bd:Nat)(h:k=8/\bd=0\/k=11/\d=0\/k=12/\d=0\/k=13):SK k d bd:=by
 rcases h with⟨rfl,bJ⟩|⟨rfl,bO⟩|⟨rfl,bO⟩|rfl
 all_goals
  exact l0
namespace B9
theorem pC(h:p:=by
 have b1:=bV.o;subst b1;exact gR.simple (st:=.call dc g.name aI) ⟨s,wb,sA,b2,bo,sl,GA,gn,gc,MA,mn,mc,_,fn,fc,M,F,ar⟩ bl B eT bE d ps V T ls N L az aY QA cg qc bT aK.1 bY dD aK.2.2.2.1 ch.1 eX c2 aN (ak.fresh aK.1 J λb O=>ab) aH (et mr kU ((b3.ai λb O=>J.block b O.2 (aC O.1)).mono λb O=>⟨by have:=O.1;omega,by have:=O.2;omega⟩) aF (Sl.bN _) (Lb _) (Sl.bN _) (Lb _)) ⟨g.params,Lz.2 ⟨g,bO.o,rfl⟩,nW ch.1 _ _ (a1 _)⟩ (λn hn=>by simp[ax.all] at hn) (by simp only[ax.num];omega) (Lb _) bu.2.2 aK.2.1
 ):p:=h
theorem jU(h:p:=by
 generalize bP:World.setCell _ _ _=Y;have J:=EU bP;have aH:an Y S.heap.size 188 #[.int .i64 bU,.string g.name,.int .i64 0,.int .i64 0,.string ⟨#[]⟩,.slice none 0 0,.string ⟨#[]⟩,.slice none 0 0,.slice KA k kc,.slice none 0 0,.slice none 0 0]:=bP▸(aZ.2.1.aD 1 _).aD 8 _;clear bP d0 af aS;go_wp2_with(fail);obtain⟨ak,_,a1,aF,b3,bv⟩:=aZ.o;have bP:=J.size;exact pB
 ):p:=h
theorem gA(h:p:=by
 refine cB ?_;generalize bD:World.setCell _ _ _=Z;obtain⟨bH,bn,bC⟩:=dR (M:=λb=>b=s) [.string g.name,.slice bM bI bX,.slice m aW ac] (by rfl) eJ ag gE bD;have bm:S.heap.size<X.heap.size:=aR.2.1.lt;have bZ:s<X.heap.size:=ab;have bN:cc Z s sA b2 bo sl:=av.cM bC λb O h=>ab;have bh:=aR.1.next a6 bN bn;have bc:=ej bh (aR.2.1.on bn ab) (aR.2.2.1.on bn ab) bH bq bJ;have ci:¬bF=s:=ab;have b0:=bn.size;clear bD bH bn bC bN bh bq bJ ag av eJ bs a7 bS;obtain⟨a3,am,aJ⟩:=bc.2.2.1.two;obtain⟨bs,a7,bS⟩:=bc.2.2.2.1.two;have b7:¬bl=s:=ab;have bA:bI<=2:=by
  have ae:=bc.2.2.2.2.2.1;have aD:=bj g bc.2.2.2.2.1;simp at ae;omega
 go_upto_region 28 with(fail);refine eU (λb=>b=s) [(0,3),(1,0),(2,3),(3,0),(4,0),(5,3),(7,3),(6,1),(8,2),(9,3),(10,2)] ?_;refine pf ?_;refine qF ?_;refine pf ?_
 iterate 2 refine qF ?_
 iterate 2 refine pf ?_
 refine aO rfl (λK hK=>?_);go_simp;refine(zk ⟨s,wb,sA,b2,bo,sl,GA,gn,gc,MA,mn,mc,_,fn,fc,M,F,ar⟩ L bg au bd a8 aY ps QA cg qc bT g.name g.params bM bI bX (.slice m aW ac) Z.drew ((bc.1.aj a6 LL.drew).wr aK.1) ((Sl.cS aK.2.2.2.2.1 (bc.1.aj a6 LL.drew).fr).mono λb O=>⟨O.1,λh=>O.2 (.inl h)⟩) ab ((Sl.cS aK.2.2.1 (bc.1.aj a6 LL.drew).fr).mono λb O=>⟨O.1,λh=>O.2 (.inl h)⟩) br ((Sl.cS bc.2.2.2.2.2 (bc.1.aj a6 LL.drew).fr).mono λb O=>⟨O.1,λh=>O.2 (.inl h)⟩) bA).mono ?_;rintro e aV ⟨aI,KA,k,kc,rfl,a1,aF,b3,av,ag⟩;simp only at a1 av ag;have ai:Fr (λb=>b=s) Z aV:=Fr.aQ ag;have l:=bc.2.1.on ai ab;have aZ:=ej (bc.1.next a6 av ai) l a1 aF b3 ai.size;have bO:=ad bc.2.2.2.2.1;have b4:X.heap.size<=Z.drew.heap.size:=b0;refine ei hK (ag) ?_;clear hK K;clear a3 am aJ bs a7 bS ag av b3 aF a1 ai;obtain⟨d0,af,aS⟩:=l.two;clear l;exact vQ
 ):p:=h
theorem l1(h:p:=by
 have bB:=aK.1.nf;have bj:=aK.1.iT;simp only at bB bj;have cy:¬wb=s:=ab;obtain⟨b5,cG,be,_⟩:=aK.1.fs.some_ bB.1;simp only at be;subst be;go_upto_region 27 with(fail);generalize hX:World.setCell _ _ _=X;have J:Fr (λb=>b=S.heap.size) wr X:=by rw[<-hX];first|exact(Fr.refl (λb=>b=S.heap.size) wr).setCell (.inl rfl) _|exact((Fr.refl (λb=>b=S.heap.size) wr).setCell (.inl rfl) _).setCell (.inl rfl) _
 have bw:an X S.heap.size 188 #[.int .i64 bU,.string ⟨#[]⟩,.int .i64 0,.int .i64 0,.string ⟨#[]⟩,.slice none 0 0,.string ⟨#[]⟩,.slice none 0 0,.slice none 0 0,.slice none 0 0,.slice none 0 0]:=by rw[<-hX,aL.o];first|exact(bQ.2.2.aD 0 _)|exact(bQ.2.2.aD 0 _).aD 0 _
 have H:=bQ.1.fresh aK.1 J λb O=>ab;have a4:=bQ.2.1.on J ab;have aR:=bG H bw a4 J.size;clear hX a0 ap aj a3 am aJ d0 af aS J bw H a4;obtain⟨a0,ap,aj⟩:=aR.1.blk.two;refine uP (λb=>b=s) [19] (.free 0 (.free 1 (.free 2 (.free 3 (.held 4 (.free 5 (.free 6 (.free 7 (.held 8 (.free 9 (.free 10 (.free 11 (.free 12 (.held 13 (.free 14 (.pick [15,18] (λi=>bif i == 15 then .free 16 (.held 17 (.pick [18] (λ_=>.pick [19] (λ_=>.stop)))) else .pick [15] (λ_=>.free 16 (.held 17 (.pick [19] (λ_=>.stop))))))))))))))))))))) ?_
 iterate 4 refine tf ?_
 refine oJ ?_
 iterate 3 refine tf ?_
 refine oJ ?_
 iterate 4 refine tf ?_
 refine oJ ?_;refine tf ?_;clear a0 ap aj;refine iK (P:=?_) (ops:=?_) (Q:=?_) (R:=?_) (tails:=?_) (rest:=.pick [19] (λ_=>.stop)) (aa:=?_)
  (C:=λ(bF:Nat) (j:Nat) (y:Value) dG=>Fr (λb=>b=s) X dG/\cc dG s sA b2 bo sl/\an dG bF 137 #[.string ⟨#[]⟩,.slice none 0 0,.slice none 0 0]/\X.heap.size<=bF/\∃(g:aA) (bM:LP) (bI bX:Nat) (m:LP) (aW ac:Nat),y=.agg #[.string g.name,.slice bM bI bX,.slice m aW ac]/\g∈F/\Sl S (off (λb=>b=s\/b=wb) S) bM bI (g.params.map ct)) (λkey=>?_) ?_
 rotate_left 6
 ·
  refine bt ?_ ?_
  ·
   refine aG rfl (λK hK=>?_) rfl;go_simp;refine(aX X.drew s sA b2 bo sl fn (aR.1.aj a6 LL.drew).src ab ab).mono ?_;rintro e aP ⟨cd,rfl,a2,bL,h,he⟩;obtain⟨j,rfl⟩:=Lg a2;have bR:j<fn:=ab;have ag:Fr (λb=>b=s) X aP:=Fr.aQ he.fr;have ah:Fr (λb=>b=s\/b=wb) S aP:=aR.1.fr.trans (ag.mono λ_ h=>.inl h);refine ei hK (he.fr) ?_;clear hK K;obtain⟨bf,bW,g,cs,U,bk,r,I,bi,hc⟩:=Sl.gZ (z:=3) aK.1.fs (λ_=>rfl) (k:=j) (by simpa using bR);injection U with U;injection U with hFA1 hFA2;subst hFA1 hFA2;obtain⟨bM,bI,bX,m,aW,ac,rfl,bz,bJ⟩:=D5 I;have e0:=(ah.cell bk.1 bk.2).trans (hc 0 _ rfl);have e1:=(ah.cell bk.1 bk.2).trans (hc 1 _ rfl);have e2:=(ah.cell bk.1 bk.2).trans (hc 2 _ rfl);simp only[Ll] at e0;have cn:b5<aP.heap.size:=by have:=ah.size;have:=bk.1;omega
   have a5:¬b5=s:=λh=>bk.2 (.inl h);have b9:(0:Int)<=(j:Int):=ab;have f0:(j:Int)<(fn:Int):=ab;have a9:=Le r;skip
   refine tf ?_;refine J8 ?_;refine ao ?_;refine fj ?_;generalize bD:World.alloc _ _=Z;have e3:=bb bD;have aE:Fr (λb=>b=s) X Z/\cc Z s sA b2 bo sl/\an Z aP.heap.size 137 #[.string ⟨#[]⟩,.slice none 0 0,.slice none 0 0]/\X.heap.size<=aP.heap.size/\∃(aw:aA) (al:LP) (G aU:Nat) (ay:LP) (aT aQ:Nat),(Value.agg #[.string g.name,.slice bM bI bX,.slice m aW ac])=.agg #[.string aw.name,.slice al G aU,.slice ay aT aQ]/\aw∈F/\Sl S (off (λb=>b=s\/b=wb) S) al G (aw.params.map ct):=
    ⟨ag.trans (e3.mono λ_ h=>h.elim),h.cM e3 λ_ _ h=>h,by rw[<-bD];exact LM,ag.size,g,bM,bI,bX,_,_,_,rfl,a9,bJ⟩
   clear bD e3 bJ I bi hc e0 e1 e2;revert aE;generalize aP.heap.size=bF;generalize (Value.agg #[.string g.name,.slice bM bI bX,.slice m aW ac])=y;intro aE;exact key bF j y _ aE
  ·
   refine fj ?_;generalize hV:World.drew (World.alloc _ _)=c3;have e1:=gX hV;have ca:=lN hV;have b6:=ca.lt;refine ao ?_;refine aG rfl (λK hK=>?_) rfl;go_simp;refine(aX c3 s sA b2 bo sl fn (aR.1.aj a6 e1).src ab ab).mono ?_;rintro e aP ⟨cd,rfl,a2,bL,h,he⟩;obtain⟨j,rfl⟩:=Lg a2;have bR:j<fn:=ab;have ag:Fr (λb=>b=s) X aP:=(e1.mono λ_ h=>h.elim).trans he.fr;have ah:Fr (λb=>b=s\/b=wb) S aP:=aR.1.fr.trans (ag.mono λ_ h=>.inl h);have cf:s<X.heap.size:=by have:=aR.2.2.2;omega
   refine ei hK (he.fr) ?_;clear hK K;obtain⟨bf,bW,g,cs,U,bk,r,I,bi,hc⟩:=Sl.gZ (z:=3) aK.1.fs (λ_=>rfl) (k:=j) (by simpa using bR);injection U with U;injection U with hFA1 hFA2;subst hFA1 hFA2;obtain⟨bM,bI,bX,m,aW,ac,rfl,bz,bJ⟩:=D5 I;have e0:=(ah.cell bk.1 bk.2).trans (hc 0 _ rfl);have e1:=(ah.cell bk.1 bk.2).trans (hc 1 _ rfl);have e2:=(ah.cell bk.1 bk.2).trans (hc 2 _ rfl);simp only[Ll] at e0;have cn:b5<aP.heap.size:=by have:=ah.size;have:=bk.1;omega
   have a5:¬b5=s:=λh=>bk.2 (.inl h);have b9:(0:Int)<=(j:Int):=ab;have f0:(j:Int)<(fn:Int):=ab;have a9:=Le r;skip
   refine tf ?_;refine J8 ?_;have aE:Fr (λb=>b=s) X aP/\cc aP s sA b2 bo sl/\an aP X.heap.size 137 #[.string ⟨#[]⟩,.slice none 0 0,.slice none 0 0]/\X.heap.size<=X.heap.size/\∃(aw:aA) (al:LP) (G aU:Nat) (ay:LP) (aT aQ:Nat),(Value.agg #[.string g.name,.slice bM bI bX,.slice m aW ac])=.agg #[.string aw.name,.slice al G aU,.slice ay aT aQ]/\aw∈F/\Sl S (off (λb=>b=s\/b=wb) S) al G (aw.params.map ct):=
    ⟨ag,h,ca.on he.fr ab,Lb _,g,bM,bI,bX,_,_,_,rfl,a9,bJ⟩
   clear hV bJ I bi hc e0 e1 e2;revert aE;generalize (Value.agg #[.string g.name,.slice bM bI bX,.slice m aW ac])=y;intro aE;exact key X.heap.size j y _ aE
 ·
  rintro bF j y dG ⟨ag,av,eJ,gE,g,bM,bI,bX,m,aW,ac,rfl,bq,bJ⟩;obtain⟨bs,a7,bS⟩:=eJ.two;exact hk
 ):p:=h
end B9
open B9 in
theorem El(dc:Bool)(k:Int)(d bd:Nat)(h:dc=false/\k=9\/dc=true/\k=10):SK k d bd:=by
 obtain⟨bU,ba⟩:∃bU:Int,bU=if dc then 4 else 3:=⟨_,rfl⟩
 have bV:=ad ba;rcases h with⟨O,rfl⟩|⟨O,rfl⟩
 all_goals
  rw[O] at ba;have aL:=ad ba;clear ba O;exact l0
namespace Ca
theorem pC(h:p:=by
 exact gR.simple (st:=.ite x (.eH Z) .nil) ⟨s,wb,sA,b2,bo,sl,GA,gn,gc,MA,mn,mc,FA,fn,fc,M,F,ar⟩ bl B eT bE d ps V T ls N L az aY QA cg qc bT aK.1 bY dD aK.2.2.2.1 ch.1 eX c2 aN ao.1 aH (et (aW.2 ⟨cu,cr,cD,rfl,aZ.2.2.2.1,ao.2.2.2.1⟩) kU (Sl.bN _) (Lb _) ao.2.2.2.2 bB.2.2.2.1 (Sl.bN _) (Lb _)) ⟨i,j.1,dF ch.1 2 x aZ.2.2.1,(dc _ i i bg _ _ _ ch.1 (λ_ _ h=>h) (Lb _) bB.2.2.1.wf),lF⟩ (λn hn=>by simp only[ax.all,ak.all,LC] at hn;obtain⟨k,ae,aD,aU⟩:=bB.2.2.1.all n hn;exact⟨k,ae,ab,aU⟩) (by simp only[ax.num,ak.num];omega) aQ bu.2.2 aK.2.1
 ):p:=h
theorem Ac(h:p:=by
 obtain⟨a0,ap,aj⟩:=aR.1.blk.two;go_wp2_with(fail);refine(aX X s sA b2 bo sl 2 aR.1.src ab ab).mono ?_;rintro e b3 ⟨cd,rfl,a2,bL,h,he⟩;have ag:=he.fr;have cf:s<X.heap.size:=aR.1.src.lt;have aG:=aR.1.next a6 h ag;have bW:=aR.2.1.on ag ab;have ao:=dq aG bW (aR.2.2.1.on ag aw) (aR.2.2.2.1.Du ag λb O=>ab) (aR.2.2.2.2.Du ag λb O=>ab);have bz:S.heap.size<b3.heap.size:=bW.lt;have bk:=ah ag.size (λb (ae:b<X.heap.size) (aD:¬b=s)=>ag.block b ae aD);clear a0 ap aj h he ag aG a2 bL bW;have aA:=bB.2.2.1.num;by_cases ai:cd=1
 case neg=>
  have q:(cd == 1)=false:=by simpa using ai
  clear ai;go_wp2_with(fail);have aH:=ao.2.1;exact pB
 case pos=>
  have q:(cd == 1)=true:=by simpa using ai
  clear ai;obtain⟨a3,am,aJ⟩:=ao.2.2.1.two;go_wp2_with(fail)
  first
   | rw[j.2,show IntKind.i64.wrap ((i:Nat):Int)=((i:Nat):Int) from IntWalk.i64_in _ ab]
   | rw[j.2]
  refine(ch.2.2 bC ab i 3 bg (T++decls ls) au bd a8 aY ps QA cg qc bT b3 ab ab (ao.1.wr aK.1) (Sl.cS aK.2.2.2.2.1 ao.1.fr) ab (λk ai=>ch.2.1 k ab) (Sl.cS aK.2.2.1 ao.1.fr) br).mono ?_;rintro e cz ⟨t,bJ,aT,bh,bs,rfl,cc,bR,bv,P,aa⟩;have u:¬(S.heap.size=s\/S.heap.size=wb):=ab;have W:=ao.2.1.on aa u;have aI:bJ<=bC:=cc.le;have bU:=ej (ao.1.HF P aa) W cc bR bv aa;clear cc bR bv P aa a3 am aJ;obtain⟨d0,af,aS⟩:=W.two;clear W;go_wp2_with(fail);generalize b7:World.setCell _ _ _=Y;have J:=dj b7;have aH:an Y S.heap.size 188 #[.int .i64 7,.string ⟨#[]⟩,.int .i64 x.aZ,.int .i64 x.numOf,.string x.bk,.slice cu cr cD,.string ⟨#[]⟩,.slice none 0 0,.slice none 0 0,.slice m aE bP,.slice aT bh bs]:=b7▸bU.2.1.aD 10 _;clear b7 d0 af aS;have z:=bU.2.2.2.2.2;have bi:=bU.2.2.1.num;have bN:∀b,S.heap.size<=b->¬(b=s\/b=wb):=λb O h=>ab;have bc:Sl X (λb=>S.heap.size<b/\b<X.heap.size) cu cr (x.args.map bf):=aL.1;have a9:Sl X (λb=>S.heap.size<b/\b<X.heap.size) m aE (cY (.eH Z)):=aL.2;have bj:∀b,S.heap.size<b->b<X.heap.size->Y.heap[b]?=X.heap[b]?:=λb ae aD=>(J.block b (pF bk.1 z.size) ab).trans ((z.block b (aC bk.1) (bN b ab)).trans (bk.2 b aD ab));have bI:X.heap.size<=Y.heap.size:=by have:=bk.1;have:=z.size;have:=J.size;omega
  have bq:Sl Y (fresh S Y) cu cr (x.args.map bf):=(bc.ai λb O=>bj b O.1 O.2).mono λb O=>⟨by have:=O.1;omega,by have:=O.2;omega⟩
  have bn:Sl Y (fresh S Y) m aE (cY (.eH Z)):=(a9.ai λb O=>bj b O.1 O.2).mono λb O=>⟨by have:=O.1;omega,by have:=O.2;omega⟩
  have a7:Sl Y (fresh S Y) aT bh (cY (.eH t)):=by
   rw[mO];exact(bU.2.2.2.2.1.ai λb O=>J.block b O.2 (aC O.1)).mono λb O=>⟨by have:=O.1;omega,by have:=O.2;have:=J.size;omega⟩
  try refine hN _ _ ?_
  unfold lZ;refine⟨au,bd,a8,bx,on,bp,?_⟩
  iterate 240 apply Exists.intro
  refine⟨?_,rfl⟩;exact gR.simple (st:=.ite x (.eH Z) (.eH t)) ⟨s,wb,sA,b2,bo,sl,GA,gn,gc,MA,mn,mc,FA,fn,fc,M,F,ar⟩ bl B eT bE d ps V T ls N L az aY QA cg qc bT aK.1 bY dD aK.2.2.2.1 ch.1 eX c2 aN (bU.1.fresh aK.1 J λb O=>ab) aH (et (aW.2 ⟨cu,cr,cD,rfl,aZ.2.2.2.1,bq⟩) kU (Sl.bN _) (Lb _) bn bB.2.2.2.1 a7 bU.2.2.2.1) ⟨i,j.1,dF ch.1 2 x aZ.2.2.1,(dc _ i i bg _ _ _ ch.1 (λ_ _ h=>h) (Lb _) bB.2.2.1.wf),(dc _ i i bg _ _ _ ch.1 (λ_ _ h=>h) (Lb _) bU.2.2.1.wf)⟩ (λn hn=>by simp only[ax.all] at hn;exact(Lk.1 hn).elim (λhn=>by obtain⟨k,ae,aD,aU⟩:=bB.2.2.1.all n hn;exact⟨k,ab,ab,aU⟩) (λhn=>by obtain⟨k,ae,aD,aU⟩:=bU.2.2.1.all n hn;exact⟨k,ae,ab,aU⟩)) (by simp only[ax.num];omega) ab bu.2.2 aK.2.1
 ):p:=h
theorem z7(h:p:=by
 have bw:an X S.heap.size 188 #[.int .i64 7,.string ⟨#[]⟩,.int .i64 x.aZ,.int .i64 x.numOf,.string x.bk,.slice cu cr cD,.string ⟨#[]⟩,.slice none 0 0,.slice none 0 0,.slice m aE bP,.slice none 0 0]:=hX▸(((((bB.2.1.aD 0 _).aD 2 _).aD 3 _).aD 4 _).aD 5 _).aD 9 _;exact Ab
 ):p:=h
theorem AU(h:p:=by
 go_upto_region 30 with(fail);exact Bd
 ):p:=h
theorem l1(h:p:=by
 exact AT
 ):p:=h
end Ca
open Ca in
theorem I5(d bd:Nat)(bO:0<d):SK 11 d bd:=by
 exact l0
namespace Cb
theorem pC(h:p:=by
 exact gR.simple (st:=.gp x (.eH Z)) ⟨s,wb,sA,b2,bo,sl,GA,gn,gc,MA,mn,mc,FA,fn,fc,M,F,ar⟩ bl B eT bE d ps V T ls N L az aY QA cg qc bT aK.1 bY dD aK.2.2.2.1 ch.1 eX c2 aN aR.1 aH (et (aW.2 ⟨cu,cr,cD,rfl,aZ.2.2.2.1,aR.2.2.2.1⟩) kU (Sl.bN _) (Lb _) aR.2.2.2.2 bB.2.2.2.1 (Sl.bN _) (Lb _)) ⟨i,j.1,dF ch.1 2 x aZ.2.2.1,(dc _ i i bg _ _ _ ch.1 (λ_ _ h=>h) (Lb _) bB.2.2.1.wf)⟩ (λn hn=>by obtain⟨k,ae,aD,aU⟩:=bB.2.2.1.all n hn;exact⟨k,ae,ab,aU⟩) (by simp only[ax.num];omega) aQ bu.2.2 aK.2.1
 ):p:=h
theorem Ac(h:p:=by
 go_wp2_with(fail);have aA:=bB.2.2.1.num;have aH:=aR.2.1;exact pB
 ):p:=h
theorem z7(h:p:=by
 have bw:an X S.heap.size 188 #[.int .i64 8,.string ⟨#[]⟩,.int .i64 x.aZ,.int .i64 x.numOf,.string x.bk,.slice cu cr cD,.string ⟨#[]⟩,.slice none 0 0,.slice none 0 0,.slice m aE bP,.slice none 0 0]:=hX▸(((((bB.2.1.aD 0 _).aD 2 _).aD 3 _).aD 4 _).aD 5 _).aD 9 _;exact Ab
 ):p:=h
theorem AU(h:p:=by
 go_upto_region 34 with(fail);exact Bd
 ):p:=h
theorem l1(h:p:=by
 exact AT
 ):p:=h
end Cb
open Cb in
theorem I6(d bd:Nat)(bO:0<d):SK 12 d bd:=by
 exact l0
theorem I4(cd:Int)(bw:0<=cd)(ao:cd<14)(d bd:Nat):SK cd d bd:=by
 by_cases a1:cd<4
 .exact En false cd d bd (.inl ⟨rfl,a1⟩)
 by_cases C:cd<7
 .exact En true cd d bd (.inr ⟨rfl,a1,C⟩)
 have ai:cd=7\/cd=8\/cd=9\/cd=10\/cd=11\/cd=12\/cd=13:=ab;rcases ai with rfl|rfl|rfl|rfl|rfl|rfl|rfl
 .exact HN d bd
 .by_cases bD:0<bd
  .exact HM d bd ab
  .exact yk 8 d bd ab
 .exact El false 9 d bd (by simp)
 .exact El true 10 d bd (by simp)
 .by_cases hd:0<d
  .exact I5 d bd ab
  .exact yk 11 d bd ab
 .by_cases hd:0<d
  .exact I6 d bd ab
  .exact yk 12 d bd ab
 .exact yk 13 d bd ab
def Jf(p:ks)(bl B:Nat)(eT bE:Value)(d:Nat)(ps:List (ByteArray×Bool))(V T:LQ)(az:World)(aM:Nat)(aY:ByteArray)(QA:LP)(cg qc:Nat)(bT:Value)(au:LP)(bd a8:Nat)(bx:LP)(on bp:Nat)(N:Int)(w:World):Prop:=∃(bg:LQ) (ls:List ax) (L:Nat),
 N<=7/\oN p az w L/\an w bl 137 #[.string aY,.slice QA cg qc,bT]/\lG B 9 1 188 11 w au bd a8 (bg.map D.s) bx on bp (ls.map a9)/\Made (p.env ps) d V T aM L ls/\bg ⊆ V++decls ls/\bg.length+L<=60
def rj(p:ks)(bl B:Nat)(eT bE:Value)(d:Nat)(ps:List (ByteArray×Bool))(V T:LQ)(az:World)(aM:Nat)(aY:ByteArray)(QA:LP)(cg qc:Nat)(bT:Value)(a:Act)(w:World):Prop:=∃(au:LP) (bd a8:Nat) (bx:LP) (on bp:Nat) (N:Int) (gD o u8 gF eK a1 u16 bo bM eN eO eP eQ eR eS eV eW eY eZ e3 e4 e5 u32 e6 e7 e8 e9 fa fb fd fe ff fh fi fl fm fo fp fq fr fs ft fu fv fw fx fy fz fA fB fC fD fE fF u64 fG fH fI fJ fK fL fM fN fO fP fQ fR fS fT fU fX fY fZ f3 f4 f5 f6 f7 f8 f9 ga gb gd ge gf gg gh gi gj gk H am aF aI aJ aS a3 bb be bq bw bC bN bO bW bX b1 b2 b5 b6 ca ci cl cm co cq cr cu cv cw cx cA cC cD cE cF cG cH cI cK cL cM cN cO cP cQ cR cS cT cU cV cW cX cY cZ c4 c5 c6 c7 c8 c9 da db dc dd de df dg dh di dk dl dm dn dr ds dt du dv dw dx dy dz dA dB dC dE dF dH dI dJ dK dM dN dO dP dQ dS dT dU dV dW dX dY dZ d0 d1 d2 d3 d4 d5 d6 d7 d8 d9 ea eb ec ed ee ef eg eh ej ek el em en eo ep eq er es et eu ev ew ex ey ez eA eB eC eD eE eF eG eH eI ch aK:Value),Jf p bl B eT bE d ps V T az aM aY QA cg qc bT au bd a8 bx on bp N w/\a=⟨#[.pointer (some ⟨p.wb,0,none⟩),eT,.slice au bd a8,.int .i64 (d:Int),bE,gD,.pointer (some ⟨bl,0,none⟩),o,u8,gF,eK,.slice bx on bp,.int .i64 N,ch,aK,a1,u16,bo,bM,eN,eO,eP,eQ,eR,eS,eV,eW,eY,eZ,e3,e4,e5,u32,e6,e7,e8,e9,fa,fb,fd,fe,ff,fh,fi,fl,fm,fo,fp,fq,fr,fs,ft,fu,fv,fw,fx,fy,fz,fA,fB,fC,fD,fE,fF,u64,fG,fH,fI,fJ,fK,fL,fM,fN,fO,fP,fQ,fR,fS,fT,fU,fX,fY,fZ,f3,f4,f5,f6,f7,f8,f9,ga,gb,gd,ge,gf,gg,gh,gi,gj,gk,H,am,aF,aI,aJ,aS,a3,bb,be,bq,bw,bC,bN,bO,bW,bX,b1,b2,b5,b6,ca,ci,cl,cm,co,cq,cr,cu,cv,cw,cx,cA,cC,cD,cE,cF,cG,cH,cI,cK,cL,cM,cN,cO,cP,cQ,cR,cS,cT,cU,cV,cW,cX,cY,cZ,c4,c5,c6,c7,c8,c9,da,db,dc,dd,de,df,dg,dh,di,dk,dl,dm,dn,dr,ds,dt,du,dv,dw,dx,dy,dz,dA,dB,dC,dE,dF,dH,dI,dJ,dK,dM,dN,dO,dP,dQ,dS,dT,dU,dV,dW,dX,dY,dZ,d0,d1,d2,d3,d4,d5,d6,d7,d8,d9,ea,eb,ec,ed,ee,ef,eg,eh,ej,ek,el,em,en,eo,ep,eq,er,es,et,eu,ev,ew,ex,ey,ez,eA,eB,eC,eD,eE,eF,eG,eH,eI],[]⟩
def ET(a:Act)(_:World):Nat:=(intOf (a.tmps.getD 12 undef)).toNat
theorem FZ(p:ks)(bl B:Nat)(eT bE:Value)(d:Nat)(ps:List (ByteArray×Bool))(V T:LQ)(az:World)(aM:Nat)(aY:ByteArray)(QA:LP)(cg qc:Nat)(bT:Value)(i:gq az p aM)(k:Sl az (off p.MW az) QA cg (ps.map ct))(ce:az.heap.size<=bl)(dD:bl<B)(bF:B<=bl+1)(br:cg<=2)(bK:d<=2)(y:mD T aM)(Q:∀R,R<aM->HZ p R)(dR:Exit->Act->World->Prop)(hQ0:∀c a d v w,dR (.panic c) (a.put d v) w->dR (.panic c) a w)(x:∀r j,rj p bl B eT bE d ps V T az aM aY QA cg qc bT r j->dR (.exit 0) r j)
  (a:Act) (wr:World) (hI:rj p bl B eT bE d ps V T az aM aY QA cg qc bT a wr):Code.wp prog xh (Exit.then (λr j=>rj p bl B eT bE d ps V T az aM aY QA cg qc bT r j/\ET r j<ET a wr) dR) a wr:=by
 obtain⟨s,wb,sA,b2,bo,sl,GA,gn,gc,MA,mn,mc,FA,fn,fc,M,F,ar⟩:=p;unfold rj at hI;obtain⟨au,bd,a8,bx,on,bp,N,hI⟩:=hI
 iterate 241 obtain⟨_,hI⟩:=hI
 obtain⟨hI,rfl⟩:=hI;have aK:=ad hI;obtain⟨bg,ls,L,ba,hC,am,hG,hM,hV,eX⟩:=hI;have a6:=i.ne;have cb:=i.src.lt;have eM:=i.blk.lt;simp only at a6 cb eM;obtain⟨a0,ap,aj⟩:=hC.blk.two;have dp:bg.length=bd:=by have:=hG.one.len;simpa using this
 have Z:ls.length=on:=by have:=hG.two.len;simpa using this
 have aW:=hC.le;have aO:=hM.le;have aR:=i.kP;have a3:on<=48:=by
  have ae:=hM.num;have aD:=ur ls;have aU:=i.kP;omega
 have aH:=dq hC am hG hM hV;have bu:=bG i k y Q;clear hC am hG hM hV i k y Q;by_cases hO:0<N
 case neg=>
  have q:decide (N > 0)=false:=by simp;omega
  exact zG
 by_cases a7:0<L
 case neg=>
  have q:decide (N > 0)=true:=by simpa using hO
  obtain rfl:L=0:=ab;exact zG
 obtain⟨R,rfl⟩:∃R,L=R+1:=⟨L - 1,ab⟩
 have aQ:(0:Int)<((R+1:Nat):Int):=ab;clear aK;conv=>arg 2;whnf
 go_upto_region 7 with(fail);generalize hX:World.setCell _ _ _=S;have bL:=dj hX;have ci:an S wb 169 #[.pointer (some ⟨s,0,none⟩),.slice GA gn gc,.slice MA mn mc,.slice FA fn fc,.int .i64 R,.bool ar]:=hX▸aH.1.blk.aD 4 _;have ax:oN ⟨s,wb,sA,b2,bo,sl,GA,gn,gc,MA,mn,mc,FA,fn,fc,M,F,ar⟩ az S R:=⟨aH.1.src.cM bL (λb O h=>by simp only at O;omega),ci,aH.1.fr.trans (bL.mono λ_ h=>.inr h),ab⟩
 have z:=aH.2.1.on bL ab;have bf:=aH.2.2.1.cS bL (λb O _=>ab);have bc:=aL ax z bf;have b8:bl<S.heap.size:=z.lt;clear hX bL ci ax z bf a0 ap aj;obtain⟨a0,ap,aj⟩:=bc.1.blk.two;go_upto_region 8 with(fail);generalize U:World.alloc _ _=aP;have aF:=bb U;have aN:=aT U;have u:oN ⟨s,wb,sA,b2,bo,sl,GA,gn,gc,MA,mn,mc,FA,fn,fc,M,F,ar⟩ S aP R:=⟨bc.1.src.cM aF (λ_ _ h=>h),bc.1.blk.aj aF,aF.mono λ_ h=>h.elim,bc.1.le⟩
 have H1:=ah u aN;clear U aF aN u a0 ap aj;obtain⟨a0,ap,aj⟩:=H1.1.blk.two;go_wp2_with(fail);refine(aX aP s sA b2 bo sl 14 H1.1.src ab ab).mono ?_;rintro e aV ⟨cd,rfl,bw,ao,h,he⟩;have ak:=H1.1.next a6 h he.fr;have cz:=H1.2.on he.fr ab;have bt:=ah ak cz;clear h he ak cz a0 ap aj H1;go_upto_region 14 with(fail);have h0:=bc.1.wr bu.1;have aa:∀b,(⟨s,wb,sA,b2,bo,sl,GA,gn,gc,MA,mn,mc,FA,fn,fc,M,F,ar⟩:ks).MW b->b<B:=λb O=>by rcases O with O|O<;>(simp only at O;omega)
 refine I4 cd bw ao d bd ⟨s,wb,sA,b2,bo,sl,GA,gn,gc,MA,mn,mc,FA,fn,fc,M,F,ar⟩ bl B eT bE ps V T ls N S R az aY QA cg qc bT bg au a8 bx on bp R (by simp only;omega) ab ab br aV h0.ne h0.src.lt h0.blk.lt (by have:=bc.2.2.one.len;simpa using this) bt.1.fr.size (ad ⟨h0,bc.2.1,Sl.cS bu.2.1 bc.1.fr,bc.2.2,bc.2.2.names aa,aa⟩) (ad ⟨bt.1,bc.2.1.on bt.1.fr (λh=>by rcases h with h|h<;>(simp only at h;omega)),bt.2⟩) ab ab bK (ad ⟨aH.2.2.2.2,aH.2.2.2.1.free ab bu.2.2.1,λa5 aG=>bu.2.2.2 a5 ab⟩) aM (ad ⟨bu.1,bu.2.1,bc.1.fr⟩) ce _ ?hQ ?hN _ (by assumption)
 case hQ=>exact λc a d v w h=>hQ0 _ _ _ _ _ h
 case hN=>
  intro r ac hp;unfold lZ at hp;obtain⟨P,aJ,Y,aq,H3,aw,hp⟩:=hp
  iterate 240 obtain⟨_,hp⟩:=hp
  obtain⟨hF,rfl⟩:=hp;obtain⟨aE,m,st,bJ,cs,ag,l,n,I,J,a1,aI,K,hle,ai,aC,a4⟩:=hF;obtain⟨eo,en,es,EA,em,ec,rs,cn,cU,rc,cy,n1,c1,A2,n2,c2,ck,n3,c3,rfl,_⟩:=lC J;obtain⟨d0,af,aS⟩:=I.two;have aZ:=xu ag l n J a1 aI K ai;have a2:bl<ac.heap.size:=l.lt;have b4:B<=ac.heap.size:=ab;clear ag l n I J a1 aI K ai;clear bt
  try dsimp only[Exit.inBlock,Exit.then]
  go_wp2_with(at_builtin;refine bI oQ rfl (.tmp 244) (.tmp 246) rfl aZ.2.2.1.two aZ.2.2.2.1 rfl rfl rfl ab ab b4 ?_;intro cq bN b5 al ay cf bR;have dr:=aL al ay cf;clear al ay cf bR);refine⟨?_,by simp[ET,intOf];omega⟩;obtain⟨ag,l,n,J,a1,aI,K,ai⟩:=aZ.o;obtain⟨bB,aA,bH⟩:=dr.o;have aB:∀b,(Value.slice aq H3 aw).ownBlock=some b->B<=b:=λb O=>(n.two.lt O).1;unfold rj;refine⟨P,aJ,Y,cq,H3+1,bN,N - 1,?_⟩
  iterate 241 apply Exists.intro
  refine⟨?_,rfl⟩;refine⟨aE,ls++(m++[st]),bJ,ab,ag.fresh bu.1 aA (λb O=>by have:=aB b O;omega),l.on aA (λO=>by have:=aB _ O;omega),?_,aH.2.2.2.1.snoc a1 aI K ab,ai,aC⟩;have av:(ls++(m++[st])).map a9=(ls++m).map a9++[a9 st]:=by simp
  rw[av];exact(n.swap.grow bB aA bH).swap
theorem HR(p:ks)(bl B:Nat)(eT bE:Value)(d:Nat)(ps:List (ByteArray×Bool))(V T:LQ)(az:World)(aM:Nat)(aY:ByteArray)(QA:LP)(cg qc:Nat)(bT:Value)(i:gq az p aM)(k:Sl az (off p.MW az) QA cg (ps.map ct))(ce:az.heap.size<=bl)(dD:bl<B)(bF:B<=bl+1)(br:cg<=2)(bK:d<=2)(y:mD T aM)(Q:∀R,R<aM->HZ p R)(dR:Exit->Act->World->Prop)(hQ0:∀c a d v w,dR (.panic c) (a.put d v) w->dR (.panic c) a w)(x:∀r j,rj p bl B eT bE d ps V T az aM aY QA cg qc bT r j->dR (.exit 0) r j)
  (au:LP) (bd a8:Nat) (bx:LP) (on bp:Nat) (N:Int) {gD o u8 gF eK a1 u16 bo bM eN eO eP eQ eR eS eV eW eY eZ e3 e4 e5 u32 e6 e7 e8 e9 fa fb fd fe ff fh fi fl fm fo fp fq fr fs ft fu fv fw fx fy fz fA fB fC fD fE fF u64 fG fH fI fJ fK fL fM fN fO fP fQ fR fS fT fU fX fY fZ f3 f4 f5 f6 f7 f8 f9 ga gb gd ge gf gg gh gi gj gk H am aF aI aJ aS a3 bb be bq bw bC bN bO bW bX b1 b2 b5 b6 ca ci cl cm co cq cr cu cv cw cx cA cC cD cE cF cG cH cI cK cL cM cN cO cP cQ cR cS cT cU cV cW cX cY cZ c4 c5 c6 c7 c8 c9 da db dc dd de df dg dh di dk dl dm dn dr ds dt du dv dw dx dy dz dA dB dC dE dF dH dI dJ dK dM dN dO dP dQ dS dT dU dV dW dX dY dZ d0 d1 d2 d3 d4 d5 d6 d7 d8 d9 ea eb ec ed ee ef eg eh ej ek el em en eo ep eq er es et eu ev ew ex ey ez eA eB eC eD eE eF eG eH eI ch aK:Value} (wr:World) (hI:Jf p bl B eT bE d ps V T az aM aY QA cg qc bT au bd a8 bx on bp N wr):Code.wp prog (Code.loop xh) dR ⟨#[.pointer (some ⟨p.wb,0,none⟩),eT,.slice au bd a8,.int .i64 (d:Int),bE,gD,.pointer (some ⟨bl,0,none⟩),o,u8,gF,eK,.slice bx on bp,.int .i64 N,ch,aK,a1,u16,bo,bM,eN,eO,eP,eQ,eR,eS,eV,eW,eY,eZ,e3,e4,e5,u32,e6,e7,e8,e9,fa,fb,fd,fe,ff,fh,fi,fl,fm,fo,fp,fq,fr,fs,ft,fu,fv,fw,fx,fy,fz,fA,fB,fC,fD,fE,fF,u64,fG,fH,fI,fJ,fK,fL,fM,fN,fO,fP,fQ,fR,fS,fT,fU,fX,fY,fZ,f3,f4,f5,f6,f7,f8,f9,ga,gb,gd,ge,gf,gg,gh,gi,gj,gk,H,am,aF,aI,aJ,aS,a3,bb,be,bq,bw,bC,bN,bO,bW,bX,b1,b2,b5,b6,ca,ci,cl,cm,co,cq,cr,cu,cv,cw,cx,cA,cC,cD,cE,cF,cG,cH,cI,cK,cL,cM,cN,cO,cP,cQ,cR,cS,cT,cU,cV,cW,cX,cY,cZ,c4,c5,c6,c7,c8,c9,da,db,dc,dd,de,df,dg,dh,di,dk,dl,dm,dn,dr,ds,dt,du,dv,dw,dx,dy,dz,dA,dB,dC,dE,dF,dH,dI,dJ,dK,dM,dN,dO,dP,dQ,dS,dT,dU,dV,dW,dX,dY,dZ,d0,d1,d2,d3,d4,d5,d6,d7,d8,d9,ea,eb,ec,ed,ee,ef,eg,eh,ej,ek,el,em,en,eo,ep,eq,er,es,et,eu,ev,ew,ex,ey,ez,eA,eB,eC,eD,eE,eF,eG,eH,eI],[]⟩ wr:=by
 refine wp_loop (rj p bl B eT bE d ps V T az aM aY QA cg qc bT) ET ?_ (λa j hI=>FZ p bl B eT bE d ps V T az aM aY QA cg qc bT i k ce dD bF br bK y Q dR hQ0 x a j hI);unfold rj
 iterate 248 apply Exists.intro
 exact⟨hI,rfl⟩
theorem nS{w:World}{P:Nat->Prop}:∀l:List ByteArray,D.aJ w P (l.map D.s) (l.map Value.string)
 | []=>by simp only[Ly,D.aJ]
 | x::l=>by simp only[Lh];exact ch.2 ⟨_,rfl,nS l⟩
theorem yj{w:World}{P:Nat->Prop}:∀(l:LQ) (xs:List Value),D.aJ w P (l.map D.s) xs->xs=l.map Value.string
 | [],xs,h=>by simpa only[Ly,D.aJ] using h
 | x::l,xs,h=>by
  simp only[Lh] at h;obtain⟨y,rfl,aD⟩:=ch.1 h;rw[Lh,yj l y aD]
theorem vc{w:World}{P:Nat->Prop}{A:LP}{n:Nat}{l:LQ}(h:Sl w P A n (l.map D.s)):Src w 1 A n (l.map Value.string):=by
 obtain⟨xs,aQ,hs⟩:=h.src (z:=1) (λd hd=>by obtain⟨x,_,rfl⟩:=Lz.1 hd;rfl)
 rwa [yj l xs aQ] at hs
theorem vi(p:ks)(aM:Nat)(Q:∀R,R<aM->HZ p R):HZ p aM:=by
 intro d f V T I bl aa aY ps QA cg qc bT w hd o hw hN eX y cq br;obtain⟨s,wb,sA,b2,bo,sl,GA,gn,gc,MA,mn,mc,FA,fn,fc,M,F,ar⟩:=p;have a6:=hw.ne;have cb:=hw.src.lt;have eM:=hw.blk.lt;have dp:V.length=bl:=by have:=hN.1;simpa using this
 simp only at a6 cb eM;have H:=dq hw hN cq y Q;clear hw hN cq y Q;go_enter func96,ntmps96;go_upto_region 2 with(fail);generalize be:World.alloc _ _=W;have aE:=bb be;have eJ:=aT be;have cE:W.heap.size=w.heap.size+1:=by rw[<-be];simp
 have bf:Gr (λ_=>False) (w.heap.size+1) 9 1 (W.alloc (.cells #[] 9)) (some ⟨W.heap.size,0,none⟩) 0 0 []:=(Gr.lit (w:=W) (n:=0) (l:=[]) rfl (by rfl) ab (by simp only[D.aJ])).base ab;rw[cE] at bf;have av:Src (W.alloc (.cells #[] 9)) 1 I bl (V.map Value.string):=vc (Sl.cS H.2.1 ((aE.mono λ_ h=>h.elim).alloc _));have g:I=none->bl=0:=λh=>by subst h;exact Sl.none_ H.2.1
 have b4:w.heap.size+1<=(W.alloc (.cells #[] 9)).heap.size:=by simp;omega
 have aH:=ah aE eJ;clear be aE eJ;go_upto_region 3 with(at_builtin;refine q0 kB rfl (.tmp 17) (.tmp 18) rfl bf (nS V) (by simpa using dp) av g rfl rfl ab ab b4 ?_;intro ck c3 b3 a5 aP bF N;have bk:=ah a5 aP;clear a5 aP bF N);have bu:Ext W b3:=(LL.alloc _:Ext W (W.alloc (.cells #[] 9))).eI (bk.2.below (by simp) λk ai h=>by
  simp[Value.ownBlock] at h;omega)
 have dK:=H.1.aj (aH.1.trans bu);obtain⟨a0,ap,aj⟩:=dK.blk.two;have ao:=aL dK bu bk.1;clear dK bu bk bf av g;go_wp2_with(fail);refine(aX b3 s sA b2 bo sl ((f:Int)+1) ao.1.src ab ab).mono ?_;rintro e cz ⟨cd,rfl,bw,ci,h,he⟩;have ag:Fr (λb=>b=s) w cz:=((aH.1.trans ao.2.1).mono λ_ h=>h.elim).trans he.fr;have j:=ao.1.next h he.fr;have z:=ao.2.2.cS he.fr λb O _=>⟨λh=>h,ab⟩
 simp only[Lt,LD] at z;have i:=(aH.2.aj ao.2.1).on he.fr ab;have aW:aM<=24:=H.1.kP;have ct:=ad (show Jf ⟨s,wb,sA,b2,bo,sl,GA,gn,gc,MA,mn,mc,FA,fn,fc,M,F,ar⟩ w.heap.size (w.heap.size+1) (.agg #[.string aY,.slice QA cg qc,bT]) (.int .i64 (f:Int)) d ps V T w aM aY QA cg qc bT ck bl c3 none 0 0 cd cz from
  ⟨V,[],aM,ab,⟨j.src,j.blk,ag.mono λ_ h=>.inl h,aW⟩,i,⟨Gr.strs z,Gr.nil _ _ _ _ _,λb _ h=>by cases h⟩,Made.nil _ _ _ _ _,λx hx=>Lk.2 (.inl hx),eX⟩)
 clear h he ag j z i a0 ap aj ao;skip
 go_wp2_with(fail);refine HR ⟨s,wb,sA,b2,bo,sl,GA,gn,gc,MA,mn,mc,FA,fn,fc,M,F,ar⟩ w.heap.size (w.heap.size+1) (.agg #[.string aY,.slice QA cg qc,bT]) (.int .i64 (f:Int)) d ps V T w aM aY QA cg qc bT H.1 H.2.2.1 (Lb _) ab (Lb _) br hd H.2.2.2.1 H.2.2.2.2 _ ?hQ ?hX ck bl c3 none 0 0 cd cz ct.o
 case hQ=>exact λ_ _ d _ _ h=>by cases d<;>exact h
 case hX=>
  intro r wf hI;unfold rj at hI;obtain⟨P,aJ,Y,aq,H3,aw,hI⟩:=hI
  iterate 242 obtain⟨_,hI⟩:=hI
  obtain⟨⟨bg,ls,L,_,hC,am,hG,hM,hV,m⟩,rfl⟩:=hI;have b0:=aL hC hG hM;clear hC am hG hM hV m ct;go_wp2;go_ret;obtain⟨hC,hG,hM⟩:=b0.o;exact⟨ls,L,aq,H3,aw,rfl,hM,hG.two.cap.1,hG.two.sl (λb O hp=>⟨by have:=hp.1;omega,O⟩) (λb O hp=>⟨ab,O⟩),hC.wr H.1,hC.fr⟩
theorem xi(p:ks):∀L,HZ p L:=λL=>by
 induction L using Nat.strongRecOn with
 | _ L ao=>exact vi p L ao
end Go.Proofs.YtflecliffjbleaaGreat

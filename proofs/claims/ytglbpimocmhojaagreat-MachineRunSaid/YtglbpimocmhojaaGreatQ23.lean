/- Part 23 of the proof. No condition of its own. -/
import Derived.Test.YtglbpimocmhojaaGreatQ22
namespace Go.Proofs.YtglbpimocmhojaaGreat
open Go.RowKit Go.Proofs.Tryz
set_option maxRecDepth 1000000
set_option maxHeartbeats 25600000
set_option linter.unusedVariables false
variable{t:Int}{p:Prop}{s:aj}{f:al}{u:ay}{x:az}
structure JO(u:ay)(s:aj)(t:Int)(f:al)(x:az)(a b:List Int×Int):Prop where
 Ia:a.2≠0->b2 u s t f x=({s with fault:=a.2},true)
 Ib:a.2=0->b.2≠0->b2 u s t f x=({s with fault:=b.2},true)
 many:a.2=0->b.2=0->x.op=3->32<=s.threads.length->b2 u s t f x=({s with fault:=4},true)
 go:a.2=0->b.2=0->x.op=3->¬32<=s.threads.length->b2 u s t f x=({bs s t (next f) with threads:=(bs s t (next f)).threads++[[da u x.target a.1 b.1]]},true)
 call:a.2=0->b.2=0->x.op=2->b2 u s t f x=(qi (bs s t (next f)) t (da u x.target a.1 b.1),true)
theorem JD(cx:x.op=2\/x.op=3):JO u s t f x (cM s.globals f.ints x.ints) (bZ u s f x.places):=by
 have h0:b2 u s t f x=(if ca (cM s.globals f.ints x.ints).2 (bZ u s f x.places).2 (decide (x.op=3/\32<=s.threads.length))≠0 then ({s with fault:=ca (cM s.globals f.ints x.ints).2 (bZ u s f x.places).2 (decide (x.op=3/\32<=s.threads.length))},true)
  else if x.op=3 then ({bs s t (next f) with threads:=(bs s t (next f)).threads++[[da u x.target (cM s.globals f.ints x.ints).1 (bZ u s f x.places).1]]},true)
  else (qi (bs s t (next f)) t (da u x.target (cM s.globals f.ints x.ints).1 (bZ u s f x.places).1),true)):=by
  unfold b2;rw[if_neg ad,if_pos cx]
 generalize cM s.globals f.ints x.ints=a at *;generalize bZ u s f x.places=b at *;refine⟨λh=>?_,λh ac=>?_,λh ac aU bg=>?_,λh ac aU bg=>?_,λh ac au=>?_⟩
 .have:ca a.2 b.2 (decide (x.op=3/\32<=s.threads.length))=a.2:=by unfold ca;rw[if_pos h]
  rw[h0,this,if_pos h]
 .have:ca a.2 b.2 (decide (x.op=3/\32<=s.threads.length))=b.2:=by unfold ca;rw[if_neg ad,if_pos ac]
  rw[h0,this,if_pos ac]
 .have:ca a.2 b.2 (decide (x.op=3/\32<=s.threads.length))=4:=by unfold ca;rw[if_neg ad,if_neg ad,if_pos (by simp[aU,bg])]
  rw[h0,this,if_pos ad]
 .have:ca a.2 b.2 (decide (x.op=3/\32<=s.threads.length))=0:=by unfold ca;rw[if_neg ad,if_neg ad,if_neg (by simp;omega)]
  rw[h0,this,if_neg ad,if_pos aU]
 .have:ca a.2 b.2 (decide (x.op=3/\32<=s.threads.length))=0:=by unfold ca;rw[if_neg ad,if_neg ad,if_neg (by simp;omega)]
  rw[h0,this,if_neg ad,if_neg ad]
namespace Ci
theorem dB(h:p:=by
 generalize b3:World.setCell _ _ _=dE;obtain⟨cv,bO,cV⟩:=dk.o _ _ _ _ _ _ _ bB.2.2.1 bB.2.2.2 cC.1 cC.2.1 cC.2.2 b3;have l:=aD cv bO ((ag.2.2.2.2.1.ai bB.2.1).on cV ad);have bw:=ae (show Ext w dE from Fr.low (M:=λb=>aS.heap.size<=b) (Fr.trans (Fr.mono (ag.1.trans bB.2.1) λ_ h=>h.elim) cV) λb O=>ad);clear b3 cv bO cV bp bF dA dX;have bq:=l.2.2;obtain⟨bl,aA,aO⟩:=bq.two;obtain⟨e0,a6,aP⟩:=l.2.1.two;clear bq;go_wp2_with(fail);generalize hX:World.setCell _ _ _=Z;obtain⟨bh,a9,bd⟩:=bA (w:=w) [.slice aZ bV bc,.slice aV tn L,.slice (some ⟨O,0,none⟩) hn a3,.int .i64 s.fault] (by rfl) l.2.2 bw.o ad hX;have bf:=ah a9 bd;clear hX a9 bd bl aA aO e0 a6 aP;obtain⟨bl,aA,aO⟩:=bh.two;refine Lk (v:=.tuple #[.agg #[.slice aZ bV bc,.slice aV tn L,.slice (some ⟨O,0,none⟩) hn a3,.int .i64 s.fault],.bool true]) (by simp[results,Tryz.results30,go_sem,bl]) rfl ?_;rw[bT.o];show cR mG w _ true _ _
 rw[ud bU.2.2.1];have cQ:=bf.2.size;exact⟨⟨aZ,bV,bc,aV,tn,L,some ⟨O,0,none⟩,hn,a3⟩,rfl,((l.1.ak (ab:=Z) λb O=>bf.2.block b O.2.1 (aC O.1)).mono λb O=>.inr ⟨by have:=O.1;omega,by have:=O.2.1;show b<Z.heap.size;omega⟩),bf.1⟩
 ):p:=h
theorem zR(h:p:=by
 obtain⟨bh,a9,bd⟩:=bA (w:=w) [.slice aZ cr bc,.slice aV m L,.slice be co a3,.int .i64 a1] (by rfl) aW.1 aW.2 ad hX;have bf:=ah a9 bd;clear hX a9 bd bl aA aO;obtain⟨bl,aA,aO⟩:=bh.two;refine Lk (v:=.tuple #[.agg #[.slice aZ cr bc,.slice aV m L,.slice be co a3,.int .i64 a1],.bool true]) (by simp[results,Tryz.results30,go_sem,bl]) rfl ?_;rw[bT.o];show cR mG w {s with fault:=a1} true _ _
 exact ew (Q:={s with fault:=a1}) (q:=⟨aZ,cr,bc,aV,m,L,be,co,a3⟩) c5.o bf.2 (λb O=>ad) ad bf.1
 ):p:=h
theorem Aa(h:p:=by
 refine(vW u s t f cq x N W ⟨GA,gn,gc,MA,mn,mc,PA,pn,pc⟩ ⟨bR,bV,bC,TA,tn,tc,HA,hn,hc⟩ ⟨eo,en,es,EA,em,ec,QA,qm,qc,dg,j,c9,KA,dj,kc⟩ aQ.o cx ag.2.2.2.2.2.1 ag.2.2.2.2.2.2.1 ag.2.2.2.2.2.2.2).mono ?_;intro e aS ap;have aT:=ah (λh au=>ap.2.2 h au) ac.o;have dD:=(pQ aQ.hS aQ.hF aQ.hp x.ints (aQ.args cx).1).2.1;have b1:=(nr (s:=s) (nk:=cq.au) aQ.hU.ok aQ.hF (by rw[aQ.hF.sM aQ.hp];exact Int.le_refl _) x.places (aQ.args cx).2.1).2.1;generalize cM s.globals f.ints x.ints=aa at *;generalize bZ u s f x.places=bb at *;obtain⟨dR,a1⟩:=aa;obtain⟨bi,bz⟩:=bb;have b9:=ah dD b1;clear dD b1 aT a0 ai af a8 am aF d0 aL aM;have cZ:=ag.1.size;have dr:=ag.2.2.2.2.1.lt;by_cases aJ:a1=0
 case neg=>
  obtain⟨rfl,aN⟩:=ap.1 aJ;have bT:=ae (ac.Ia aJ);have q1:(a1 == 0)=false:=by simpa using aJ
  have cI:(a1 != 0)=true:=by simpa using aJ
  clear ap aJ ac b9;have bS:=ag.2.2.2.2.2.2.1.on aN;obtain⟨bM,bu⟩:=aH bS aN;obtain⟨a8,am,aF⟩:=(ag.2.2.1.ai aN).two;obtain⟨d0,aL,aM⟩:=(ag.2.2.2.1.ai aN).two;have cp:=aN.size;clear bS aN;go_wp2_with(fail);refine(k0 s ⟨bR,bV,bC,TA,tn,tc,HA,hn,hc⟩ a1 aS bM.o aQ.sm).mono ?_;exact zQ
 by_cases I:bz=0
 case neg=>
  obtain⟨rfl,aN⟩:=ap.2.1 aJ I;have bT:=ae (ac.Ib aJ I);have q1:(bz == 0)=false:=by simpa using I
  have cI:(bz != 0)=true:=by simpa using I
  clear ap aJ I ac b9;have bS:=ag.2.2.2.2.2.2.1.on aN;obtain⟨bM,bu⟩:=aH bS aN;obtain⟨a8,am,aF⟩:=(ag.2.2.1.ai aN).two;obtain⟨d0,aL,aM⟩:=(ag.2.2.2.1.ai aN).two;have cp:=aN.size;clear bS aN;go_wp2_with(fail);refine(k0 s ⟨bR,bV,bC,TA,tn,tc,HA,hn,hc⟩ bz aS bM.o aQ.sm).mono ?_;rintro e bX ⟨⟨aZ,cr,bc,aV,m,L,be,co,a3⟩,rfl,bY,a7⟩;have c5:=ae bY;have cG:=(ag.2.2.2.2.1.ai bu.o).ai a7;have aW:=ah cG ((ag.1.trans bu.o).trans a7);clear bY a7 a8 am aF d0 aL aM;obtain⟨bl,aA,aO⟩:=cG.two;clear cG;go_wp2_with(fail);generalize hX:World.setCell _ _ _=Z;obtain⟨bh,a9,bd⟩:=bA (w:=w) [.slice aZ cr bc,.slice aV m L,.slice be co a3,.int .i64 bz] (by rfl) aW.1 aW.2 ad hX;have bf:=ah a9 bd;clear hX a9 bd bl aA aO;obtain⟨bl,aA,aO⟩:=bh.two;refine Lk (v:=.tuple #[.agg #[.slice aZ cr bc,.slice aV m L,.slice be co a3,.int .i64 bz],.bool true]) (by simp[results,Tryz.results30,go_sem,bl]) rfl ?_;rw[bT.o];show cR mG w {s with fault:=bz} true _ _
  exact ew (Q:={s with fault:=bz}) (q:=⟨aZ,cr,bc,aV,m,L,be,co,a3⟩) c5.o bf.2 (λb O=>ad) ad bf.1
 obtain⟨IA,dM,ci,S,nl,cl,rfl,dS,bj,di,cf,aN⟩:=ap.2.2 aJ I;have bo:=aD di cf aN;have dV:dR.length=dM:=by have:=di.1;simpa using this
 have bH:bi.length=nl:=by have:=cf.1;simpa using this
 have b4:=bL dV bH (b9.1 aJ) (b9.2 I);clear ap di cf dS bj dV bH b9;have bt:=aD (ac.many aJ I) (ac.go aJ I) (ac.call aJ I);clear ac aJ I;by_cases aU:x.op=3
 .have dd:(x.op == 3)=true:=by simpa using aU
  by_cases bg:32<=hn
  .have df:decide ((hn:Int)>=32)=true:=by simpa using (by omega:(32:Int)<=(hn:Int))
   have bT:=ae (bt.1 aU (by rw[<-bU.2.2.2.2];exact bg));clear aU bg bt;have bS:=ag.2.2.2.2.2.2.1.on aN;obtain⟨bM,bu⟩:=aH bS aN;obtain⟨a8,am,aF⟩:=(ag.2.2.1.ai aN).two;obtain⟨d0,aL,aM⟩:=(ag.2.2.2.1.ai aN).two;have cp:=aN.size;clear bS aN;go_wp2_with(fail);refine(k0 s ⟨bR,bV,bC,TA,tn,tc,HA,hn,hc⟩ 4 aS bM.o aQ.sm).mono ?_;rintro e bX ⟨⟨aZ,cr,bc,aV,m,L,be,co,a3⟩,rfl,bY,a7⟩;have c5:=ae bY;have cG:=(ag.2.2.2.2.1.ai bu.o).ai a7;have aW:=ah cG ((ag.1.trans bu.o).trans a7);clear bY a7 a8 am aF d0 aL aM;obtain⟨bl,aA,aO⟩:=cG.two;clear cG;go_wp2_with(fail);generalize hX:World.setCell _ _ _=Z;obtain⟨bh,a9,bd⟩:=bA (w:=w) [.slice aZ cr bc,.slice aV m L,.slice be co a3,.int .i64 4] (by rfl) aW.1 aW.2 ad hX;have bf:=ah a9 bd;clear hX a9 bd bl aA aO;obtain⟨bl,aA,aO⟩:=bh.two;refine Lk (v:=.tuple #[.agg #[.slice aZ cr bc,.slice aV m L,.slice be co a3,.int .i64 4],.bool true]) (by simp[results,Tryz.results30,go_sem,bl]) rfl ?_;rw[bT.o];show cR mG w {s with fault:=4} true _ _
   exact ew (Q:={s with fault:=4}) (q:=⟨aZ,cr,bc,aV,m,L,be,co,a3⟩) c5.o bf.2 (λb O=>ad) ad bf.1
  .have df:decide ((hn:Int)>=32)=false:=by simp;omega
   have bT:=ae (bt.2.1 aU (by rw[<-bU.2.2.2.2];exact bg));clear aU bg bt;have bS:=ag.2.2.2.2.2.2.1.on aN;obtain⟨bM,bu⟩:=aH bS aN;have db:=bU.2.1;have dx:t<(hn:Int):=by have:=bU.2.2.2.2;have:=(List.getElem?_eq_some_iff.1 bU.2.2.1).1;omega
   obtain⟨a8,am,aF⟩:=(ag.2.2.1.ai aN).two;obtain⟨d0,aL,aM⟩:=(ag.2.2.2.1.ai aN).two;have cp:=aN.size;clear bS aN;go_wp2_with(fail);refine(fH s bR TA HA bV bC tn tc hn hc aS bM.at_ aQ.sm).mono ?_;rintro e bX ⟨aZ,bc,aV,L,be,a3,xs,F1,F2,bK,bP,rfl,cy,br,a7⟩;have bW:=aD cy br a7;have cO:=a7.size;clear cy br a7 a8 am aF d0 aL aM;go_upto_region 7 with(fail);generalize hV:World.alloc _ _=V;have bm:=aX hV;have b7:=aK hV;have hOut:dy aS.heap.size V s bX.heap.size ⟨aZ,bV,bc,aV,tn,L,be,hn,a3⟩ xs F1 F2 bK bP:=
    ⟨bW.1.ak λb O=>bm.block b (bW.2.1 b O).2 λh=>h,b7,λO=>by have:=(bW.2.1 _ O).2;omega,λb O=>⟨(bW.2.1 b O).1,by have:=(bW.2.1 b O).2;have:=bm.size;omega⟩,cO⟩
   have bN:Ext aS V:=bW.2.2.trans bm;obtain⟨c1,dt,i2,c4,de,dn,dh,c0,cg,aG,J⟩:=hOut.top bU.2.2.1 bU.2.1 bU.1 bU.2.2.2.1;have cc:=aD aG J bN;obtain⟨e0,a6,aP⟩:=hOut.o.two;clear hV bm b7 hOut bN aG J c0 cg;go_wp2_with(fail);refine(cc.1 V Ll).mono ?_;rintro e cL ⟨rfl,cB⟩;have P:=ae (cc.2.1 cL cB);have cj:=ae (cc.2.2.trans cB);clear e0 a6 aP cB;have ca:=P.c1;have g2:=P.fz;have cT:=P.lt;have c8:=cn.2.2.2.2.2;go_upto_region 8 with(fail);generalize hX:World.setCell _ _ _=X;have bJ:rY aS.heap.size X {s with threads:=s.threads.set t.toNat (fs++[next f])} bX.heap.size ⟨aZ,bV,bc,aV,tn,L,be,hn,a3⟩ xs F1 F2 bK bP t fs (next f) c1 dt i2 c4 de dn dh:=hX▸P.IP bU.2.2.1 (f.pc+1);have b8:=cJ hX;have dG:=P.ge;have i:Ext aS X:=Fr.low (M:=λb=>b=c1) (Fr.trans (Fr.mono cj.o λ_ h=>h.elim) b8) λb O=>ad;have aY:=bu.trans i;have aR:=aD bJ.oz i aY;obtain⟨a0,ai,af⟩:=(ag.2.1.ai aY).two;obtain⟨d0,aL,aM⟩:=(ag.2.2.2.1.ai aY).two;clear hX bJ b8 i aY ca g2 cT P;go_wp2_with(fail);have dI:=(bo.1.ak (ab:=X) λb O=>aR.2.1.block b O.2 λh=>h).mono (c6:=av X) λb O=>KE O.2 aR.2.1.size;have cw:=(bo.2.1.ak (ab:=X) λb O=>aR.2.1.block b O.2 λh=>h).mono (c6:=av X) λb O=>KE O.2 aR.2.1.size;have bD:=b4.2.2.1;have ck:=b4.2.2.2;refine(mframe u x.target dQ dR bi IA S dM ci nl cl X ⟨GA,gn,gc,MA,mn,mc,PA,pn,pc⟩ (ag.2.2.2.2.2.1.on aR.2.2) cn.1 cn.2.1 (lK cn.2.2.1 cn.2.2.2.2.1.ints) cn.2.2.2.2.1.ints.2.2 (aC aQ.kl) dI cw).mono ?_;rintro e c7 ⟨FA,cP,bk,dC,fl,bx,rfl,b5,b0⟩
   generalize cX:da u x.target dR bi=R at *;have dl:=ae cX;have z:=ah b5 b0;clear cX dI cw bD ck b5 b0 a0 ai af d0 aL aM;go_upto_region 9 with(fail);generalize ct:World.alloc _ _=Y;have bG:=aX ct;have bE:=aK ct;have bn:Ext X Y:=z.2.trans bG;have ds:=aR.2.2.trans bn;have n:=aR.1.ai bn;have ar:(er R).rep Y (fresh X c7) [.int .i64 R.proc,.int .i64 R.pc,.slice FA cP bk,.slice dC fl bx]:=D.aS (λb O=>bG.block b O.2 λh=>h) _ _ z.1;have f2:=z.2.size;have d2:=bG.size;have dY:=aR.1.o.lt;have dJ:=aR.2.1.size;have cF:∀b,fresh X c7 b->aS.heap.size<=b/\b<Y.heap.size/\b≠bX.heap.size/\b∉F1++(F2++(bK++bP)):=λb O=>⟨by have:=O.1;omega,by have:=O.2;omega,by have:=O.1;omega,λhm=>by have:=(aR.1.lo b hm).2;have:=O.1;omega⟩
   have bB:=bL n ds ar cF;obtain⟨d0,aL,aM⟩:=(ag.2.2.2.1.ai ds).two;obtain⟨e0,a6,aP⟩:=n.o.two;obtain⟨f0,dH,dL⟩:=bE.two;clear ct bG bE bn ds n ar cF cc cj bW;have cb:=bB.1.st.h.ai ((Fr.refl _ Y).alloc (.cells #[.int .i64 R.proc,.int .i64 R.pc,.slice FA cP bk,.slice dC fl bx] 75));have eN:bX.heap.size∉bK:=λh=>bB.1.ne (by simp[h]);have an:=bB.1.o.ai ((Fr.refl _ Y).alloc (.cells #[.int .i64 R.proc,.int .i64 R.pc,.slice FA cP bk,.slice dC fl bx] 75));have dq:=ah cb an;clear cb an;go_upto_region 12 with(at_builtin;refine mZ sr rfl (.tmp 65) (.tmp 69) rfl dq.1 (cs:=#[.slice (some ⟨Y.heap.size,0,none⟩) 1 1]) rfl rfl (by simp) rfl (by simp[Value.oneCell']) (by simp only;omega) (by simp only;omega) ?_;intro A2 c2 cU ca g2 cT;have cD:=dq.2.on g2 eN;have cC:=aD ca g2 cT;clear ca g2 cT e0 a6 aP f0 dH dL d0 aL aM;obtain⟨e0,a6,aP⟩:=cD.two;clear cD);generalize b3:World.setCell _ _ _=dE;obtain⟨cv,bO,cV⟩:=bB.1.start bB.2.2.1 bB.2.2.2 rfl cC.1 cC.2.1 cC.2.2 b3;have l:=aD cv bO ((ag.2.2.2.2.1.ai bB.2.1).on cV ad);have bw:=ae (show Ext w dE from Fr.low (M:=λb=>aS.heap.size<=b) (Fr.trans (Fr.mono (ag.1.trans bB.2.1) λ_ h=>h.elim) cV) λb O=>ad);clear b3 cv bO cV e0 a6 aP;have bq:=l.2.2;obtain⟨bl,aA,aO⟩:=bq.two;obtain⟨e0,a6,aP⟩:=l.2.1.two;clear bq;go_wp2_with(fail);generalize hX:World.setCell _ _ _=Z;obtain⟨bh,a9,bd⟩:=bA (w:=w) [.slice aZ bV bc,.slice aV tn L,.slice A2 (hn+1) c2,.int .i64 s.fault] (by rfl) l.2.2 bw.o ad hX;have bf:=ah a9 bd;clear hX a9 bd bl aA aO e0 a6 aP
   obtain⟨bl,aA,aO⟩:=bh.two;refine Lk (v:=.tuple #[.agg #[.slice aZ bV bc,.slice aV tn L,.slice A2 (hn+1) c2,.int .i64 s.fault],.bool true]) (by simp[results,Tryz.results30,go_sem,bl]) rfl ?_;rw[bT.o];show cR mG w _ true _ _
   rw[dZ bU.2.2.1];have cQ:=bf.2.size;exact⟨⟨aZ,bV,bc,aV,tn,L,A2,hn+1,c2⟩,rfl,((l.1.ak (ab:=Z) λb O=>bf.2.block b O.2.1 (aC O.1)).mono λb O=>.inr ⟨by have:=O.1;omega,by have:=O.2.1;show b<Z.heap.size;omega⟩),bf.1⟩
 .have au:x.op=2:=ad;have dd:(x.op == 3)=false:=by simpa using aU
  have bT:=ae (bt.2.2 au);clear aU au bt;have bS:=ag.2.2.2.2.2.2.1.on aN;obtain⟨bM,bu⟩:=aH bS aN;have db:=bU.2.1;have dx:t<(hn:Int):=by have:=bU.2.2.2.2;have:=(List.getElem?_eq_some_iff.1 bU.2.2.1).1;omega
  obtain⟨a8,am,aF⟩:=(ag.2.2.1.ai aN).two;obtain⟨d0,aL,aM⟩:=(ag.2.2.2.1.ai aN).two;have cp:=aN.size;clear bS aN;go_wp2_with(fail);refine(fH s bR TA HA bV bC tn tc hn hc aS bM.at_ aQ.sm).mono ?_;rintro e bX ⟨aZ,bc,aV,L,be,a3,xs,F1,F2,bK,bP,rfl,cy,br,a7⟩;have bW:=aD cy br a7;have cO:=a7.size;clear cy br a7 a8 am aF d0 aL aM;go_upto_region 7 with(fail);generalize hV:World.alloc _ _=V;have bm:=aX hV;have b7:=aK hV;have hOut:dy aS.heap.size V s bX.heap.size ⟨aZ,bV,bc,aV,tn,L,be,hn,a3⟩ xs F1 F2 bK bP:=
   ⟨bW.1.ak λb O=>bm.block b (bW.2.1 b O).2 λh=>h,b7,λO=>by have:=(bW.2.1 _ O).2;omega,λb O=>⟨(bW.2.1 b O).1,by have:=(bW.2.1 b O).2;have:=bm.size;omega⟩,cO⟩
  have bN:Ext aS V:=bW.2.2.trans bm;obtain⟨c1,dt,i2,c4,de,dn,dh,c0,cg,aG,J⟩:=hOut.top bU.2.2.1 bU.2.1 bU.1 bU.2.2.2.1;have cc:=aD aG J bN;obtain⟨e0,a6,aP⟩:=hOut.o.two;clear hV bm b7 hOut bN aG J c0 cg;go_wp2_with(fail);refine(cc.1 V Ll).mono ?_;rintro e cL ⟨rfl,cB⟩;have P:=ae (cc.2.1 cL cB);have cj:=ae (cc.2.2.trans cB);clear e0 a6 aP cB;have ca:=P.c1;have g2:=P.fz;have cT:=P.lt;have c8:=cn.2.2.2.2.2;go_upto_region 8 with(fail);generalize hX:World.setCell _ _ _=X;have bJ:rY aS.heap.size X {s with threads:=s.threads.set t.toNat (fs++[next f])} bX.heap.size ⟨aZ,bV,bc,aV,tn,L,be,hn,a3⟩ xs F1 F2 bK bP t fs (next f) c1 dt i2 c4 de dn dh:=hX▸P.IP bU.2.2.1 (f.pc+1);have b8:=cJ hX;have dG:=P.ge;have i:Ext aS X:=Fr.low (M:=λb=>b=c1) (Fr.trans (Fr.mono cj.o λ_ h=>h.elim) b8) λb O=>ad;have aY:=bu.trans i;have aR:=aD bJ.oz i aY;obtain⟨a0,ai,af⟩:=(ag.2.1.ai aY).two;obtain⟨d0,aL,aM⟩:=(ag.2.2.2.1.ai aY).two;clear hX bJ b8 i aY ca g2 cT P;go_wp2_with(fail);have dI:=(bo.1.ak (ab:=X) λb O=>aR.2.1.block b O.2 λh=>h).mono (c6:=av X) λb O=>KE O.2 aR.2.1.size;have cw:=(bo.2.1.ak (ab:=X) λb O=>aR.2.1.block b O.2 λh=>h).mono (c6:=av X) λb O=>KE O.2 aR.2.1.size;have bD:=b4.2.2.1;have ck:=b4.2.2.2;refine(mframe u x.target dQ dR bi IA S dM ci nl cl X ⟨GA,gn,gc,MA,mn,mc,PA,pn,pc⟩ (ag.2.2.2.2.2.1.on aR.2.2) cn.1 cn.2.1 (lK cn.2.2.1 cn.2.2.2.2.1.ints) cn.2.2.2.2.1.ints.2.2 (aC aQ.kl) dI cw).mono ?_;rintro e c7 ⟨FA,cP,bk,dC,fl,bx,rfl,b5,b0⟩
  generalize cX:da u x.target dR bi=R at *;have dl:=ae cX;have z:=ah b5 b0;clear cX dI cw bD ck b5 b0 a0 ai af d0 aL aM;go_upto_region 9 with(fail);generalize ct:World.alloc _ _=Y;have bG:=aX ct;have bE:=aK ct;have bn:Ext X Y:=z.2.trans bG;have ds:=aR.2.2.trans bn;have n:=aR.1.ai bn;have ar:(er R).rep Y (fresh X c7) [.int .i64 R.proc,.int .i64 R.pc,.slice FA cP bk,.slice dC fl bx]:=D.aS (λb O=>bG.block b O.2 λh=>h) _ _ z.1;have f2:=z.2.size;have d2:=bG.size;have dY:=aR.1.o.lt;have dJ:=aR.2.1.size;have cF:∀b,fresh X c7 b->aS.heap.size<=b/\b<Y.heap.size/\b≠bX.heap.size/\b∉F1++(F2++(bK++bP)):=λb O=>⟨by have:=O.1;omega,by have:=O.2;omega,by have:=O.1;omega,λhm=>by have:=(aR.1.lo b hm).2;have:=O.1;omega⟩
  have bB:=bL n ds ar cF;obtain⟨d0,aL,aM⟩:=(ag.2.2.2.1.ai ds).two;obtain⟨e0,a6,aP⟩:=n.o.two;obtain⟨f0,dH,dL⟩:=bE.two;clear ct bG bE bn ds n ar cF cc cj bW;obtain⟨O,ch,fc,cN,mB,cm,dU,dF,T,dT,cE,bs,dP,bQ,hd,dv,a4,aB,du⟩:=bB.1.push (k:=t.toNat) (fs:=fs) (f:=next f) (by have ak:=(List.getElem?_eq_some_iff.1 bU.2.2.1).1;simp[ak]);simp only at mB;subst mB;obtain⟨dk,dq⟩:=aH du aB;have dp:=bU.2.2.2.1;have d3:=(aR.1.lo ch dF).2;have d4:=(aR.1.lo O dU).2;have d1:c7.heap.size≠ch:=ad;have dK:bX.heap.size≠ch:=Ne.symm hd;clear du aB dU dF;go_upto_region 11 with(fail);refine eK (λb=>b=ch) [(0,3),(1,0),(2,3),(3,3),(4,0),(5,3),(6,3),(7,3),(8,0),(9,0),(10,1),(11,1),(12,3),(13,3),(14,2)] ?_;refine pf ?_;refine oq ?_
  iterate 2 refine pf ?_
  refine oq ?_
  iterate 3 refine pf ?_
  iterate 2 refine oq ?_
  refine qV ?_;refine l4 (λV=>Ext Y V/\aq V Y.heap.size 75 #[.int .i64 R.proc,.int .i64 R.pc,.slice FA cP bk,.slice dC fl bx]/\V.heap.size=Y.heap.size+1) ⟨by first|exact((Fr.refl _ Y).drew).alloc _|exact((Fr.refl _ Y).alloc _).drew,by first|exact Lm|exact aq.new Y.drew _ _,by simp⟩ (λU hU=>?_);have cz:=ae hU;clear hU;refine aI rfl (λK hK=>?_);rw[if_pos (by rfl)];refine xW xk (.tmp 80) (.tmp 82) rfl (dq.ai cz.1) cz.2.1 rfl rfl rfl (by simp[Value.oneCell']) ad ad ?_;intro A2 c2 cU ca g2 cT;have cW:Fr (λb=>b=ch) U cU:=g2.mono λb O=>Lf.1 O;refine dz hK (cW) ?_;clear hK K;have a2:Fr (λb=>b=ch) Y cU:=Fr.trans (cz.1.mono λ_ h=>h.elim) cW;have cC:=aD ca a2 (λb O=>(cT b O).imp (λh=>Lf.1 h) (λh=>(⟨by have:=cz.2.2;omega,h.2⟩:Y.heap.size<=b/\b<cU.heap.size)));have bp:=(a2.cell (j:=t.toNat) T dP).trans a4;have bF:∀j,cU.frozen? ⟨O,j,none⟩=false:=λj=>(a2.frozen T dP).trans (dv j);have dA:=a2.size;clear ca g2 cT cW a2 a4 dv e0 a6 aP f0 dH dL d0 aL aM;exact A9
 ):p:=h
theorem hv(h:p:=by
 obtain⟨eo,en,es,EA,em,ec,QA,qm,qc,dg,j,c9,KA,dj,kc⟩:=v;obtain⟨_,_,dw,dQ,dN,dW,c3,cY⟩:=h.args cx;have qK:hn=s.threads.length:=by have:=hs.at_.h.1;simpa using this.symm
 have dm:hn<=1000:=by have:=h.sm.h;omega
 have dc:=h.pc;have ac:=ae (JD (u:=u) (s:=s) (t:=t) (f:=f) (x:=x) cx);have aQ:=ae h;have bU:=cK ao db bv cd qK;have cn:=cS dw dN dW c3 cY dc;have cc:=aD hu hs bI;clear h ao db cu bv cd qK dw dN dW c3 cY dc hu hs bI;dsimp only[UV.val,SV.val,IV.val];go_enter func30,ntmps30;exact z9
 ):p:=h
end Ci
open Ci in
theorem Io(u:ay)(s:aj)(t:Int)(f:al)(cq:cH)(x:az)(N:Nat)(w:World)(p:UV)(q:SV)(v:IV)(h:jO u s t f cq x N)(cx:x.op=2\/x.op=3)(hu:p.Ok w u)(hs:q.Ok w s)(bI:v.Ok w x) :
  Calls prog 30 #[.agg (p.val u),.agg (q.val s),.int .i64 t,.agg (v.val x)] w (cR mG w (b2 u s t f x).1 (b2 u s t f x).2):=by
 obtain⟨ao,db,cu,fs,bv,cd⟩:=h.th;exact hr
theorem aV.tok{N:Nat}(h:aV u N s)(hN:N<=100000):EK u.af s.table:=by
 refine⟨h.table,λx hx=>?_⟩;obtain⟨i,an⟩:=List.getElem?_of_mem hx;have ag:=h.holds i x an;have:=ag.owner;have:=ag.depth;have:=h.yO;omega
theorem dy.HQ{B:Nat}{w X:World}{s:aj}{N:Nat}{q:SV}{xs:List Value}{F1 F2 bK bP:List Nat}(h:dy B w s N q xs F1 F2 bK bP){T:List cy}{aV:Lp}{m L:Nat}(hT:w.ownsRow 0 107 2 (.slice aV m L) m (T.flatMap bH))(hl:m=T.length)
  (hd:∀b∈bq aV m L,b∉F1++(F2++(bK++bP))/\b≠N/\B<=b) (hX:w.setCell ⟨N,1,none⟩ (.slice aV m L)=X):dy B X {s with table:=T} N ⟨q.GA,q.gn,q.gc,aV,m,L,q.HA,q.hn,q.hc⟩ xs F1 (bq aV m L) bK bP:=by
 have ac:=h.st.HQ hT hl λb O=>(hd b O).1;have ak:∀b∈bq aV m L,b<w.heap.size:=λb O=>(hT.lt b (by simpa using O)).2;have bQ:∀b,b∈F1++(bq aV m L++(bK++bP))->B<=b/\b<w.heap.size/\b≠N:=λb O=>by
  simp only[KM] at O;have ag:∀b,b∈F1++(F2++(bK++bP))->B<=b/\b<w.heap.size/\b≠N:=λb O=>⟨(h.lo b O).1,(h.lo b O).2,λhe=>h.ne (he▸O)⟩
  rcases O with O|O|O|O
  .exact ag b (by simp[O])
  .exact⟨(hd b O).2.2,ak b O,(hd b O).2.1⟩
  .exact ag b (by simp[O])
  .exact ag b (by simp[O])
 subst hX;refine⟨ac.ak λb O=>aR (bQ b O).2.2,?_,λa2=>(bQ N a2).2.2 rfl,λb O=>⟨(bQ b O).1,by simpa[World.setCell] using (bQ b O).2.1⟩,h.go⟩;exact h.o.aM 1 _
structure JQ(u:ay)(s:aj)(t:Int)(f:al)(x:az)(r:Int×Int):Prop where
 bad:r.2≠0->b2 u s t f x=({s with fault:=r.2},true)
 lf:r.2=0->x.op=4->free u.af s.table r.1 t=true->b2 u s t f x=({bs s t (next f) with table:=fw u.af s.table r.1 t},true)
 ln:r.2=0->x.op=4->free u.af s.table r.1 t=false->b2 u s t f x=(s,false)
 uf:r.2=0->x.op=5->heldBy u.af s.table r.1 t=true->b2 u s t f x=({bs s t (next f) with table:=cV u.af s.table r.1 t},true)
 un:r.2=0->x.op=5->heldBy u.af s.table r.1 t=false->b2 u s t f x=({s with fault:=3},true)
theorem JF(cx:x.op=4\/x.op=5):JQ u s t f x (bF u s f x.place):=by
 have h0:b2 u s t f x=(if (bF u s f x.place).2≠0 then ({s with fault:=(bF u s f x.place).2},true)
  else if x.op=4 then (if free u.af s.table (bF u s f x.place).1 t then ({bs s t (next f) with table:=fw u.af s.table (bF u s f x.place).1 t},true) else (s,false))
  else (if heldBy u.af s.table (bF u s f x.place).1 t then ({bs s t (next f) with table:=cV u.af s.table (bF u s f x.place).1 t},true) else ({s with fault:=3},true))):=by
  unfold b2;rw[if_neg ad,if_neg ad,if_pos cx]
 generalize bF u s f x.place=r at *;refine⟨λh=>?_,λh ac au=>?_,λh ac au=>?_,λh ac au=>?_,λh ac au=>?_⟩
 .rw[h0,if_pos h]
 .rw[h0,if_neg ad,if_pos ac,if_pos au]
 .rw[h0,if_neg ad,if_pos ac,if_neg (by simp[au])]
 .rw[h0,if_neg ad,if_neg ad,if_pos au]
 .rw[h0,if_neg ad,if_neg ad,if_neg (by simp[au])]
namespace Cj
theorem zR(h:p:=by
 obtain⟨bh,a9,bd⟩:=bA (w:=w) [.slice aZ cr bc,.slice aV m L,.slice be co a3,.int .i64 z] (by rfl) aW.1 aW.2 ad hX;have i:=ah a9 bd;clear hX a9 bd bl aA aO;obtain⟨bl,aA,aO⟩:=bh.two;refine Lk (v:=.tuple #[.agg #[.slice aZ cr bc,.slice aV m L,.slice be co a3,.int .i64 z],.bool true]) (by simp[results,Tryz.results31,go_sem,bl]) rfl ?_;rw[bT.o];show cR mG w {s with fault:=z} true _ _
 exact ew (Q:={s with fault:=z}) (q:=⟨aZ,cr,bc,aV,m,L,be,co,a3⟩) c5.o i.2 (λb O=>ad) ad i.1
 ):p:=h
theorem Aa(h:p:=by
 refine(pT u s t f x.place N W ⟨GA,gn,gc,MA,mn,mc,PA,pn,pc⟩ ⟨bR,bV,bC,TA,tn,tc,HA,hn,hc⟩ QA qm qc ⟨aQ.hU.ok,aQ.hS,aQ.sm,aQ.ht,⟨cq,aQ.hp,cn.1⟩,ag.2.2.2.2.2.1,ag.2.2.2.2.2.2.1,ag.2.2.2.2.2.2.2.place⟩).mono ?_;rintro e aS ⟨rfl,bS⟩;rw[iw aQ.ht];have aN:Ext W aS:=Fr.of bS;have b9:=cn.2.2.2;generalize bF u s f x.place=R at *;obtain⟨au,z⟩:=R;have a2:=ae b9;clear b9 bS a0 ai af a8 am aF d0 aL aM;have cZ:=ag.1.size;have dr:=ag.2.2.2.2.1.lt;have bu:=ae aN;have cp:=aN.size;obtain⟨a0,ai,af⟩:=(ag.2.1.ai aN).two;obtain⟨a8,am,aF⟩:=(ag.2.2.1.ai aN).two;obtain⟨d0,aL,aM⟩:=(ag.2.2.2.1.ai aN).two;clear aN;by_cases bt:z=0
 case neg=>
  have bT:=ae (K.bad bt);have q1:(z != 0)=true:=by simpa using bt
  clear bt K a2;go_wp2_with(fail);refine(k0 s ⟨bR,bV,bC,TA,tn,tc,HA,hn,hc⟩ z aS (ag.2.2.2.2.2.2.1.on bu.o) aQ.sm).mono ?_;exact zQ
 have q1:(z != 0)=false:=by simpa using bt
 have aU:=a2.2 bt;have aI:=lR aQ.hU.ok;have bi:au<=5000:=by simp only at aU;omega
 have bf:=ae bt;clear bt aU aI;by_cases bE:x.op=4
 .have df:(x.op == 4)=true:=by simpa using bE
  have q5:(x.op == 5)=false:=by simp;omega
  have bw:=ae (K.lf bf.o bE);have bo:=ae (K.ln bf.o bE);clear bE K;go_wp2_with(fail);refine(DL MA TA mn mc tn tc u.af s.table au t aS (ag.2.2.2.2.2.1.on bu.o).at_.m.om aQ.hU.ok.yp (ag.2.2.2.2.2.2.1.on bu.o).at_.t.holds cn.2.1 ad ad).mono ?_;intro e aT ap;obtain⟨I,aJ,rfl,b3,cf,aB,bg⟩:=ap.open_ (n:=tn) (by rw[fa];exact bU.2.2.2.2.symm);have a1:tn=(fw u.af s.table au t).length:=by rw[fa];exact bU.2.2.2.2
  have aa:=ah aB a1;have a4:=ae (show Ext W aT from bu.trans (Fr.of bg));have bN:=bg.size;generalize hT:fw u.af s.table au t=T at *;clear ap cf aB bg a1 hT a0 ai af a8 am aF d0 aL aM;obtain⟨a8,am,aF⟩:=(ag.2.2.1.ai a4.o).two;obtain⟨d0,aL,aM⟩:=(ag.2.2.2.1.ai a4.o).two
  cases cb:free u.af s.table au t with
  | true=>
   exact FV
  | false=>
   have bT:=ae (bo.o cb);clear bw bo;go_wp2_with(fail);refine(sN s ⟨bR,bV,bC,TA,tn,tc,HA,hn,hc⟩ aT (ag.2.2.2.2.2.2.1.on a4.o) aQ.sm).mono ?_;rintro e bX ⟨⟨aZ,cr,bc,aV,m,L,be,co,a3⟩,rfl,bY,a7⟩;have c5:=ae bY;have cG:=(ag.2.2.2.2.1.ai a4.o).ai a7;have aW:=ah cG ((ag.1.trans a4.o).trans a7);clear bY a7 a8 am aF d0 aL aM;obtain⟨bl,aA,aO⟩:=cG.two;clear cG;go_wp2_with(fail);generalize hX:World.setCell _ _ _=Z;obtain⟨bh,a9,bd⟩:=bA (w:=w) [.slice aZ cr bc,.slice aV m L,.slice be co a3,.int .i64 s.fault] (by rfl) aW.1 aW.2 ad hX;have i:=ah a9 bd;clear hX a9 bd bl aA aO;obtain⟨bl,aA,aO⟩:=bh.two;refine Lk (v:=.tuple #[.agg #[.slice aZ cr bc,.slice aV m L,.slice be co a3,.int .i64 s.fault],.bool false]) (by simp[results,Tryz.results31,go_sem,bl]) rfl ?_;rw[bT.o];show cR mG w s false _ _
   exact ew (Q:=s) (q:=⟨aZ,cr,bc,aV,m,L,be,co,a3⟩) (c5.mono λb O=>.inr O) i.2 (λb O=>ad) ad i.1
 .have cF:x.op=5:=ad;have df:(x.op == 4)=false:=by simpa using bE
  have q5:(x.op == 5)=true:=by simpa using cF
  have bw:=ae (K.uf bf.o cF);have bo:=ae (K.un bf.o cF);clear bE cF K;go_wp2_with(fail);refine(wR MA TA mn mc tn tc u.af s.table au t aS aQ.hU.ok.yp (ag.2.2.2.2.2.2.1.on bu.o).at_.t.holds cn.2.1 ad).mono ?_;intro e aT ap;obtain⟨I,aJ,rfl,b3,cf,aB,bg⟩:=ap.open_ (n:=tn) (by rw[eZ];exact bU.2.2.2.2.symm);have a1:tn=(cV u.af s.table au t).length:=by rw[eZ];exact bU.2.2.2.2
  have aa:=ah aB a1;have a4:=ae (show Ext W aT from bu.trans (Fr.of bg));have bN:=bg.size;generalize hT:cV u.af s.table au t=T at *;clear ap cf aB bg a1 hT a0 ai af a8 am aF d0 aL aM;obtain⟨a8,am,aF⟩:=(ag.2.2.1.ai a4.o).two;obtain⟨d0,aL,aM⟩:=(ag.2.2.2.1.ai a4.o).two
  cases cb:heldBy u.af s.table au t with
  | true=>
   exact FV
  | false=>
   have bT:=ae (bo.o cb);clear bw bo;go_wp2_with(fail);refine(k0 s ⟨bR,bV,bC,TA,tn,tc,HA,hn,hc⟩ 3 aT (ag.2.2.2.2.2.2.1.on a4.o) aQ.sm).mono ?_;rintro e bX ⟨⟨aZ,cr,bc,aV,m,L,be,co,a3⟩,rfl,bY,a7⟩;have c5:=ae bY;have cG:=(ag.2.2.2.2.1.ai a4.o).ai a7;have aW:=ah cG ((ag.1.trans a4.o).trans a7);clear bY a7 a8 am aF d0 aL aM;obtain⟨bl,aA,aO⟩:=cG.two;clear cG;go_wp2_with(fail);generalize hX:World.setCell _ _ _=Z;obtain⟨bh,a9,bd⟩:=bA (w:=w) [.slice aZ cr bc,.slice aV m L,.slice be co a3,.int .i64 3] (by rfl) aW.1 aW.2 ad hX;have i:=ah a9 bd;clear hX a9 bd bl aA aO;obtain⟨bl,aA,aO⟩:=bh.two;refine Lk (v:=.tuple #[.agg #[.slice aZ cr bc,.slice aV m L,.slice be co a3,.int .i64 3],.bool true]) (by simp[results,Tryz.results31,go_sem,bl]) rfl ?_;rw[bT.o];show cR mG w {s with fault:=3} true _ _
   exact ew (Q:={s with fault:=3}) (q:=⟨aZ,cr,bc,aV,m,L,be,co,a3⟩) c5.o i.2 (λb O=>ad) ad i.1
 ):p:=h
theorem hv(h:p:=by
 obtain⟨eo,en,es,EA,em,ec,QA,qm,qc,dg,j,c9,KA,dj,kc⟩:=v;have bk:cU (bx u) cq.locals cq.au x.place:=by
  exact y5
 have ti:tn=s.table.length:=by have:=hs.at_.t.1;simpa using this.symm
 have ax:=h.hS.yO;have cD:t<=1000:=ad;have bZ:=h.hS.tok hN;have b9:=jt (s:=s) (nl:=cq.locals) (nk:=f.au.length) h.hU.ok h.hF (Int.le_refl _) (by rw[h.hF.sM h.hp];exact bk);have dc:=h.pc;have K:=ae (JF (u:=u) (s:=s) (t:=t) (f:=f) (x:=x) cx);have aQ:=ae h;have bU:=cK ao db bv cd ti;have cn:=bL bk bZ dc b9;have cc:=aD hu hs bI;clear h ao db cu bv cd ti bk bZ b9 dc ax hu hs bI;dsimp only[UV.val,SV.val,IV.val];go_enter func31,ntmps31;exact z9
 ):p:=h
end Cj
open Cj in
theorem Iq(u:ay)(s:aj)(t:Int)(f:al)(cq:cH)(x:az)(N:Nat)(w:World)(p:UV)(q:SV)(v:IV)(h:jO u s t f cq x N)(hN:N<=100000)(cx:x.op=4\/x.op=5)(hu:p.Ok w u)(hs:q.Ok w s)(bI:v.Ok w x) :
  Calls prog 31 #[.agg (p.val u),.agg (q.val s),.int .i64 t,.agg (v.val x)] w (cR mG w (b2 u s t f x).1 (b2 u s t f x).2):=by
 obtain⟨ao,db,cu,fs,bv,cd⟩:=h.th;exact hr
end Go.Proofs.YtglbpimocmhojaaGreat

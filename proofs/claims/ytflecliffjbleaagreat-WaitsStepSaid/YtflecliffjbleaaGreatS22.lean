/- Part 22 of the proof. No condition of its own. -/
import Derived.Test.YtflecliffjbleaaGreatS21
namespace Go.Proofs.YtflecliffjbleaaGreat
open Go.RowKit Go.Proofs.Tryz
set_option maxRecDepth 1000000
set_option maxHeartbeats 25600000
set_option linter.unusedVariables false
variable{t:Int}{p:Prop}{s:ai}{f:an}{u:aw}{x:ay}
structure KK(u:aw)(s:ai)(t:Int)(f:an)(x:ay)(a b:List Int×Int):Prop where
 Jg:a.2≠0->b1 u s t f x=({s with fault:=a.2},true)
 Jh:a.2=0->b.2≠0->b1 u s t f x=({s with fault:=b.2},true)
 many:a.2=0->b.2=0->x.op=3->32<=s.threads.length->b1 u s t f x=({s with fault:=4},true)
 go:a.2=0->b.2=0->x.op=3->¬32<=s.threads.length->b1 u s t f x=({bq s t (next f) with threads:=(bq s t (next f)).threads++[[dn u x.target a.1 b.1]]},true)
 call:a.2=0->b.2=0->x.op=2->b1 u s t f x=(qM (bq s t (next f)) t (dn u x.target a.1 b.1),true)
theorem Kw(co:x.op=2\/x.op=3):KK u s t f x (cP s.globals f.ints x.ints) (bZ u s f x.places):=by
 have h0:b1 u s t f x=(if b5 (cP s.globals f.ints x.ints).2 (bZ u s f x.places).2 (decide (x.op=3/\32<=s.threads.length))≠0 then ({s with fault:=b5 (cP s.globals f.ints x.ints).2 (bZ u s f x.places).2 (decide (x.op=3/\32<=s.threads.length))},true)
  else if x.op=3 then ({bq s t (next f) with threads:=(bq s t (next f)).threads++[[dn u x.target (cP s.globals f.ints x.ints).1 (bZ u s f x.places).1]]},true)
  else (qM (bq s t (next f)) t (dn u x.target (cP s.globals f.ints x.ints).1 (bZ u s f x.places).1),true)):=by
  unfold b1;rw[if_neg ad,if_pos co]
 generalize cP s.globals f.ints x.ints=a at *;generalize bZ u s f x.places=b at *;refine⟨λh=>?_,λh ac=>?_,λh ac a1 aD=>?_,λh ac a1 aD=>?_,λh ac ax=>?_⟩
 .have:b5 a.2 b.2 (decide (x.op=3/\32<=s.threads.length))=a.2:=by unfold b5;rw[if_pos h]
  rw[h0,this,if_pos h]
 .have:b5 a.2 b.2 (decide (x.op=3/\32<=s.threads.length))=b.2:=by unfold b5;rw[if_neg ad,if_pos ac]
  rw[h0,this,if_pos ac]
 .have:b5 a.2 b.2 (decide (x.op=3/\32<=s.threads.length))=4:=by unfold b5;rw[if_neg ad,if_neg ad,if_pos (by simp[a1,aD])]
  rw[h0,this,if_pos ad]
 .have:b5 a.2 b.2 (decide (x.op=3/\32<=s.threads.length))=0:=by unfold b5;rw[if_neg ad,if_neg ad,if_neg (by simp;omega)]
  rw[h0,this,if_neg ad,if_pos a1]
 .have:b5 a.2 b.2 (decide (x.op=3/\32<=s.threads.length))=0:=by unfold b5;rw[if_neg ad,if_neg ad,if_neg (by simp;omega)]
  rw[h0,this,if_neg ad,if_neg ad]
namespace CD
theorem dd(h:p:=by
 generalize bj:World.setCell _ _ _=dz;obtain⟨cv,bR,cR⟩:=dl.o _ _ _ _ _ _ _ bF.2.2.1 bF.2.2.2 I.1 I.2.1 I.2.2 bj;have n:=aA cv bR ((ag.2.2.2.2.1.aj bF.2.1).on cR ad);have bO:=ae (show Ext w dz from Fr.low (M:=λb=>aP.heap.size<=b) (Fr.trans (Fr.mono (ag.1.trans bF.2.1) λ_ h=>h.elim) cR) λb O=>ad);clear bj cv bR cR cU cy dv dW;have b3:=n.2.2;obtain⟨bp,aM,aV⟩:=b3.two;obtain⟨e0,a6,aQ⟩:=n.2.1.two;clear b3;go_wp2_with(fail);generalize hX:World.setCell _ _ _=Z;obtain⟨bt,ba,bf⟩:=bs (w:=w) [.slice bc bK L,.slice a4 tn S,.slice (some ⟨O,0,none⟩) hn aX,.int .i64 s.fault] (by rfl) n.2.2 bO.o ad hX;have bh:=ah ba bf;clear hX ba bf bp aM aV e0 a6 aQ;obtain⟨bp,aM,aV⟩:=bt.two;refine Mf (v:=.tuple #[.agg #[.slice bc bK L,.slice a4 tn S,.slice (some ⟨O,0,none⟩) hn aX,.int .i64 s.fault],.bool true]) (by simp[results,Tryz.results51,go_sem,bp]) rfl ?_;rw[bT.o];show c8 nQ w _ true _ _
 rw[uO bS.2.2.1];have cT:=bh.2.size;exact⟨⟨bc,bK,L,a4,tn,S,some ⟨O,0,none⟩,hn,aX⟩,rfl,((n.1.ak (ab:=Z) λb O=>bh.2.block b O.2.1 (aB O.1)).mono λb O=>.inr ⟨by have:=O.1;omega,by have:=O.2.1;show b<Z.heap.size;omega⟩),bh.1⟩
 ):p:=h
theorem AG(h:p:=by
 obtain⟨bt,ba,bf⟩:=bs (w:=w) [.slice bc cx L,.slice a4 m S,.slice bl bJ aX,.int .i64 aT] (by rfl) a2.1 a2.2 ad hX;have bh:=ah ba bf;clear hX ba bf bp aM aV;obtain⟨bp,aM,aV⟩:=bt.two;refine Mf (v:=.tuple #[.agg #[.slice bc cx L,.slice a4 m S,.slice bl bJ aX,.int .i64 aT],.bool true]) (by simp[results,Tryz.results51,go_sem,bp]) rfl ?_;rw[bT.o];show c8 nQ w {s with fault:=aT} true _ _
 exact eB (aq:={s with fault:=aT}) (q:=⟨bc,cx,L,a4,m,S,bl,bJ,aX⟩) cK.o bh.2 (λb O=>ad) ad bh.1
 ):p:=h
theorem A6(h:p:=by
 refine(wL u s t f cp x N W ⟨GA,gn,gc,MA,mn,mc,PA,pn,pc⟩ ⟨bE,bK,bw,TA,tn,tc,HA,hn,hc⟩ ⟨eo,en,es,EA,em,ec,QA,qm,qc,dk,j,df,KA,dg,kc⟩ aR.o co ag.2.2.2.2.2.1 ag.2.2.2.2.2.2.1 ag.2.2.2.2.2.2.2).mono ?_;intro e aP aj;have aU:=ah (λh ax=>aj.2.2 h ax) ac.o;have dp:=(qo aR.hS aR.hF aR.hp x.ints (aR.args co).1).2.1;have c3:=(nN (s:=s) (nk:=cp.ax) aR.hU.ok aR.hF (by rw[aR.hF.qq aR.hp];exact Int.le_refl _) x.places (aR.args co).2.1).2.1;generalize cP s.globals f.ints x.ints=aa at *;generalize bZ u s f x.places=bb at *;obtain⟨dM,aT⟩:=aa;obtain⟨bi,bz⟩:=bb;have b2:=ah dp c3;clear dp c3 aU a0 ak af a8 am aJ d0 aK aO;have cS:=ag.1.size;have dy:=ag.2.2.2.2.1.lt;by_cases aG:aT=0
 case neg=>
  obtain⟨rfl,aL⟩:=aj.1 aG;have bT:=ae (ac.Jg aG);have q1:(aT == 0)=false:=by simpa using aG
  have cO:(aT != 0)=true:=by simpa using aG
  clear aj aG ac b2;have dx:=ag.2.2.2.2.2.2.1.on aL;obtain⟨a5,bu⟩:=aH dx aL;obtain⟨a8,am,aJ⟩:=(ag.2.2.1.aj aL).two;obtain⟨d0,aK,aO⟩:=(ag.2.2.2.1.aj aL).two;have cg:=aL.size;clear dx aL;go_wp2_with(fail);refine(lB s ⟨bE,bK,bw,TA,tn,tc,HA,hn,hc⟩ aT aP a5.o aR.sm).mono ?_;exact AF
 by_cases Q:bz=0
 case neg=>
  obtain⟨rfl,aL⟩:=aj.2.1 aG Q;have bT:=ae (ac.Jh aG Q);have q1:(bz == 0)=false:=by simpa using Q
  have cO:(bz != 0)=true:=by simpa using Q
  clear aj aG Q ac b2;have dx:=ag.2.2.2.2.2.2.1.on aL;obtain⟨a5,bu⟩:=aH dx aL;obtain⟨a8,am,aJ⟩:=(ag.2.2.1.aj aL).two;obtain⟨d0,aK,aO⟩:=(ag.2.2.2.1.aj aL).two;have cg:=aL.size;clear dx aL;go_wp2_with(fail);refine(lB s ⟨bE,bK,bw,TA,tn,tc,HA,hn,hc⟩ bz aP a5.o aR.sm).mono ?_;rintro e b4 ⟨⟨bc,cx,L,a4,m,S,bl,bJ,aX⟩,rfl,b8,a3⟩;have cK:=ae b8;have cC:=(ag.2.2.2.2.1.aj bu.o).aj a3;have a2:=ah cC ((ag.1.trans bu.o).trans a3);clear b8 a3 a8 am aJ d0 aK aO;obtain⟨bp,aM,aV⟩:=cC.two;clear cC;go_wp2_with(fail);generalize hX:World.setCell _ _ _=Z;obtain⟨bt,ba,bf⟩:=bs (w:=w) [.slice bc cx L,.slice a4 m S,.slice bl bJ aX,.int .i64 bz] (by rfl) a2.1 a2.2 ad hX;have bh:=ah ba bf;clear hX ba bf bp aM aV;obtain⟨bp,aM,aV⟩:=bt.two;refine Mf (v:=.tuple #[.agg #[.slice bc cx L,.slice a4 m S,.slice bl bJ aX,.int .i64 bz],.bool true]) (by simp[results,Tryz.results51,go_sem,bp]) rfl ?_;rw[bT.o];show c8 nQ w {s with fault:=bz} true _ _
  exact eB (aq:={s with fault:=bz}) (q:=⟨bc,cx,L,a4,m,S,bl,bJ,aX⟩) cK.o bh.2 (λb O=>ad) ad bh.1
 obtain⟨IA,dH,ci,bB,nl,cl,rfl,dN,bq,bU,b0,aL⟩:=aj.2.2 aG Q;have bM:=aA bU b0 aL;have dS:dM.length=dH:=by have:=bU.1;simpa using this
 have cu:bi.length=nl:=by have:=b0.1;simpa using this
 have ca:=bA dS cu (b2.1 aG) (b2.2 Q);clear aj bU b0 dN bq dS cu b2;have c7:=aA (ac.many aG Q) (ac.go aG Q) (ac.call aG Q);clear ac aG Q;by_cases a1:x.op=3
 .have da:(x.op == 3)=true:=by simpa using a1
  by_cases aD:32<=hn
  .have db:decide ((hn:Int)>=32)=true:=by simpa using (by omega:(32:Int)<=(hn:Int))
   have bT:=ae (c7.1 a1 (by rw[<-bS.2.2.2.2];exact aD));clear a1 aD c7;have dx:=ag.2.2.2.2.2.2.1.on aL;obtain⟨a5,bu⟩:=aH dx aL;obtain⟨a8,am,aJ⟩:=(ag.2.2.1.aj aL).two;obtain⟨d0,aK,aO⟩:=(ag.2.2.2.1.aj aL).two;have cg:=aL.size;clear dx aL;go_wp2_with(fail);refine(lB s ⟨bE,bK,bw,TA,tn,tc,HA,hn,hc⟩ 4 aP a5.o aR.sm).mono ?_;rintro e b4 ⟨⟨bc,cx,L,a4,m,S,bl,bJ,aX⟩,rfl,b8,a3⟩;have cK:=ae b8;have cC:=(ag.2.2.2.2.1.aj bu.o).aj a3;have a2:=ah cC ((ag.1.trans bu.o).trans a3);clear b8 a3 a8 am aJ d0 aK aO;obtain⟨bp,aM,aV⟩:=cC.two;clear cC;go_wp2_with(fail);generalize hX:World.setCell _ _ _=Z;obtain⟨bt,ba,bf⟩:=bs (w:=w) [.slice bc cx L,.slice a4 m S,.slice bl bJ aX,.int .i64 4] (by rfl) a2.1 a2.2 ad hX;have bh:=ah ba bf;clear hX ba bf bp aM aV;obtain⟨bp,aM,aV⟩:=bt.two;refine Mf (v:=.tuple #[.agg #[.slice bc cx L,.slice a4 m S,.slice bl bJ aX,.int .i64 4],.bool true]) (by simp[results,Tryz.results51,go_sem,bp]) rfl ?_;rw[bT.o];show c8 nQ w {s with fault:=4} true _ _
   exact eB (aq:={s with fault:=4}) (q:=⟨bc,cx,L,a4,m,S,bl,bJ,aX⟩) cK.o bh.2 (λb O=>ad) ad bh.1
  .have db:decide ((hn:Int)>=32)=false:=by simp;omega
   have bT:=ae (c7.2.1 a1 (by rw[<-bS.2.2.2.2];exact aD));clear a1 aD c7;have dx:=ag.2.2.2.2.2.2.1.on aL;obtain⟨a5,bu⟩:=aH dx aL;have c4:=bS.2.1;have du:t<(hn:Int):=by have:=bS.2.2.2.2;have:=(List.getElem?_eq_some_iff.1 bS.2.2.1).1;omega
   obtain⟨a8,am,aJ⟩:=(ag.2.2.1.aj aL).two;obtain⟨d0,aK,aO⟩:=(ag.2.2.2.1.aj aL).two;have cg:=aL.size;clear dx aL;go_wp2_with(fail);refine(fT s bE TA HA bK bw tn tc hn hc aP a5.at_ aR.sm).mono ?_;rintro e b4 ⟨bc,L,a4,S,bl,aX,xs,F1,F2,bI,b9,rfl,cm,bm,a3⟩;have bY:=aA cm bm a3;have cF:=a3.size;clear cm bm a3 a8 am aJ d0 aK aO;go_upto_region 7 with(fail);generalize hV:World.alloc _ _=V;have bo:=aZ hV;have b5:=aN hV;have hOut:dC aP.heap.size V s b4.heap.size ⟨bc,bK,L,a4,tn,S,bl,hn,aX⟩ xs F1 F2 bI b9:=
    ⟨bY.1.ak λb O=>bo.block b (bY.2.1 b O).2 λh=>h,b5,λO=>by have:=(bY.2.1 _ O).2;omega,λb O=>⟨(bY.2.1 b O).1,by have:=(bY.2.1 b O).2;have:=bo.size;omega⟩,cF⟩
   have z:Ext aP V:=bY.2.2.trans bo;obtain⟨bW,c1,i2,cH,dh,c0,di,cf,ct,aE,J⟩:=hOut.top bS.2.2.1 bS.2.1 bS.1 bS.2.2.2.1;have cc:=aA aE J z;obtain⟨e0,a6,aQ⟩:=hOut.o.two;clear hV bo b5 hOut z aE J cf ct;go_wp2_with(fail);refine(cc.1 V Mg).mono ?_;rintro e cI ⟨rfl,bL⟩;have P:=ae (cc.2.1 cI bL);have cd:=ae (cc.2.2.trans bL);clear e0 a6 aQ bL;have ce:=P.c1;have g2:=P.fz;have cN:=P.lt;have cZ:=cj.2.2.2.2.2;go_upto_region 8 with(fail);generalize hX:World.setCell _ _ _=X;have bH:sD aP.heap.size X {s with threads:=s.threads.set t.toNat (fs++[next f])} b4.heap.size ⟨bc,bK,L,a4,tn,S,bl,hn,aX⟩ xs F1 F2 bI b9 t fs (next f) bW c1 i2 cH dh c0 di:=hX▸P.JO bS.2.2.1 (f.pc+1);have b6:=cJ hX;have ds:=P.ge;have i:Ext aP X:=Fr.low (M:=λb=>b=bW) (Fr.trans (Fr.mono cd.o λ_ h=>h.elim) b6) λb O=>ad;have ck:=bu.trans i;have aS:=aA bH.oz i ck;obtain⟨a0,ak,af⟩:=(ag.2.1.aj ck).two;obtain⟨d0,aK,aO⟩:=(ag.2.2.2.1.aj ck).two;clear hX bH b6 i ck ce g2 cN P;go_wp2_with(fail);have dE:=(bM.1.ak (ab:=X) λb O=>aS.2.1.block b O.2 λh=>h).mono (cW:=av X) λb O=>LC O.2 aS.2.1.size;have aY:=(bM.2.1.ak (ab:=X) λb O=>aS.2.1.block b O.2 λh=>h).mono (cW:=av X) λb O=>LC O.2 aS.2.1.size;have bP:=ca.2.2.1;have cV:=ca.2.2.2;refine(mframe u x.target dV dM bi IA bB dH ci nl cl X ⟨GA,gn,gc,MA,mn,mc,PA,pn,pc⟩ (ag.2.2.2.2.2.1.on aS.2.2) cj.1 cj.2.1 (nz cj.2.2.1 cj.2.2.2.2.1.ints) cj.2.2.2.2.1.ints.2.2 (aB aR.kl) dE aY).mono ?_;rintro e cA ⟨FA,dD,br,dB,fl,cD,rfl,bX,b7⟩
   generalize bC:dn u x.target dM bi=R at *;have dj:=ae bC;have dL:=ah bX b7;clear bC dE aY bP cV bX b7 a0 ak af d0 aK aO;go_upto_region 9 with(fail);generalize cq:World.alloc _ _=Y;have bx:=aZ cq;have bD:=aN cq;have cY:Ext X Y:=dL.2.trans bx;have bn:=aS.2.2.trans cY;have l:=aS.1.aj cY;have ar:(gJ R).rep Y (fresh X cA) [.int .i64 R.proc,.int .i64 R.pc,.slice FA dD br,.slice dB fl cD]:=D.aP (λb O=>bx.block b O.2 λh=>h) _ _ dL.1;have f2:=dL.2.size;have dZ:=bx.size;have dX:=aS.1.o.lt;have dF:=aS.2.1.size;have c5:∀b,fresh X cA b->aP.heap.size<=b/\b<Y.heap.size/\b≠b4.heap.size/\b∉F1++(F2++(bI++b9)):=λb O=>⟨by have:=O.1;omega,by have:=O.2;omega,by have:=O.1;omega,λhm=>by have:=(aS.1.lo b hm).2;have:=O.1;omega⟩
   have bF:=bA l bn ar c5;obtain⟨d0,aK,aO⟩:=(ag.2.2.2.1.aj bn).two;obtain⟨e0,a6,aQ⟩:=l.o.two;obtain⟨f0,dQ,eW⟩:=bD.two;clear cq bx bD cY bn l ar c5 cc cd bY;have bk:=bF.1.st.h.aj ((Fr.refl _ Y).alloc (.cells #[.int .i64 R.proc,.int .i64 R.pc,.slice FA dD br,.slice dB fl cD] 99));have fh:b4.heap.size∉bI:=λh=>bF.1.ne (by simp[h]);have al:=bF.1.o.aj ((Fr.refl _ Y).alloc (.cells #[.int .i64 R.proc,.int .i64 R.pc,.slice FA dD br,.slice dB fl cD] 99));have dq:=ah bk al;clear bk al;go_upto_region 12 with(at_builtin;refine nr sR rfl (.tmp 65) (.tmp 69) rfl dq.1 (cs:=#[.slice (some ⟨Y.heap.size,0,none⟩) 1 1]) rfl rfl (by simp) rfl (by simp[Value.oneCell']) (by simp only;omega) (by simp only;omega) ?_;intro A2 c2 cL ce g2 cN;have cE:=dq.2.on g2 fh;have I:=aA ce g2 cN;clear ce g2 cN e0 a6 aQ f0 dQ eW d0 aK aO;obtain⟨e0,a6,aQ⟩:=cE.two;clear cE);generalize bj:World.setCell _ _ _=dz;obtain⟨cv,bR,cR⟩:=bF.1.start bF.2.2.1 bF.2.2.2 rfl I.1 I.2.1 I.2.2 bj;have n:=aA cv bR ((ag.2.2.2.2.1.aj bF.2.1).on cR ad);have bO:=ae (show Ext w dz from Fr.low (M:=λb=>aP.heap.size<=b) (Fr.trans (Fr.mono (ag.1.trans bF.2.1) λ_ h=>h.elim) cR) λb O=>ad);clear bj cv bR cR e0 a6 aQ;have b3:=n.2.2;obtain⟨bp,aM,aV⟩:=b3.two;obtain⟨e0,a6,aQ⟩:=n.2.1.two;clear b3;go_wp2_with(fail);generalize hX:World.setCell _ _ _=Z;obtain⟨bt,ba,bf⟩:=bs (w:=w) [.slice bc bK L,.slice a4 tn S,.slice A2 (hn+1) c2,.int .i64 s.fault] (by rfl) n.2.2 bO.o ad hX;have bh:=ah ba bf;clear hX ba bf bp aM aV e0 a6 aQ
   obtain⟨bp,aM,aV⟩:=bt.two;refine Mf (v:=.tuple #[.agg #[.slice bc bK L,.slice a4 tn S,.slice A2 (hn+1) c2,.int .i64 s.fault],.bool true]) (by simp[results,Tryz.results51,go_sem,bp]) rfl ?_;rw[bT.o];show c8 nQ w _ true _ _
   rw[ej bS.2.2.1];have cT:=bh.2.size;exact⟨⟨bc,bK,L,a4,tn,S,A2,hn+1,c2⟩,rfl,((n.1.ak (ab:=Z) λb O=>bh.2.block b O.2.1 (aB O.1)).mono λb O=>.inr ⟨by have:=O.1;omega,by have:=O.2.1;show b<Z.heap.size;omega⟩),bh.1⟩
 .have ax:x.op=2:=ad;have da:(x.op == 3)=false:=by simpa using a1
  have bT:=ae (c7.2.2 ax);clear a1 ax c7;have dx:=ag.2.2.2.2.2.2.1.on aL;obtain⟨a5,bu⟩:=aH dx aL;have c4:=bS.2.1;have du:t<(hn:Int):=by have:=bS.2.2.2.2;have:=(List.getElem?_eq_some_iff.1 bS.2.2.1).1;omega
  obtain⟨a8,am,aJ⟩:=(ag.2.2.1.aj aL).two;obtain⟨d0,aK,aO⟩:=(ag.2.2.2.1.aj aL).two;have cg:=aL.size;clear dx aL;go_wp2_with(fail);refine(fT s bE TA HA bK bw tn tc hn hc aP a5.at_ aR.sm).mono ?_;rintro e b4 ⟨bc,L,a4,S,bl,aX,xs,F1,F2,bI,b9,rfl,cm,bm,a3⟩;have bY:=aA cm bm a3;have cF:=a3.size;clear cm bm a3 a8 am aJ d0 aK aO;go_upto_region 7 with(fail);generalize hV:World.alloc _ _=V;have bo:=aZ hV;have b5:=aN hV;have hOut:dC aP.heap.size V s b4.heap.size ⟨bc,bK,L,a4,tn,S,bl,hn,aX⟩ xs F1 F2 bI b9:=
   ⟨bY.1.ak λb O=>bo.block b (bY.2.1 b O).2 λh=>h,b5,λO=>by have:=(bY.2.1 _ O).2;omega,λb O=>⟨(bY.2.1 b O).1,by have:=(bY.2.1 b O).2;have:=bo.size;omega⟩,cF⟩
  have z:Ext aP V:=bY.2.2.trans bo;obtain⟨bW,c1,i2,cH,dh,c0,di,cf,ct,aE,J⟩:=hOut.top bS.2.2.1 bS.2.1 bS.1 bS.2.2.2.1;have cc:=aA aE J z;obtain⟨e0,a6,aQ⟩:=hOut.o.two;clear hV bo b5 hOut z aE J cf ct;go_wp2_with(fail);refine(cc.1 V Mg).mono ?_;rintro e cI ⟨rfl,bL⟩;have P:=ae (cc.2.1 cI bL);have cd:=ae (cc.2.2.trans bL);clear e0 a6 aQ bL;have ce:=P.c1;have g2:=P.fz;have cN:=P.lt;have cZ:=cj.2.2.2.2.2;go_upto_region 8 with(fail);generalize hX:World.setCell _ _ _=X;have bH:sD aP.heap.size X {s with threads:=s.threads.set t.toNat (fs++[next f])} b4.heap.size ⟨bc,bK,L,a4,tn,S,bl,hn,aX⟩ xs F1 F2 bI b9 t fs (next f) bW c1 i2 cH dh c0 di:=hX▸P.JO bS.2.2.1 (f.pc+1);have b6:=cJ hX;have ds:=P.ge;have i:Ext aP X:=Fr.low (M:=λb=>b=bW) (Fr.trans (Fr.mono cd.o λ_ h=>h.elim) b6) λb O=>ad;have ck:=bu.trans i;have aS:=aA bH.oz i ck;obtain⟨a0,ak,af⟩:=(ag.2.1.aj ck).two;obtain⟨d0,aK,aO⟩:=(ag.2.2.2.1.aj ck).two;clear hX bH b6 i ck ce g2 cN P;go_wp2_with(fail);have dE:=(bM.1.ak (ab:=X) λb O=>aS.2.1.block b O.2 λh=>h).mono (cW:=av X) λb O=>LC O.2 aS.2.1.size;have aY:=(bM.2.1.ak (ab:=X) λb O=>aS.2.1.block b O.2 λh=>h).mono (cW:=av X) λb O=>LC O.2 aS.2.1.size;have bP:=ca.2.2.1;have cV:=ca.2.2.2;refine(mframe u x.target dV dM bi IA bB dH ci nl cl X ⟨GA,gn,gc,MA,mn,mc,PA,pn,pc⟩ (ag.2.2.2.2.2.1.on aS.2.2) cj.1 cj.2.1 (nz cj.2.2.1 cj.2.2.2.2.1.ints) cj.2.2.2.2.1.ints.2.2 (aB aR.kl) dE aY).mono ?_;rintro e cA ⟨FA,dD,br,dB,fl,cD,rfl,bX,b7⟩;generalize bC:dn u x.target dM bi=R at *
  have dj:=ae bC;have dL:=ah bX b7;clear bC dE aY bP cV bX b7 a0 ak af d0 aK aO;go_upto_region 9 with(fail);generalize cq:World.alloc _ _=Y;have bx:=aZ cq;have bD:=aN cq;have cY:Ext X Y:=dL.2.trans bx;have bn:=aS.2.2.trans cY;have l:=aS.1.aj cY;have ar:(gJ R).rep Y (fresh X cA) [.int .i64 R.proc,.int .i64 R.pc,.slice FA dD br,.slice dB fl cD]:=D.aP (λb O=>bx.block b O.2 λh=>h) _ _ dL.1;have f2:=dL.2.size;have dZ:=bx.size;have dX:=aS.1.o.lt;have dF:=aS.2.1.size;have c5:∀b,fresh X cA b->aP.heap.size<=b/\b<Y.heap.size/\b≠b4.heap.size/\b∉F1++(F2++(bI++b9)):=λb O=>⟨by have:=O.1;omega,by have:=O.2;omega,by have:=O.1;omega,λhm=>by have:=(aS.1.lo b hm).2;have:=O.1;omega⟩
  have bF:=bA l bn ar c5;obtain⟨d0,aK,aO⟩:=(ag.2.2.2.1.aj bn).two;obtain⟨e0,a6,aQ⟩:=l.o.two;obtain⟨f0,dQ,eW⟩:=bD.two;clear cq bx bD cY bn l ar c5 cc cd bY;obtain⟨O,ch,fc,cG,mW,a7,dR,dw,T,dO,cn,bV,dK,bg,hb,de,cb,az,dm⟩:=bF.1.push (k:=t.toNat) (fs:=fs) (f:=next f) (by have ap:=(List.getElem?_eq_some_iff.1 bS.2.2.1).1;simp[ap]);simp only at mW;subst mW;obtain⟨dl,dq⟩:=aH dm az;have c6:=bS.2.2.2.1;have d1:=(aS.1.lo ch dw).2;have d2:=(aS.1.lo O dR).2;have dY:cA.heap.size≠ch:=ad;have dG:b4.heap.size≠ch:=Ne.symm hb;clear dm az dR dw;go_upto_region 11 with(fail);refine eK (λb=>b=ch) [(0,3),(1,0),(2,3),(3,3),(4,0),(5,3),(6,3),(7,3),(8,0),(9,0),(10,1),(11,1),(12,3),(13,3),(14,2)] ?_;refine pf ?_;refine oG ?_
  iterate 2 refine pf ?_
  refine oG ?_
  iterate 3 refine pf ?_
  iterate 2 refine oG ?_
  refine ry ?_;refine qK (λV=>Ext Y V/\ao V Y.heap.size 99 #[.int .i64 R.proc,.int .i64 R.pc,.slice FA dD br,.slice dB fl cD]/\V.heap.size=Y.heap.size+1) ⟨by first|exact((Fr.refl _ Y).drew).alloc _|exact((Fr.refl _ Y).alloc _).drew,by first|exact Mh|exact ao.new Y.drew _ _,by simp⟩ (λU hU=>?_);have cz:=ae hU;clear hU;refine aI rfl (λK hK=>?_);rw[if_pos (by rfl)];refine yD xX (.tmp 80) (.tmp 82) rfl (dq.aj cz.1) cz.2.1 rfl rfl rfl (by simp[Value.oneCell']) ad ad ?_;intro A2 c2 cL ce g2 cN;have cQ:Fr (λb=>b=ch) U cL:=g2.mono λb O=>Ma.1 O;refine dP hK (cQ) ?_;clear hK K;have aW:Fr (λb=>b=ch) Y cL:=Fr.trans (cz.1.mono λ_ h=>h.elim) cQ;have I:=aA ce aW (λb O=>(cN b O).imp (λh=>Ma.1 h) (λh=>(⟨by have:=cz.2.2;omega,h.2⟩:Y.heap.size<=b/\b<cL.heap.size)));have cU:=(aW.cell (j:=t.toNat) T dK).trans cb;have cy:∀j,cL.frozen? ⟨O,j,none⟩=false:=λj=>(aW.frozen T dK).trans (de j);have dv:=aW.size;clear ce g2 cN cQ aW cb de e0 a6 aQ f0 dQ eW d0 aK aO;exact B2
 ):p:=h
theorem eZ(h:p:=by
 obtain⟨eo,en,es,EA,em,ec,QA,qm,qc,dk,j,df,KA,dg,kc⟩:=v;obtain⟨_,_,dt,dV,dJ,dT,dc,dA⟩:=h.args co;have uz:hn=s.threads.length:=by have:=hs.at_.h.1;simpa using this.symm
 have dr:hn<=1000:=by have:=h.sm.h;omega
 have c9:=h.pc;have ac:=ae (Kw (u:=u) (s:=s) (t:=t) (f:=f) (x:=x) co);have aR:=ae h;have bS:=cX bN c4 bv cr uz;have cj:=dI dt dJ dT dc dA c9;have cc:=aA hu hs bG;clear h bN c4 cw bv cr uz dt dJ dT dc dA c9 hu hs bG;dsimp only[UV.val,SV.val,IV.val];go_enter func51,ntmps51;exact A5
 ):p:=h
end CD
open CD in
theorem Jt(u:aw)(s:ai)(t:Int)(f:an)(cp:cM)(x:ay)(N:Nat)(w:World)(p:UV)(q:SV)(v:IV)(h:jq u s t f cp x N)(co:x.op=2\/x.op=3)(hu:p.Ok w u)(hs:q.Ok w s)(bG:v.Ok w x) :
  Calls prog 51 #[.agg (p.val u),.agg (q.val s),.int .i64 t,.agg (v.val x)] w (c8 nQ w (b1 u s t f x).1 (b1 u s t f x).2):=by
 obtain⟨bN,c4,cw,fs,bv,cr⟩:=h.th;exact eY
theorem aT.tok{N:Nat}(h:aT u N s)(hN:N<=100000):Fz u.af s.table:=by
 refine⟨h.table,λx hx=>?_⟩;obtain⟨i,al⟩:=List.getElem?_of_mem hx;have ag:=h.holds i x al;have:=ag.owner;have:=ag.depth;have:=h.yz;omega
theorem dC.IS{B:Nat}{w X:World}{s:ai}{N:Nat}{q:SV}{xs:List Value}{F1 F2 bI b9:List Nat}(h:dC B w s N q xs F1 F2 bI b9){T:List dc}{a4:Mk}{m S:Nat}(hT:w.ownsRow 0 95 2 (.slice a4 m S) m (T.flatMap cb))(hl:m=T.length)
  (hd:∀b∈bx a4 m S,b∉F1++(F2++(bI++b9))/\b≠N/\B<=b) (hX:w.setCell ⟨N,1,none⟩ (.slice a4 m S)=X):dC B X {s with table:=T} N ⟨q.GA,q.gn,q.gc,a4,m,S,q.HA,q.hn,q.hc⟩ xs F1 (bx a4 m S) bI b9:=by
 have ac:=h.st.IS hT hl λb O=>(hd b O).1;have ap:∀b∈bx a4 m S,b<w.heap.size:=λb O=>(hT.lt b (by simpa using O)).2;have ct:∀b,b∈F1++(bx a4 m S++(bI++b9))->B<=b/\b<w.heap.size/\b≠N:=λb O=>by
  simp only[LL] at O;have ag:∀b,b∈F1++(F2++(bI++b9))->B<=b/\b<w.heap.size/\b≠N:=λb O=>⟨(h.lo b O).1,(h.lo b O).2,λhe=>h.ne (he▸O)⟩
  rcases O with O|O|O|O
  .exact ag b (by simp[O])
  .exact⟨(hd b O).2.2,ap b O,(hd b O).2.1⟩
  .exact ag b (by simp[O])
  .exact ag b (by simp[O])
 subst hX;refine⟨ac.ak λb O=>aR (ct b O).2.2,?_,λaY=>(ct N aY).2.2 rfl,λb O=>⟨(ct b O).1,by simpa[World.setCell] using (ct b O).2.1⟩,h.go⟩;exact h.o.aJ 1 _
structure KM(u:aw)(s:ai)(t:Int)(f:an)(x:ay)(r:Int×Int):Prop where
 bad:r.2≠0->b1 u s t f x=({s with fault:=r.2},true)
 lf:r.2=0->x.op=4->free u.af s.table r.1 t=true->b1 u s t f x=({bq s t (next f) with table:=fJ u.af s.table r.1 t},true)
 ln:r.2=0->x.op=4->free u.af s.table r.1 t=false->b1 u s t f x=(s,false)
 uf:r.2=0->x.op=5->heldBy u.af s.table r.1 t=true->b1 u s t f x=({bq s t (next f) with table:=cY u.af s.table r.1 t},true)
 un:r.2=0->x.op=5->heldBy u.af s.table r.1 t=false->b1 u s t f x=({s with fault:=3},true)
theorem KC(co:x.op=4\/x.op=5):KM u s t f x (bj u s f x.place):=by
 have h0:b1 u s t f x=(if (bj u s f x.place).2≠0 then ({s with fault:=(bj u s f x.place).2},true)
  else if x.op=4 then (if free u.af s.table (bj u s f x.place).1 t then ({bq s t (next f) with table:=fJ u.af s.table (bj u s f x.place).1 t},true) else (s,false))
  else (if heldBy u.af s.table (bj u s f x.place).1 t then ({bq s t (next f) with table:=cY u.af s.table (bj u s f x.place).1 t},true) else ({s with fault:=3},true))):=by
  unfold b1;rw[if_neg ad,if_neg ad,if_pos co]
 generalize bj u s f x.place=r at *;refine⟨λh=>?_,λh ac ax=>?_,λh ac ax=>?_,λh ac ax=>?_,λh ac ax=>?_⟩
 .rw[h0,if_pos h]
 .rw[h0,if_neg ad,if_pos ac,if_pos ax]
 .rw[h0,if_neg ad,if_pos ac,if_neg (by simp[ax])]
 .rw[h0,if_neg ad,if_neg ad,if_pos ax]
 .rw[h0,if_neg ad,if_neg ad,if_neg (by simp[ax])]
namespace CE
theorem AG(h:p:=by
 obtain⟨bt,ba,bf⟩:=bs (w:=w) [.slice bc cx L,.slice a4 m S,.slice bl bJ aX,.int .i64 z] (by rfl) a2.1 a2.2 ad hX;have i:=ah ba bf;clear hX ba bf bp aM aV;obtain⟨bp,aM,aV⟩:=bt.two;refine Mf (v:=.tuple #[.agg #[.slice bc cx L,.slice a4 m S,.slice bl bJ aX,.int .i64 z],.bool true]) (by simp[results,Tryz.results52,go_sem,bp]) rfl ?_;rw[bT.o];show c8 nQ w {s with fault:=z} true _ _
 exact eB (aq:={s with fault:=z}) (q:=⟨bc,cx,L,a4,m,S,bl,bJ,aX⟩) cK.o i.2 (λb O=>ad) ad i.1
 ):p:=h
theorem A6(h:p:=by
 refine(mq u s t f x.place N W ⟨GA,gn,gc,MA,mn,mc,PA,pn,pc⟩ ⟨bE,bK,bw,TA,tn,tc,HA,hn,hc⟩ QA qm qc ⟨aR.hU.ok,aR.hS,aR.sm,aR.ht,⟨cp,aR.hp,cj.1⟩,ag.2.2.2.2.2.1,ag.2.2.2.2.2.2.1,ag.2.2.2.2.2.2.2.place⟩).mono ?_;rintro e aP ⟨rfl,bX⟩;rw[gS aR.ht];have aL:Ext W aP:=Fr.of bX;have bZ:=cj.2.2.2;generalize bj u s f x.place=R at *;obtain⟨l,z⟩:=R;have aY:=ae bZ;clear bZ bX a0 ak af a8 am aJ d0 aK aO;have cS:=ag.1.size;have dy:=ag.2.2.2.2.1.lt;have bu:=ae aL;have cg:=aL.size;obtain⟨a0,ak,af⟩:=(ag.2.1.aj aL).two;obtain⟨a8,am,aJ⟩:=(ag.2.2.1.aj aL).two;obtain⟨d0,aK,aO⟩:=(ag.2.2.2.1.aj aL).two;clear aL;by_cases aG:z=0
 case neg=>
  have bT:=ae (au.bad aG);have q1:(z != 0)=true:=by simpa using aG
  clear aG au aY;go_wp2_with(fail);refine(lB s ⟨bE,bK,bw,TA,tn,tc,HA,hn,hc⟩ z aP (ag.2.2.2.2.2.2.1.on bu.o) aR.sm).mono ?_;exact AF
 have q1:(z != 0)=false:=by simpa using aG
 have aI:=aY.2 aG;have bz:=j0 aR.hU.ok;have bi:l<=5000:=by simp only at aI;omega
 have bh:=ae aG;clear aG aI bz;by_cases aU:x.op=4
 .have db:(x.op == 4)=true:=by simpa using aU
  have q5:(x.op == 5)=false:=by simp;omega
  have aa:=ae (au.lf bh.o aU);have bM:=ae (au.ln bh.o aU);clear aU au;go_wp2_with(fail);refine(Eu MA TA mn mc tn tc u.af s.table l t aP (ag.2.2.2.2.2.1.on bu.o).at_.m.qx aR.hU.ok.zH (ag.2.2.2.2.2.2.1.on bu.o).at_.t.holds cj.2.1 ad ad).mono ?_;intro e aW aj;obtain⟨I,aD,rfl,bD,b0,az,bg⟩:=aj.open_ (n:=tn) (by rw[fp];exact bS.2.2.2.2.symm);have aT:tn=(fJ u.af s.table l t).length:=by rw[fp];exact bS.2.2.2.2
  have Q:=ah az aT;have a7:=ae (show Ext W aW from bu.trans (Fr.of bg));have bP:=bg.size;generalize hT:fJ u.af s.table l t=T at *;clear aj b0 az bg aT hT a0 ak af a8 am aJ d0 aK aO;obtain⟨a8,am,aJ⟩:=(ag.2.2.1.aj a7.o).two;obtain⟨d0,aK,aO⟩:=(ag.2.2.2.1.aj a7.o).two
  cases b3:free u.af s.table l t with
  | true=>
   exact GU
  | false=>
   have bT:=ae (bM.o b3);clear aa bM;go_wp2_with(fail);refine(te s ⟨bE,bK,bw,TA,tn,tc,HA,hn,hc⟩ aW (ag.2.2.2.2.2.2.1.on a7.o) aR.sm).mono ?_;rintro e b4 ⟨⟨bc,cx,L,a4,m,S,bl,bJ,aX⟩,rfl,b8,a3⟩;have cK:=ae b8;have cC:=(ag.2.2.2.2.1.aj a7.o).aj a3;have a2:=ah cC ((ag.1.trans a7.o).trans a3);clear b8 a3 a8 am aJ d0 aK aO;obtain⟨bp,aM,aV⟩:=cC.two;clear cC;go_wp2_with(fail);generalize hX:World.setCell _ _ _=Z;obtain⟨bt,ba,bf⟩:=bs (w:=w) [.slice bc cx L,.slice a4 m S,.slice bl bJ aX,.int .i64 s.fault] (by rfl) a2.1 a2.2 ad hX;have i:=ah ba bf;clear hX ba bf bp aM aV;obtain⟨bp,aM,aV⟩:=bt.two;refine Mf (v:=.tuple #[.agg #[.slice bc cx L,.slice a4 m S,.slice bl bJ aX,.int .i64 s.fault],.bool false]) (by simp[results,Tryz.results52,go_sem,bp]) rfl ?_;rw[bT.o];show c8 nQ w s false _ _
   exact eB (aq:=s) (q:=⟨bc,cx,L,a4,m,S,bl,bJ,aX⟩) (cK.mono λb O=>.inr O) i.2 (λb O=>ad) ad i.1
 .have cy:x.op=5:=ad;have db:(x.op == 4)=false:=by simpa using aU
  have q5:(x.op == 5)=true:=by simpa using cy
  have aa:=ae (au.uf bh.o cy);have bM:=ae (au.un bh.o cy);clear aU cy au;go_wp2_with(fail);refine(xt MA TA mn mc tn tc u.af s.table l t aP aR.hU.ok.zH (ag.2.2.2.2.2.2.1.on bu.o).at_.t.holds cj.2.1 ad).mono ?_;intro e aW aj;obtain⟨I,aD,rfl,bD,b0,az,bg⟩:=aj.open_ (n:=tn) (by rw[fj];exact bS.2.2.2.2.symm);have aT:tn=(cY u.af s.table l t).length:=by rw[fj];exact bS.2.2.2.2
  have Q:=ah az aT;have a7:=ae (show Ext W aW from bu.trans (Fr.of bg));have bP:=bg.size;generalize hT:cY u.af s.table l t=T at *;clear aj b0 az bg aT hT a0 ak af a8 am aJ d0 aK aO;obtain⟨a8,am,aJ⟩:=(ag.2.2.1.aj a7.o).two;obtain⟨d0,aK,aO⟩:=(ag.2.2.2.1.aj a7.o).two
  cases b3:heldBy u.af s.table l t with
  | true=>
   exact GU
  | false=>
   have bT:=ae (bM.o b3);clear aa bM;go_wp2_with(fail);refine(lB s ⟨bE,bK,bw,TA,tn,tc,HA,hn,hc⟩ 3 aW (ag.2.2.2.2.2.2.1.on a7.o) aR.sm).mono ?_;rintro e b4 ⟨⟨bc,cx,L,a4,m,S,bl,bJ,aX⟩,rfl,b8,a3⟩;have cK:=ae b8;have cC:=(ag.2.2.2.2.1.aj a7.o).aj a3;have a2:=ah cC ((ag.1.trans a7.o).trans a3);clear b8 a3 a8 am aJ d0 aK aO;obtain⟨bp,aM,aV⟩:=cC.two;clear cC;go_wp2_with(fail);generalize hX:World.setCell _ _ _=Z;obtain⟨bt,ba,bf⟩:=bs (w:=w) [.slice bc cx L,.slice a4 m S,.slice bl bJ aX,.int .i64 3] (by rfl) a2.1 a2.2 ad hX;have i:=ah ba bf;clear hX ba bf bp aM aV;obtain⟨bp,aM,aV⟩:=bt.two;refine Mf (v:=.tuple #[.agg #[.slice bc cx L,.slice a4 m S,.slice bl bJ aX,.int .i64 3],.bool true]) (by simp[results,Tryz.results52,go_sem,bp]) rfl ?_;rw[bT.o];show c8 nQ w {s with fault:=3} true _ _
   exact eB (aq:={s with fault:=3}) (q:=⟨bc,cx,L,a4,m,S,bl,bJ,aX⟩) cK.o i.2 (λb O=>ad) ad i.1
 ):p:=h
theorem eZ(h:p:=by
 obtain⟨eo,en,es,EA,em,ec,QA,qm,qc,dk,j,df,KA,dg,kc⟩:=v;have bk:cL (br u) cp.locals cp.ax x.place:=by
  obtain⟨len,_,al⟩:=h.ok;exact DM
 have vA:tn=s.table.length:=by have:=hs.at_.t.1;simpa using this.symm
 have K:=h.hS.yz;have bO:t<=1000:=ad;have eW:=h.hS.tok hN;have bZ:=iF (s:=s) (nl:=cp.locals) (nk:=f.ax.length) h.hU.ok h.hF (Int.le_refl _) (by rw[h.hF.qq h.hp];exact bk);have c9:=h.pc;have au:=ae (KC (u:=u) (s:=s) (t:=t) (f:=f) (x:=x) co);have aR:=ae h;have bS:=cX bN c4 bv cr vA;have cj:=bA bk eW c9 bZ;have cc:=aA hu hs bG;clear h bN c4 cw bv cr vA bk eW bZ c9 K hu hs bG;dsimp only[UV.val,SV.val,IV.val];go_enter func52,ntmps52;exact A5
 ):p:=h
end CE
open CE in
theorem Jw(u:aw)(s:ai)(t:Int)(f:an)(cp:cM)(x:ay)(N:Nat)(w:World)(p:UV)(q:SV)(v:IV)(h:jq u s t f cp x N)(hN:N<=100000)(co:x.op=4\/x.op=5)(hu:p.Ok w u)(hs:q.Ok w s)(bG:v.Ok w x) :
  Calls prog 52 #[.agg (p.val u),.agg (q.val s),.int .i64 t,.agg (v.val x)] w (c8 nQ w (b1 u s t f x).1 (b1 u s t f x).2):=by
 obtain⟨bN,c4,cw,fs,bv,cr⟩:=h.th;exact eY
end Go.Proofs.YtflecliffjbleaaGreat

/- Part 28 of the proof. No condition of its own. -/
import Derived.Test.YtnigabjngpnbiabGreatF22
import Derived.Test.YtnigabjngpnbiabGreatF25
namespace Go.Proofs.YtnigabjngpnbiabGreat
open Go.RowKit Go.Proofs.Tryz
set_option maxRecDepth 1000000
set_option maxHeartbeats 25600000
set_option linter.unusedVariables false
variable{t:Int}{fs:List ao}{B N:Nat}{p:Prop}{w:World}{x:aA}{s:ai}{f:ao}{u:aw}
structure L3(u:aw)(s:ai)(t:Int)(f:ao)(x:aA)(a b:List Int×Int):Prop where
 Ku:a.2≠0->b5 u s t f x=({s with fault:=a.2},true)
 Kv:a.2=0->b.2≠0->b5 u s t f x=({s with fault:=b.2},true)
 many:a.2=0->b.2=0->x.op=3->32<=s.threads.length->b5 u s t f x=({s with fault:=4},true)
 go:a.2=0->b.2=0->x.op=3->¬32<=s.threads.length->b5 u s t f x=({bu s t (next f) with threads:=(bu s t (next f)).threads++[[dt u x.target a.1 b.1]]},true)
 call:a.2=0->b.2=0->x.op=2->b5 u s t f x=(qY (bu s t (next f)) t (dt u x.target a.1 b.1),true)
theorem LP(cp:x.op=2\/x.op=3):L3 u s t f x (cW s.globals f.ints x.ints) (b3 u s f x.places):=by
 have h0:b5 u s t f x=(if cc (cW s.globals f.ints x.ints).2 (b3 u s f x.places).2 (decide (x.op=3/\32<=s.threads.length))≠0 then ({s with fault:=cc (cW s.globals f.ints x.ints).2 (b3 u s f x.places).2 (decide (x.op=3/\32<=s.threads.length))},true)
  else if x.op=3 then ({bu s t (next f) with threads:=(bu s t (next f)).threads++[[dt u x.target (cW s.globals f.ints x.ints).1 (b3 u s f x.places).1]]},true)
  else (qY (bu s t (next f)) t (dt u x.target (cW s.globals f.ints x.ints).1 (b3 u s f x.places).1),true)):=by
  unfold b5;rw[if_neg ad,if_pos cp]
 generalize cW s.globals f.ints x.ints=a at *;generalize b3 u s f x.places=b at *;refine⟨λh=>?_,λh ac=>?_,λh ac aV aD=>?_,λh ac aV aD=>?_,λh ac az=>?_⟩
 .have:cc a.2 b.2 (decide (x.op=3/\32<=s.threads.length))=a.2:=by unfold cc;rw[if_pos h]
  rw[h0,this,if_pos h]
 .have:cc a.2 b.2 (decide (x.op=3/\32<=s.threads.length))=b.2:=by unfold cc;rw[if_neg ad,if_pos ac]
  rw[h0,this,if_pos ac]
 .have:cc a.2 b.2 (decide (x.op=3/\32<=s.threads.length))=4:=by unfold cc;rw[if_neg ad,if_neg ad,if_pos (by simp[aV,aD])]
  rw[h0,this,if_pos ad]
 .have:cc a.2 b.2 (decide (x.op=3/\32<=s.threads.length))=0:=by unfold cc;rw[if_neg ad,if_neg ad,if_neg (by simp;omega)]
  rw[h0,this,if_neg ad,if_pos aV]
 .have:cc a.2 b.2 (decide (x.op=3/\32<=s.threads.length))=0:=by unfold cc;rw[if_neg ad,if_neg ad,if_neg (by simp;omega)]
  rw[h0,this,if_neg ad,if_neg ad]
namespace DT
theorem c4(h:p:=by
 generalize bo:World.setCell _ _ _=dC;obtain⟨cw,bR,cS⟩:=c3.o _ _ _ _ _ _ _ bB.2.2.1 bB.2.2.2 I.1 I.2.1 I.2.2 bo;have n:=ay cw bR ((al.2.2.2.2.1.aj bB.2.1).on cS ad);have b1:=ae (show Ext w dC from Fr.low (M:=λb=>aO.heap.size<=b) (Fr.trans (Fr.mono (al.1.trans bB.2.1) λ_ h=>h.elim) cS) λb O=>ad);clear bo cw bR cS cj cB dx dW;have bL:=n.2.2;obtain⟨bq,a1,a5⟩:=bL.two;obtain⟨e0,a6,ag⟩:=n.2.1.two;clear bL;go_wp2_with(fail);generalize hX:World.setCell _ _ _=Z;obtain⟨bm,bd,a4⟩:=a9 (w:=w) [.slice bc bU L,.slice aZ tn S,.slice (some ⟨O,0,none⟩) hn a7,.int .i64 s.fault] (by rfl) n.2.2 b1.o ad hX;have bj:=ah bd a4;clear hX bd a4 bq a1 a5 e0 a6 ag;obtain⟨bq,a1,a5⟩:=bm.two;refine NB (v:=.tuple #[.agg #[.slice bc bU L,.slice aZ tn S,.slice (some ⟨O,0,none⟩) hn a7,.int .i64 s.fault],true]) (by simp[results,Tryz.results30,go_sem,bq]) rfl ?_;rw[bZ.o];show dd nC w _ true _ _
 rw[vw bW.2.2.1];have cY:=bj.2.size;exact⟨⟨bc,bU,L,aZ,tn,S,some ⟨O,0,none⟩,hn,a7⟩,rfl,((n.1.ak (ab:=Z) λb O=>bj.2.block b O.2.1 (ax O.1)).mono λb O=>.inr ⟨by have:=O.1;omega,by have:=O.2.1;show b<Z.heap.size;omega⟩),bj.1⟩
 ):p:=h
theorem Bo(h:p:=by
 obtain⟨bm,bd,a4⟩:=a9 (w:=w) [.slice bc ct L,.slice aZ m S,.slice bl bk a7,aY] (by rfl) a3.1 a3.2 ad hX;have bj:=ah bd a4;clear hX bd a4 bq a1 a5;obtain⟨bq,a1,a5⟩:=bm.two;refine NB (v:=.tuple #[.agg #[.slice bc ct L,.slice aZ m S,.slice bl bk a7,aY],true]) (by simp[results,Tryz.results30,go_sem,bq]) rfl ?_;rw[bZ.o];show dd nC w {s with fault:=aY} true _ _
 exact eD (aq:={s with fault:=aY}) (q:=⟨bc,ct,L,aZ,m,S,bl,bk,a7⟩) cT.o bj.2 (λb O=>ad) ad bj.1
 ):p:=h
theorem BQ(h:p:=by
 refine(xo u s t f cq x N W ⟨GA,gn,gc,MA,mn,mc,PA,pn,pc⟩ ⟨bI,bU,bx,TA,tn,tc,HA,hn,hc⟩ ⟨eo,en,es,EA,em,ec,QA,qm,qc,dl,j,dh,KA,di,kc⟩ aP.o cp al.2.2.2.2.2.1 al.2.2.2.2.2.2.1 al.2.2.2.2.2.2.2).mono ?_;intro e aO aj;have aW:=ah (λh az=>aj.2.2 h az) ac.o;have dm:=(qC aP.hS aP.hF aP.hp x.ints (aP.args cp).1).2.1;have cN:=(nW (s:=s) (nk:=cq.az) aP.hU.ok aP.hF (by rw[aP.hF.tJ aP.hp];exact Int.le_refl _) x.places (aP.args cp).2.1).2.1;generalize cW s.globals f.ints x.ints=aa at *;generalize b3 u s f x.places=bb at *;obtain⟨dN,aY⟩:=aa;obtain⟨bi,bz⟩:=bb;have bT:=ah dm cN;clear dm cN aW a0 ak af bs am aK d0 aQ aS;have cZ:=al.1.size;have dA:=al.2.2.2.2.1.lt;by_cases aI:aY=0
 case neg=>
  obtain⟨rfl,aM⟩:=aj.1 aI;have bZ:=ae (ac.Ku aI);have q1:(aY == 0)=false:=by simpa using aI
  have cL:(aY != 0)=true:=by simpa using aI
  clear aj aI ac bT;have cv:=al.2.2.2.2.2.2.1.on aM;obtain⟨a2,bw⟩:=aJ cv aM;obtain⟨bs,am,aK⟩:=(al.2.2.1.aj aM).two;obtain⟨d0,aQ,aS⟩:=(al.2.2.2.1.aj aM).two;have cn:=aM.size;clear cv aM;go_wp2_with(fail);refine(lF s ⟨bI,bU,bx,TA,tn,tc,HA,hn,hc⟩ aY aO a2.o aP.sm).mono ?_;exact Bn
 by_cases Q:bz=0
 case neg=>
  obtain⟨rfl,aM⟩:=aj.2.1 aI Q;have bZ:=ae (ac.Kv aI Q);have q1:(bz == 0)=false:=by simpa using Q
  have cL:(bz != 0)=true:=by simpa using Q
  clear aj aI Q ac bT;have cv:=al.2.2.2.2.2.2.1.on aM;obtain⟨a2,bw⟩:=aJ cv aM;obtain⟨bs,am,aK⟩:=(al.2.2.1.aj aM).two;obtain⟨d0,aQ,aS⟩:=(al.2.2.2.1.aj aM).two;have cn:=aM.size;clear cv aM;go_wp2_with(fail);refine(lF s ⟨bI,bU,bx,TA,tn,tc,HA,hn,hc⟩ bz aO a2.o aP.sm).mono ?_;rintro e b6 ⟨⟨bc,ct,L,aZ,m,S,bl,bk,a7⟩,rfl,ca,bf⟩;have cT:=ae ca;have cE:=(al.2.2.2.2.1.aj bw.o).aj bf;have a3:=ah cE ((al.1.trans bw.o).trans bf);clear ca bf bs am aK d0 aQ aS;obtain⟨bq,a1,a5⟩:=cE.two;clear cE;go_wp2_with(fail);generalize hX:World.setCell _ _ _=Z;obtain⟨bm,bd,a4⟩:=a9 (w:=w) [.slice bc ct L,.slice aZ m S,.slice bl bk a7,bz] (by rfl) a3.1 a3.2 ad hX;have bj:=ah bd a4;clear hX bd a4 bq a1 a5;obtain⟨bq,a1,a5⟩:=bm.two;refine NB (v:=.tuple #[.agg #[.slice bc ct L,.slice aZ m S,.slice bl bk a7,bz],true]) (by simp[results,Tryz.results30,go_sem,bq]) rfl ?_;rw[bZ.o];show dd nC w {s with fault:=bz} true _ _
  exact eD (aq:={s with fault:=bz}) (q:=⟨bc,ct,L,aZ,m,S,bl,bk,a7⟩) cT.o bj.2 (λb O=>ad) ad bj.1
 obtain⟨IA,dD,ci,bC,nl,cl,rfl,dO,bu,bO,bS,aM⟩:=aj.2.2 aI Q;have bH:=ay bO bS aM;have dT:dN.length=dD:=by have:=bO.1;simpa using this
 have cD:bi.length=nl:=by have:=bS.1;simpa using this
 have b7:=br dT cD (bT.1 aI) (bT.2 Q);clear aj bO bS dO bu dT cD bT;have cF:=ay (ac.many aI Q) (ac.go aI Q) (ac.call aI Q);clear ac aI Q;by_cases aV:x.op=3
 .have de:(x.op == 3)=true:=by simpa using aV
  by_cases aD:32<=hn
  .have dc:decide ((hn:Int)>=32)=true:=by simpa using (by omega:(32:Int)<=(hn:Int))
   have bZ:=ae (cF.1 aV (by rw[<-bW.2.2.2.2];exact aD));clear aV aD cF;have cv:=al.2.2.2.2.2.2.1.on aM;obtain⟨a2,bw⟩:=aJ cv aM;obtain⟨bs,am,aK⟩:=(al.2.2.1.aj aM).two;obtain⟨d0,aQ,aS⟩:=(al.2.2.2.1.aj aM).two;have cn:=aM.size;clear cv aM;go_wp2_with(fail);refine(lF s ⟨bI,bU,bx,TA,tn,tc,HA,hn,hc⟩ 4 aO a2.o aP.sm).mono ?_;rintro e b6 ⟨⟨bc,ct,L,aZ,m,S,bl,bk,a7⟩,rfl,ca,bf⟩;have cT:=ae ca;have cE:=(al.2.2.2.2.1.aj bw.o).aj bf;have a3:=ah cE ((al.1.trans bw.o).trans bf);clear ca bf bs am aK d0 aQ aS;obtain⟨bq,a1,a5⟩:=cE.two;clear cE;go_wp2_with(fail);generalize hX:World.setCell _ _ _=Z;obtain⟨bm,bd,a4⟩:=a9 (w:=w) [.slice bc ct L,.slice aZ m S,.slice bl bk a7,(4:Int)] (by rfl) a3.1 a3.2 ad hX;have bj:=ah bd a4;clear hX bd a4 bq a1 a5;obtain⟨bq,a1,a5⟩:=bm.two;refine NB (v:=.tuple #[.agg #[.slice bc ct L,.slice aZ m S,.slice bl bk a7,(4:Int)],true]) (by simp[results,Tryz.results30,go_sem,bq]) rfl ?_;rw[bZ.o];show dd nC w {s with fault:=4} true _ _
   exact eD (aq:={s with fault:=4}) (q:=⟨bc,ct,L,aZ,m,S,bl,bk,a7⟩) cT.o bj.2 (λb O=>ad) ad bj.1
  .have dc:decide ((hn:Int)>=32)=false:=by simp;omega
   have bZ:=ae (cF.2.1 aV (by rw[<-bW.2.2.2.2];exact aD));clear aV aD cF;have cv:=al.2.2.2.2.2.2.1.on aM;obtain⟨a2,bw⟩:=aJ cv aM;have c5:=bW.2.1;have dw:t<(hn:Int):=by have:=bW.2.2.2.2;have:=(List.getElem?_eq_some_iff.1 bW.2.2.1).1;omega
   obtain⟨bs,am,aK⟩:=(al.2.2.1.aj aM).two;obtain⟨d0,aQ,aS⟩:=(al.2.2.2.1.aj aM).two;have cn:=aM.size;clear cv aM;go_wp2_with(fail);refine(fV s bI TA HA bU bx tn tc hn hc aO a2.at_ aP.sm).mono ?_;rintro e b6 ⟨bc,L,aZ,S,bl,a7,xs,F1,F2,bJ,cb,rfl,cf,bp,bf⟩;have bN:=ay cf bp bf;have cI:=bf.size;clear cf bp bf bs am aK d0 aQ aS;go_upto_region 7 with(fail);generalize hV:World.alloc _ _=V;have aC:=aX hV;have b4:=aL hV;have hOut:dG aO V s b6 ⟨bc,bU,L,aZ,tn,S,bl,hn,a7⟩ xs F1 F2 bJ cb:=
    ⟨bN.1.ak λb O=>aC.block b (bN.2.1 b O).2 λh=>h,b4,λO=>by have:=(bN.2.1 _ O).2;omega,λb O=>⟨(bN.2.1 b O).1,by have:=(bN.2.1 b O).2;have:=aC.size;omega⟩,cI⟩
   have z:Ext aO V:=bN.2.2.trans aC;obtain⟨c0,c1,i2,cX,c9,dk,df,fn,cm,aH,J⟩:=hOut.top bW.2.2.1 bW.2.1 bW.1 bW.2.2.2.1;have cc:=ay aH J z;obtain⟨e0,a6,ag⟩:=hOut.o.two;clear hV aC b4 hOut z aH J fn cm;go_wp2_with(fail);refine(cc.1 V NC).mono ?_;rintro e cO ⟨rfl,cu⟩;have P:=ae (cc.2.1 cO cu);have bQ:=ae (cc.2.2.trans cu);clear e0 a6 ag cu;have cd:=P.c1;have g2:=P.fz;have cA:=P.lt;have c6:=ck.2.2.2.2.2;go_upto_region 8 with(fail);generalize hX:World.setCell _ _ _=X;have cG:sZ aO X {s with threads:=s.threads.set t.toNat (fs++[next f])} b6.heap.size ⟨bc,bU,L,aZ,tn,S,bl,hn,a7⟩ xs F1 F2 bJ cb t fs (next f) c0 c1 i2 cX c9 dk df:=hX▸P.K5 bW.2.2.1 (f.pc+1);have b9:=cP hX;have dI:=P.ge;have i:Ext aO X:=Fr.low (M:=λb=>b=c0) (Fr.trans (Fr.mono bQ.o λ_ h=>h.elim) b9) λb O=>ad;have bt:=bw.trans i;have aT:=ay cG.oz i bt;obtain⟨a0,ak,af⟩:=(al.2.1.aj bt).two;obtain⟨d0,aQ,aS⟩:=(al.2.2.2.1.aj bt).two;clear hX cG b9 i bt cd g2 cA P;go_wp2_with(fail);have dy:=(bH.1.ak (ab:=X) λb O=>aT.2.1.block b O.2 λh=>h).mono (cU:=av X) λb O=>M0 O.2 aT.2.1.size;have bn:=(bH.2.1.ak (ab:=X) λb O=>aT.2.1.block b O.2 λh=>h).mono (cU:=av X) λb O=>M0 O.2 aT.2.1.size;have aU:=b7.2.2.1;have b8:=b7.2.2.2;refine(mframe u x.target dV dN bi IA bC dD ci nl cl X ⟨GA,gn,gc,MA,mn,mc,PA,pn,pc⟩ (al.2.2.2.2.2.1.on aT.2.2) ck.1 ck.2.1 (nI ck.2.2.1 ck.2.2.2.2.1.ints) ck.2.2.2.2.1.ints.2.2 (ax aP.kl) dy bn).mono ?_;rintro e cV ⟨FA,dL,da,dK,fl,db,rfl,bD,bV⟩
   generalize bE:dt u x.target dN bi=R at *;have dn:=ae bE;have dz:=ah bD bV;clear bE dy bn aU b8 bD bV a0 ak af d0 aQ aS;go_upto_region 9 with(fail);generalize co:World.alloc _ _=Y;have bA:=aX co;have bM:=aL co;have cK:Ext X Y:=dz.2.trans bA;have bF:=aT.2.2.trans cK;have l:=aT.1.aj cK;have ar:(gP R).rep Y (fresh X cV) [.int .i64 R.proc,.int .i64 R.pc,.slice FA dL da,.slice dK fl db]:=D.aO (λb O=>bA.block b O.2 λh=>h) _ _ dz.1;have f2:=dz.2.size;have d1:=bA.size;have dX:=aT.1.o.lt;have dF:=aT.2.1.size;have dg:∀b,fresh X cV b->aO.heap.size<=b/\b<Y.heap.size/\b≠b6.heap.size/\b∉F1++(F2++(bJ++cb)):=λb O=>⟨by have:=O.1;omega,by have:=O.2;omega,by have:=O.1;omega,λhm=>by have:=(aT.1.lo b hm).2;have:=O.1;omega⟩
   have bB:=br l bF ar dg;obtain⟨d0,aQ,aS⟩:=(al.2.2.2.1.aj bF).two;obtain⟨e0,a6,ag⟩:=l.o.two;obtain⟨f0,cH,dS⟩:=bM.two;clear co bA bM cK bF l ar dg cc bQ bN;have c8:=bB.1.st.h.aj ((Fr.refl _ Y).alloc (.cells #[.int .i64 R.proc,.int .i64 R.pc,.slice FA dL da,.slice dK fl db] 77));have dP:b6.heap.size∉bJ:=λh=>bB.1.ne (by simp[h]);have aN:=bB.1.o.aj ((Fr.refl _ Y).alloc (.cells #[.int .i64 R.proc,.int .i64 R.pc,.slice FA dL da,.slice dK fl db] 77));have dq:=ah c8 aN;clear c8 aN;go_upto_region 12 with(at_builtin;refine nB tk rfl (.tmp 65) (.tmp 69) rfl dq.1 (cs:=#[.slice (some ⟨Y.heap.size,0,none⟩) 1 1]) rfl rfl (by simp) rfl (by simp[Value.oneCell']) (by simp only;omega) (by simp only;omega) ?_;intro A2 c2 cJ cd g2 cA;have cy:=dq.2.on g2 dP;have I:=ay cd g2 cA;clear cd g2 cA e0 a6 ag f0 cH dS d0 aQ aS;obtain⟨e0,a6,ag⟩:=cy.two;clear cy);generalize bo:World.setCell _ _ _=dC;obtain⟨cw,bR,cS⟩:=bB.1.start bB.2.2.1 bB.2.2.2 rfl I.1 I.2.1 I.2.2 bo;have n:=ay cw bR ((al.2.2.2.2.1.aj bB.2.1).on cS ad);have b1:=ae (show Ext w dC from Fr.low (M:=λb=>aO.heap.size<=b) (Fr.trans (Fr.mono (al.1.trans bB.2.1) λ_ h=>h.elim) cS) λb O=>ad);clear bo cw bR cS e0 a6 ag;have bL:=n.2.2;obtain⟨bq,a1,a5⟩:=bL.two;obtain⟨e0,a6,ag⟩:=n.2.1.two;clear bL;go_wp2_with(fail);generalize hX:World.setCell _ _ _=Z;obtain⟨bm,bd,a4⟩:=a9 (w:=w) [.slice bc bU L,.slice aZ tn S,.slice A2 (hn+1) c2,.int .i64 s.fault] (by rfl) n.2.2 b1.o ad hX;have bj:=ah bd a4;clear hX bd a4 bq a1 a5 e0 a6 ag
   obtain⟨bq,a1,a5⟩:=bm.two;refine NB (v:=.tuple #[.agg #[.slice bc bU L,.slice aZ tn S,.slice A2 (hn+1) c2,.int .i64 s.fault],true]) (by simp[results,Tryz.results30,go_sem,bq]) rfl ?_;rw[bZ.o];show dd nC w _ true _ _
   rw[ek bW.2.2.1];have cY:=bj.2.size;exact⟨⟨bc,bU,L,aZ,tn,S,A2,hn+1,c2⟩,rfl,((n.1.ak (ab:=Z) λb O=>bj.2.block b O.2.1 (ax O.1)).mono λb O=>.inr ⟨by have:=O.1;omega,by have:=O.2.1;show b<Z.heap.size;omega⟩),bj.1⟩
 .have az:x.op=2:=ad;have de:(x.op == 3)=false:=by simpa using aV
  have bZ:=ae (cF.2.2 az);clear aV az cF;have cv:=al.2.2.2.2.2.2.1.on aM;obtain⟨a2,bw⟩:=aJ cv aM;have c5:=bW.2.1;have dw:t<(hn:Int):=by have:=bW.2.2.2.2;have:=(List.getElem?_eq_some_iff.1 bW.2.2.1).1;omega
  obtain⟨bs,am,aK⟩:=(al.2.2.1.aj aM).two;obtain⟨d0,aQ,aS⟩:=(al.2.2.2.1.aj aM).two;have cn:=aM.size;clear cv aM;go_wp2_with(fail);refine(fV s bI TA HA bU bx tn tc hn hc aO a2.at_ aP.sm).mono ?_;rintro e b6 ⟨bc,L,aZ,S,bl,a7,xs,F1,F2,bJ,cb,rfl,cf,bp,bf⟩;have bN:=ay cf bp bf;have cI:=bf.size;clear cf bp bf bs am aK d0 aQ aS;go_upto_region 7 with(fail);generalize hV:World.alloc _ _=V;have aC:=aX hV;have b4:=aL hV;have hOut:dG aO V s b6 ⟨bc,bU,L,aZ,tn,S,bl,hn,a7⟩ xs F1 F2 bJ cb:=
   ⟨bN.1.ak λb O=>aC.block b (bN.2.1 b O).2 λh=>h,b4,λO=>by have:=(bN.2.1 _ O).2;omega,λb O=>⟨(bN.2.1 b O).1,by have:=(bN.2.1 b O).2;have:=aC.size;omega⟩,cI⟩
  have z:Ext aO V:=bN.2.2.trans aC;obtain⟨c0,c1,i2,cX,c9,dk,df,fn,cm,aH,J⟩:=hOut.top bW.2.2.1 bW.2.1 bW.1 bW.2.2.2.1;have cc:=ay aH J z;obtain⟨e0,a6,ag⟩:=hOut.o.two;clear hV aC b4 hOut z aH J fn cm;go_wp2_with(fail);refine(cc.1 V NC).mono ?_;rintro e cO ⟨rfl,cu⟩;have P:=ae (cc.2.1 cO cu);have bQ:=ae (cc.2.2.trans cu);clear e0 a6 ag cu;have cd:=P.c1;have g2:=P.fz;have cA:=P.lt;have c6:=ck.2.2.2.2.2;go_upto_region 8 with(fail);generalize hX:World.setCell _ _ _=X;have cG:sZ aO X {s with threads:=s.threads.set t.toNat (fs++[next f])} b6.heap.size ⟨bc,bU,L,aZ,tn,S,bl,hn,a7⟩ xs F1 F2 bJ cb t fs (next f) c0 c1 i2 cX c9 dk df:=hX▸P.K5 bW.2.2.1 (f.pc+1);have b9:=cP hX;have dI:=P.ge;have i:Ext aO X:=Fr.low (M:=λb=>b=c0) (Fr.trans (Fr.mono bQ.o λ_ h=>h.elim) b9) λb O=>ad;have bt:=bw.trans i;have aT:=ay cG.oz i bt;obtain⟨a0,ak,af⟩:=(al.2.1.aj bt).two;obtain⟨d0,aQ,aS⟩:=(al.2.2.2.1.aj bt).two;clear hX cG b9 i bt cd g2 cA P;go_wp2_with(fail);have dy:=(bH.1.ak (ab:=X) λb O=>aT.2.1.block b O.2 λh=>h).mono (cU:=av X) λb O=>M0 O.2 aT.2.1.size;have bn:=(bH.2.1.ak (ab:=X) λb O=>aT.2.1.block b O.2 λh=>h).mono (cU:=av X) λb O=>M0 O.2 aT.2.1.size;have aU:=b7.2.2.1;have b8:=b7.2.2.2;refine(mframe u x.target dV dN bi IA bC dD ci nl cl X ⟨GA,gn,gc,MA,mn,mc,PA,pn,pc⟩ (al.2.2.2.2.2.1.on aT.2.2) ck.1 ck.2.1 (nI ck.2.2.1 ck.2.2.2.2.1.ints) ck.2.2.2.2.1.ints.2.2 (ax aP.kl) dy bn).mono ?_;rintro e cV ⟨FA,dL,da,dK,fl,db,rfl,bD,bV⟩;generalize bE:dt u x.target dN bi=R at *
  have dn:=ae bE;have dz:=ah bD bV;clear bE dy bn aU b8 bD bV a0 ak af d0 aQ aS;go_upto_region 9 with(fail);generalize co:World.alloc _ _=Y;have bA:=aX co;have bM:=aL co;have cK:Ext X Y:=dz.2.trans bA;have bF:=aT.2.2.trans cK;have l:=aT.1.aj cK;have ar:(gP R).rep Y (fresh X cV) [.int .i64 R.proc,.int .i64 R.pc,.slice FA dL da,.slice dK fl db]:=D.aO (λb O=>bA.block b O.2 λh=>h) _ _ dz.1;have f2:=dz.2.size;have d1:=bA.size;have dX:=aT.1.o.lt;have dF:=aT.2.1.size;have dg:∀b,fresh X cV b->aO.heap.size<=b/\b<Y.heap.size/\b≠b6.heap.size/\b∉F1++(F2++(bJ++cb)):=λb O=>⟨by have:=O.1;omega,by have:=O.2;omega,by have:=O.1;omega,λhm=>by have:=(aT.1.lo b hm).2;have:=O.1;omega⟩
  have bB:=br l bF ar dg;obtain⟨d0,aQ,aS⟩:=(al.2.2.2.1.aj bF).two;obtain⟨e0,a6,ag⟩:=l.o.two;obtain⟨f0,cH,dS⟩:=bM.two;clear co bA bM cK bF l ar dg cc bQ bN;obtain⟨O,ch,fc,b2,m3,ce,dR,du,T,dQ,cg,bG,dM,bY,hg,a8,bg,aB,b0⟩:=bB.1.push (k:=t.toNat) (fs:=fs) (f:=next f) (by have ap:=(List.getElem?_eq_some_iff.1 bW.2.2.1).1;simp[ap]);simp only at m3;subst m3;obtain⟨c3,dq⟩:=aJ b0 aB;have dp:=bW.2.2.2.1;have d2:=(aT.1.lo ch du).2;have d3:=(aT.1.lo O dR).2;have dZ:cV≠ch:=ad;have dE:b6≠ch:=Ne.symm hg;clear b0 aB dR du;go_upto_region 11 with(fail);refine eJ (λb=>b=ch) [(0,3),(1,0),(2,3),(3,3),(4,0),(5,3),(6,3),(7,3),(8,0),(9,0),(10,1),(11,1),(12,3),(13,3),(14,2)] ?_;refine pf ?_;refine oP ?_
  iterate 2 refine pf ?_
  refine oP ?_
  iterate 3 refine pf ?_
  iterate 2 refine oP ?_
  refine rS ?_;refine qW (λV=>Ext Y V/\an V Y 77 #[.int .i64 R.proc,.int .i64 R.pc,.slice FA dL da,.slice dK fl db]/\V.heap.size=Y.heap.size+1) ⟨by first|exact((Fr.refl _ Y).drew).alloc _|exact((Fr.refl _ Y).alloc _).drew,by first|exact ND|exact an.new Y.drew _ _,by simp⟩ (λU hU=>?_);have cz:=ae hU;clear hU;refine aE rfl (λK hK=>?_);rw[if_pos (by rfl)];refine zk yB (.tmp 80) (.tmp 82) rfl (dq.aj cz.1) cz.2.1 rfl rfl rfl (by simp[Value.oneCell']) ad ad ?_;intro A2 c2 cJ cd g2 cA;have cM:Fr (λb=>b=ch) U cJ:=g2.mono λb O=>Nv.1 O;refine dB hK (cM) ?_;clear hK K;have aR:Fr (λb=>b=ch) Y cJ:=Fr.trans (cz.1.mono λ_ h=>h.elim) cM;have I:=ay cd aR (λb O=>(cA b O).imp (λh=>Nv.1 h) (λh=>(⟨by have:=cz.2.2;omega,h.2⟩:Y.heap.size<=b/\b<cJ.heap.size)));have cj:=(aR.cell (j:=t.toNat) T dM).trans bg;have cB:∀j,cJ.frozen? ⟨O,j,none⟩=false:=λj=>(aR.frozen T dM).trans (a8 j);have dx:=aR.size;clear cd g2 cA cM aR bg a8 e0 a6 ag f0 cH dS d0 aQ aS;exact CK
 ):p:=h
theorem fP(h:p:=by
 obtain⟨eo,en,es,EA,em,ec,QA,qm,qc,dl,j,dh,KA,di,kc⟩:=v;obtain⟨_,_,dv,dV,dJ,dU,dj,ds⟩:=h.args cp;have ve:hn=s.threads.length:=by have:=hs.at_.h.1;simpa using this.symm
 have dr:hn<=1000:=by have:=h.sm.h;omega
 have c7:=h.pc;have ac:=ae (LP (u:=u) (s:=s) (t:=t) (f:=f) (x:=x) cp);have aP:=ae h;have bW:=cQ bP c5 bv cr ve;have ck:=dH dv dJ dU dj ds c7;have cc:=ay hu hs bK;clear h bP c5 cC bv cr ve dv dJ dU dj ds c7 hu hs bK;dsimp only[UV.val,SV.val,IV.val];go_enter func30,ntmps30;exact BP
 ):p:=h
end DT
open DT in
theorem KI(u:aw)(s:ai)(t:Int)(f:ao)(cq:cR)(x:aA)(N:Nat)(w:World)(p:UV)(q:SV)(v:IV)(h:jJ u s t f cq x N)(cp:x.op=2\/x.op=3)(hu:p.Ok w u)(hs:q.Ok w s)(bK:v.Ok w x) :
  Calls prog 30 #[.agg (p.val u),.agg (q.val s),t,.agg (v.val x)] w (dd nC w (b5 u s t f x).1 (b5 u s t f x).2):=by
 obtain⟨bP,c5,cC,fs,bv,cr⟩:=h.th;exact fO
theorem aP.tok(h:aP u N s)(hN:N<=100000):GF u.af s.table:=by
 refine⟨h.table,λx hx=>?_⟩;obtain⟨i,aN⟩:=List.getElem?_of_mem hx;have ag:=h.holds i x aN;have:=ag.owner;have:=ag.depth;have:=h.Ag;omega
theorem dG.J7{B:Nat}{w X:World}{s:ai}{N:Nat}{q:SV}{xs:List Value}{F1 F2 bJ cb:List Nat}(h:dG B w s N q xs F1 F2 bJ cb){T:List di}{aZ:NH}{m S:Nat}(hT:w.ownsRow 0 138 2 (.slice aZ m S) m (T.flatMap ch))(hl:m=T.length)
  (hd:∀b∈bA aZ m S,b∉F1++(F2++(bJ++cb))/\b≠N/\B<=b) (hX:w.setCell ⟨N,1,none⟩ (.slice aZ m S)=X):dG B X {s with table:=T} N ⟨q.GA,q.gn,q.gc,aZ,m,S,q.HA,q.hn,q.hc⟩ xs F1 (bA aZ m S) bJ cb:=by
 have ac:=h.st.J7 hT hl λb O=>(hd b O).1;have ap:∀b∈bA aZ m S,b<w.heap.size:=λb O=>(hT.lt b (by simpa using O)).2;have bU:∀b,b∈F1++(bA aZ m S++(bJ++cb))->B<=b/\b<w.heap.size/\b≠N:=λb O=>by
  simp only[Nc] at O;have ag:∀b,b∈F1++(F2++(bJ++cb))->B<=b/\b<w.heap.size/\b≠N:=λb O=>⟨(h.lo b O).1,(h.lo b O).2,λhe=>h.ne (he▸O)⟩
  rcases O with O|O|O|O
  .exact ag b (by simp[O])
  .exact⟨(hd b O).2.2,ap b O,(hd b O).2.1⟩
  .exact ag b (by simp[O])
  .exact ag b (by simp[O])
 subst hX;refine⟨ac.ak λb O=>aS (bU b O).2.2,?_,λaR=>(bU N aR).2.2 rfl,λb O=>⟨(bU b O).1,by simpa[World.setCell] using (bU b O).2.1⟩,h.go⟩;exact h.o.aK 1 _
structure L5(u:aw)(s:ai)(t:Int)(f:ao)(x:aA)(r:Int×Int):Prop where
 bad:r.2≠0->b5 u s t f x=({s with fault:=r.2},true)
 lf:r.2=0->x.op=4->free u.af s.table r.1 t=true->b5 u s t f x=({bu s t (next f) with table:=fJ u.af s.table r.1 t},true)
 ln:r.2=0->x.op=4->free u.af s.table r.1 t=false->b5 u s t f x=(s,false)
 uf:r.2=0->x.op=5->heldBy u.af s.table r.1 t=true->b5 u s t f x=({bu s t (next f) with table:=c8 u.af s.table r.1 t},true)
 un:r.2=0->x.op=5->heldBy u.af s.table r.1 t=false->b5 u s t f x=({s with fault:=3},true)
theorem LV(cp:x.op=4\/x.op=5):L5 u s t f x (bH u s f x.place):=by
 have h0:b5 u s t f x=(if (bH u s f x.place).2≠0 then ({s with fault:=(bH u s f x.place).2},true)
  else if x.op=4 then (if free u.af s.table (bH u s f x.place).1 t then ({bu s t (next f) with table:=fJ u.af s.table (bH u s f x.place).1 t},true) else (s,false))
  else (if heldBy u.af s.table (bH u s f x.place).1 t then ({bu s t (next f) with table:=c8 u.af s.table (bH u s f x.place).1 t},true) else ({s with fault:=3},true))):=by
  unfold b5;rw[if_neg ad,if_neg ad,if_pos cp]
 generalize bH u s f x.place=r at *;refine⟨λh=>?_,λh ac az=>?_,λh ac az=>?_,λh ac az=>?_,λh ac az=>?_⟩
 .rw[h0,if_pos h]
 .rw[h0,if_neg ad,if_pos ac,if_pos az]
 .rw[h0,if_neg ad,if_pos ac,if_neg (by simp[az])]
 .rw[h0,if_neg ad,if_neg ad,if_pos az]
 .rw[h0,if_neg ad,if_neg ad,if_neg (by simp[az])]
namespace DU
theorem Bo(h:p:=by
 obtain⟨bm,bd,a4⟩:=a9 (w:=w) [.slice bc ct L,.slice aZ m S,.slice bl bk a7,z] (by rfl) a3.1 a3.2 ad hX;have i:=ah bd a4;clear hX bd a4 bq a1 a5;obtain⟨bq,a1,a5⟩:=bm.two;refine NB (v:=.tuple #[.agg #[.slice bc ct L,.slice aZ m S,.slice bl bk a7,z],true]) (by simp[results,Tryz.results31,go_sem,bq]) rfl ?_;rw[bZ.o];show dd nC w {s with fault:=z} true _ _
 exact eD (aq:={s with fault:=z}) (q:=⟨bc,ct,L,aZ,m,S,bl,bk,a7⟩) cT.o i.2 (λb O=>ad) ad i.1
 ):p:=h
theorem BQ(h:p:=by
 refine(qF u s t f x.place N W ⟨GA,gn,gc,MA,mn,mc,PA,pn,pc⟩ ⟨bI,bU,bx,TA,tn,tc,HA,hn,hc⟩ QA qm qc ⟨aP.hU.ok,aP.hS,aP.sm,aP.ht,⟨cq,aP.hp,ck.1⟩,al.2.2.2.2.2.1,al.2.2.2.2.2.2.1,al.2.2.2.2.2.2.2.place⟩).mono ?_;rintro e aO ⟨rfl,b2⟩;rw[iO aP.ht];have aM:Ext W aO:=Fr.of b2;have aR:=ck.2.2.2;generalize bH u s f x.place=R at *;obtain⟨K,z⟩:=R;have bz:=ae aR;clear aR b2 a0 ak af bs am aK d0 aQ aS;have cZ:=al.1.size;have dA:=al.2.2.2.2.1.lt;have bw:=ae aM;have cn:=aM.size;obtain⟨a0,ak,af⟩:=(al.2.1.aj aM).two;obtain⟨bs,am,aK⟩:=(al.2.2.1.aj aM).two;obtain⟨d0,aQ,aS⟩:=(al.2.2.2.1.aj aM).two;clear aM;by_cases aI:z=0
 case neg=>
  have bZ:=ae (r.bad aI);have q1:(z != 0)=true:=by simpa using aI
  clear aI r bz;go_wp2_with(fail);refine(lF s ⟨bI,bU,bx,TA,tn,tc,HA,hn,hc⟩ z aO (al.2.2.2.2.2.2.1.on bw.o) aP.sm).mono ?_;exact Bn
 have q1:(z != 0)=false:=by simpa using aI
 have aE:=bz.2 aI;have az:=mm aP.hU.ok;have aV:K<=5000:=by simp only at aE;omega
 have bj:=ae aI;clear aI aE az;by_cases aU:x.op=4
 .have dc:(x.op == 4)=true:=by simpa using aU
  have q5:(x.op == 5)=false:=by simp;omega
  have bC:=ae (r.lf bj.o aU);have co:=ae (r.ln bj.o aU);clear aU r;go_wp2_with(fail);refine(Fm MA TA mn mc tn tc u.af s.table K t aO (al.2.2.2.2.2.1.on bw.o).at_.m.tO aP.hU.ok.Gq (al.2.2.2.2.2.2.1.on bw.o).at_.t.holds ck.2.1 ad ad).mono ?_;intro e aW aj;obtain⟨I,aD,rfl,bM,bS,aB,bn⟩:=aj.open_ (n:=tn) (by rw[fu];exact bW.2.2.2.2.symm);have aY:tn=(fJ u.af s.table K t).length:=by rw[fu];exact bW.2.2.2.2
  have Q:=ah aB aY;have a8:=ae (show Ext W aW from bw.trans (Fr.of bn));have bO:=bn.size;generalize hT:fJ u.af s.table K t=T at *;clear aj bS aB bn aY hT a0 ak af bs am aK d0 aQ aS;obtain⟨bs,am,aK⟩:=(al.2.2.1.aj a8.o).two;obtain⟨d0,aQ,aS⟩:=(al.2.2.2.1.aj a8.o).two
  cases b1:free u.af s.table K t with
  | true=>
   exact HW
  | false=>
   have bZ:=ae (co.o b1);clear bC co;go_wp2_with(fail);refine(tM s ⟨bI,bU,bx,TA,tn,tc,HA,hn,hc⟩ aW (al.2.2.2.2.2.2.1.on a8.o) aP.sm).mono ?_;rintro e b6 ⟨⟨bc,ct,L,aZ,m,S,bl,bk,a7⟩,rfl,ca,bf⟩;have cT:=ae ca;have cE:=(al.2.2.2.2.1.aj a8.o).aj bf;have a3:=ah cE ((al.1.trans a8.o).trans bf);clear ca bf bs am aK d0 aQ aS;obtain⟨bq,a1,a5⟩:=cE.two;clear cE;go_wp2_with(fail);generalize hX:World.setCell _ _ _=Z;obtain⟨bm,bd,a4⟩:=a9 (w:=w) [.slice bc ct L,.slice aZ m S,.slice bl bk a7,.int .i64 s.fault] (by rfl) a3.1 a3.2 ad hX;have i:=ah bd a4;clear hX bd a4 bq a1 a5;obtain⟨bq,a1,a5⟩:=bm.two;refine NB (v:=.tuple #[.agg #[.slice bc ct L,.slice aZ m S,.slice bl bk a7,.int .i64 s.fault],false]) (by simp[results,Tryz.results31,go_sem,bq]) rfl ?_;rw[bZ.o];show dd nC w s false _ _
   exact eD (aq:=s) (q:=⟨bc,ct,L,aZ,m,S,bl,bk,a7⟩) (cT.mono λb O=>.inr O) i.2 (λb O=>ad) ad i.1
 .have cB:x.op=5:=ad;have dc:(x.op == 4)=false:=by simpa using aU
  have q5:(x.op == 5)=true:=by simpa using cB
  have bC:=ae (r.uf bj.o cB);have co:=ae (r.un bj.o cB);clear aU cB r;go_wp2_with(fail);refine(x7 MA TA mn mc tn tc u.af s.table K t aO aP.hU.ok.Gq (al.2.2.2.2.2.2.1.on bw.o).at_.t.holds ck.2.1 ad).mono ?_;intro e aW aj;obtain⟨I,aD,rfl,bM,bS,aB,bn⟩:=aj.open_ (n:=tn) (by rw[fp];exact bW.2.2.2.2.symm);have aY:tn=(c8 u.af s.table K t).length:=by rw[fp];exact bW.2.2.2.2
  have Q:=ah aB aY;have a8:=ae (show Ext W aW from bw.trans (Fr.of bn));have bO:=bn.size;generalize hT:c8 u.af s.table K t=T at *;clear aj bS aB bn aY hT a0 ak af bs am aK d0 aQ aS;obtain⟨bs,am,aK⟩:=(al.2.2.1.aj a8.o).two;obtain⟨d0,aQ,aS⟩:=(al.2.2.2.1.aj a8.o).two
  cases b1:heldBy u.af s.table K t with
  | true=>
   exact HW
  | false=>
   have bZ:=ae (co.o b1);clear bC co;go_wp2_with(fail);refine(lF s ⟨bI,bU,bx,TA,tn,tc,HA,hn,hc⟩ 3 aW (al.2.2.2.2.2.2.1.on a8.o) aP.sm).mono ?_;rintro e b6 ⟨⟨bc,ct,L,aZ,m,S,bl,bk,a7⟩,rfl,ca,bf⟩;have cT:=ae ca;have cE:=(al.2.2.2.2.1.aj a8.o).aj bf;have a3:=ah cE ((al.1.trans a8.o).trans bf);clear ca bf bs am aK d0 aQ aS;obtain⟨bq,a1,a5⟩:=cE.two;clear cE;go_wp2_with(fail);generalize hX:World.setCell _ _ _=Z;obtain⟨bm,bd,a4⟩:=a9 (w:=w) [.slice bc ct L,.slice aZ m S,.slice bl bk a7,(3:Int)] (by rfl) a3.1 a3.2 ad hX;have i:=ah bd a4;clear hX bd a4 bq a1 a5;obtain⟨bq,a1,a5⟩:=bm.two;refine NB (v:=.tuple #[.agg #[.slice bc ct L,.slice aZ m S,.slice bl bk a7,(3:Int)],true]) (by simp[results,Tryz.results31,go_sem,bq]) rfl ?_;rw[bZ.o];show dd nC w {s with fault:=3} true _ _
   exact eD (aq:={s with fault:=3}) (q:=⟨bc,ct,L,aZ,m,S,bl,bk,a7⟩) cT.o i.2 (λb O=>ad) ad i.1
 ):p:=h
theorem fP(h:p:=by
 obtain⟨eo,en,es,EA,em,ec,QA,qm,qc,dl,j,dh,KA,di,kc⟩:=v;have bo:cK (bg u) cq.locals cq.az x.place:=by
  exact Iw
 have wj:tn=s.table.length:=by have:=hs.at_.t.1;simpa using this.symm
 have aG:=h.hS.Ag;have cF:t<=1000:=ad;have dz:=h.hS.tok hN;have aR:=jN (s:=s) (nl:=cq.locals) (nk:=f.az.length) h.hU.ok h.hF (Int.le_refl _) (by rw[h.hF.tJ h.hp];exact bo);have c7:=h.pc;have r:=ae (LV (u:=u) (s:=s) (t:=t) (f:=f) (x:=x) cp);have aP:=ae h;have bW:=cQ bP c5 bv cr wj;have ck:=br bo dz c7 aR;have cc:=ay hu hs bK;clear h bP c5 cC bv cr wj bo dz aR c7 aG hu hs bK;dsimp only[UV.val,SV.val,IV.val];go_enter func31,ntmps31;exact BP
 ):p:=h
end DU
open DU in
theorem KK(u:aw)(s:ai)(t:Int)(f:ao)(cq:cR)(x:aA)(N:Nat)(w:World)(p:UV)(q:SV)(v:IV)(h:jJ u s t f cq x N)(hN:N<=100000)(cp:x.op=4\/x.op=5)(hu:p.Ok w u)(hs:q.Ok w s)(bK:v.Ok w x) :
  Calls prog 31 #[.agg (p.val u),.agg (q.val s),t,.agg (v.val x)] w (dd nC w (b5 u s t f x).1 (b5 u s t f x).2):=by
 obtain⟨bP,c5,cC,fs,bv,cr⟩:=h.th;exact fO
theorem dG.pop{q:SV}{xs:List Value}{F1 F2 bJ cb:List Nat}(h:dG B w s N q xs F1 F2 bJ cb){k:Nat}(bv:s.threads[k]?=some (fs++[f])):
  ∃O ch fc,q.HA=some ⟨O,0,none⟩/\k<q.hn/\O<w.heap.size/\O≠N/\B<=O/\(∀j,w.frozen? ⟨O,j,none⟩=false)/\w.cell? ⟨O,k,none⟩=some (.slice (some ⟨ch,0,none⟩) (fs.length+1) fc)/\fs.length+1<=fc/\
   ∀X,w.setCell ⟨O,k,none⟩ (.slice (some ⟨ch,0,none⟩) fs.length fc)=X->∃e d,dG B X {s with threads:=s.threads.set k fs} N q e F1 F2 bJ d:=by
 obtain⟨O,ch,fc,IA,i,ic,bC,l,lc,m3,ce,T,cr,cd,bE,aN,hl,hc,G,c0,c1,c2,c3,bB,a,c7,hints,H⟩:=h.st.top bv;have bH:O∈F1++(F2++(bJ++cb)):=by simp[cd]
 refine⟨O,ch,fc,m3,ce,T,λhe=>h.ne (he▸bH),(h.lo _ bH).1,bB,hc,G,λX hX=>?_⟩;obtain⟨e,d,cf,M⟩:=H;subst hX;have g:∀b,b∈F1++(F2++(bJ++d))->b∈F1++(F2++(bJ++cb)):=λb O=>by
  simp only[Nc] at O ⊢;rcases O with O|O|O|O
  .exact .inl O
  .exact .inr (.inl O)
  .exact .inr (.inr (.inl O))
  .exact .inr (.inr (.inr (M b O)))
 exact⟨e,d,cf,h.o.Lj (λhe=>h.ne (he▸bH)) _,λaR=>h.ne (g _ aR),λb O=>⟨(h.lo b (g b O)).1,by simpa[World.setCell] using (h.lo b (g b O)).2⟩,h.go⟩
theorem dG.drew{B:Nat}{w:World}{s:ai}{N:Nat}{q:SV}{xs:List Value}{F1 F2 bJ cb:List Nat}(h:dG B w s N q xs F1 F2 bJ cb):dG B w.drew s N q xs F1 F2 bJ cb:=h.aj NC.drew
theorem yY(h:s.threads[t.toNat]?=some (fs++[f])):vt s t={s with threads:=s.threads.set t.toNat fs}:=by
 unfold vt;rw[lG h,kT]
theorem rn(h:dF s t=some f)(hx:dC u s t=some x):bT u s t=b5 u s t f x:=by
 unfold bT;rw[h,hx]
theorem rm(h:dF s t=none):bT u s t=(s,false):=by
 unfold bT;rw[h]
theorem y8(h:x.op=7):b5 u s t f x=(bu s t {f with pc:=x.target},true):=by
 unfold b5;rw[if_neg ad,if_neg ad,if_neg ad,if_pos h]
theorem y9(h:x.op=8):b5 u s t f x=(vt s t,true):=by
 unfold b5;rw[if_neg ad,if_neg ad,if_neg ad,if_neg ad]
namespace DV
theorem Ct(h:p:=by
 have av:((fs.length:Nat):Int)<=(fc:Int):=ad
 iterate 3 refine pf ?_
 refine au rfl (λK hK=>?_);go_simp;refine dY hK ?_;clear hK K;refine aG ?_;generalize hX:World.setCell _ _ _=Y;obtain⟨aJ,az,l⟩:=ao.o Y hX;have ar:=cP hX;have bF:Ext W Y:=Fr.low (M:=λb=>b=O) (Fr.trans (Fr.mono cz.2.1 λ_ h=>h.elim) ar) λb O=>ad;have I:=ae l;clear hX l ar e0 a6 ag d0 aQ aS bg a8;have a3:=ah (al.2.2.2.1.aj bF) (al.1.trans bF);obtain⟨bq,a1,a5⟩:=a3.1.two;obtain⟨e0,a6,ag⟩:=I.o.o.two;clear bF;go_wp2_with(fail);generalize hX:World.setCell _ _ _=Z;obtain⟨bm,bd,a4⟩:=a9 (w:=w) [.slice aW bU L,.slice br tn S,.slice (some ⟨O,0,none⟩) hn a7,.int .i64 s.fault] (by rfl) a3.1 a3.2 ad hX;have bj:=ah bd a4;clear hX bd a4 bq a1 a5 e0 a6 ag;obtain⟨bq,a1,a5⟩:=bm.two;refine NB (v:=.tuple #[.agg #[.slice aW bU L,.slice br tn S,.slice (some ⟨O,0,none⟩) hn a7,.int .i64 s.fault],true]) (by simp[results,Tryz.results11,go_sem,bq]) rfl ?_;rw[bZ.o];show dd nC w (vt s t) true _ _
 exact hh (aq:=vt s t) (q:=⟨aW,bU,L,br,tn,S,(some ⟨O,0,none⟩),hn,a7⟩) I.o bj.2.drew (λb O=>ad) ad bj.1.drew (by rw[yY bW.2.1])
 ):p:=h
theorem c4(h:p:=by
 generalize hX:World.setCell _ _ _=Y;have l:dG V Y {s with threads:=s.threads.set t.toNat (fs++[{f with pc:=x.target}])} b6.heap.size ⟨aW,bU,L,br,tn,S,bL,hn,a7⟩ xs F1 F2 bJ cb:=hX▸P.pc x.target;have ar:=cP hX;have dI:=P.ge;have bF:Ext W Y:=Fr.low (M:=λb=>b=c0) (Fr.trans (Fr.mono bQ.o λ_ h=>h.elim) ar) λb O=>ad;have I:=ae l;clear hX l ar cd g2 cA P;have a3:=ah (al.2.2.2.1.aj bF) (al.1.trans bF);obtain⟨bq,a1,a5⟩:=a3.1.two;obtain⟨e0,a6,ag⟩:=I.o.o.two;clear bF;go_wp2_with(fail);generalize hX:World.setCell _ _ _=Z;obtain⟨bm,bd,a4⟩:=a9 (w:=w) [.slice aW bU L,.slice br tn S,.slice bL hn a7,.int .i64 s.fault] (by rfl) a3.1 a3.2 ad hX;have bj:=ah bd a4;clear hX bd a4 bq a1 a5 e0 a6 ag;obtain⟨bq,a1,a5⟩:=bm.two;refine NB (v:=.tuple #[.agg #[.slice aW bU L,.slice br tn S,.slice bL hn a7,.int .i64 s.fault],true]) (by simp[results,Tryz.results11,go_sem,bq]) rfl ?_;rw[bZ.o];show dd nC w (bu s t {f with pc:=x.target}) true _ _
 exact hh (aq:=bu s t {f with pc:=x.target}) (q:=⟨aW,bU,L,br,tn,S,bL,hn,a7⟩) I.o bj.2 (λb O=>ad) ad bj.1 (by rw[ek bW.2.1])
 ):p:=h
end DV
open DV in
theorem KM(u:aw)(s:ai)(t:Int)(N:Nat)(w:World)(p:UV)(q:SV)(hU:yj u)(hS:aP u N s)(hN:N<=100000)(hu:p.Ok w u)(hs:q.Ok w s) :
  Calls prog 11 #[.agg (p.val u),.agg (q.val s),t] w (dd nC w (bT u s t).1 (bT u s t).2):=by
 have HA:=ay hU hS (hS.small hU.ok hN);have cc:=ah hu hs;clear hU hS hu hs;obtain⟨GA,gn,gc,MA,mn,mc,PA,pn,pc⟩:=p;obtain⟨bI,bU,bx,TA,tn,tc,bl,hn,hc⟩:=q;dsimp only[UV.val,SV.val];go_enter func11,ntmps11;go_upto_region 1 with(fail);generalize be:World.alloc _ _=W;have aF:=l9 be;have b0:=kB be;have bX:=iL be;have cx:=kC be;have al:=dH aF b0 bX cx (cc.1.on aF) (cc.2.on aF);have cZ:=aF.size;have dA:=cx.lt;obtain⟨a0,ak,af⟩:=b0.two;obtain⟨bs,am,aK⟩:=bX.two;clear be aF b0 bX cx cc
 cases y:dF s t with
 | none=>
  have bZ:=ae (rm (u:=u) y);have aa:=ae y;clear y;go_wp2_with(fail);refine(vj u s t W ⟨GA,gn,gc,MA,mn,mc,PA,pn,pc⟩ ⟨bI,bU,bx,TA,tn,tc,bl,hn,hc⟩ al.2.2.2.2.2 aa.o).mono ?_;rintro e aO ⟨rfl,aM⟩;have bw:=ae aM;clear a0 ak af bs am aK;go_upto_region 2 with(fail);generalize hV:World.alloc _ _=V;have aC:Ext W V:=hV▸aM.alloc _;have dm:=aC.size;obtain⟨bs,am,aK⟩:=(al.2.2.1.aj aC).two;have bO:=ae aC;clear hV aC aM;go_wp2_with(fail);refine(tM s ⟨bI,bU,bx,TA,tn,tc,bl,hn,hc⟩ V (al.2.2.2.2.2.on bO.o) HA.2.2).mono ?_;rintro e b6 ⟨⟨aW,ct,L,br,m,S,bL,bk,a7⟩,rfl,R,bf⟩;have ca:=R.mono (cU:=λk=>nC k\/(V.heap.size<=k/\k<b6.heap.size)) λb O=>.inr O;clear R bs am aK;have a3:=ah ((al.2.2.2.1.aj bO.o).aj bf) ((al.1.trans bO.o).trans bf);have cT:=ae ca;clear ca bf;obtain⟨bq,a1,a5⟩:=a3.1.two;go_wp2_with(fail);generalize hX:World.setCell _ _ _=Z;obtain⟨bm,bd,a4⟩:=a9 (w:=w) [.slice aW ct L,.slice br m S,.slice bL bk a7,.int .i64 s.fault] (by rfl) a3.1 a3.2 ad hX;have bj:=ah bd a4;clear hX bd a4 bq a1 a5;obtain⟨bq,a1,a5⟩:=bm.two;refine NB (v:=.tuple #[.agg #[.slice aW ct L,.slice br m S,.slice bL bk a7,.int .i64 s.fault],false]) (by simp[results,Tryz.results11,go_sem,bq]) rfl ?_;rw[bZ.o];show dd nC w s false _ _
  exact eD (aq:=s) (q:=⟨aW,ct,L,br,m,S,bL,bk,a7⟩) cT.o bj.2 (λb O=>ad) ad bj.1
 | some f=>
  obtain⟨cq,x,n,aB⟩:=jJ.of HA.1 HA.2.1 hN y;have aD:=ae (rn y aB);have i:=ae n;have r:x.op=1\/x.op=2\/x.op=3\/x.op=4\/x.op=5\/x.op=6\/x.op=7\/x.op=8:=by
   exact AE
  have aj:=ae r;clear y aB n r;go_wp2_with(fail);refine(vk u s t f cq x W ⟨GA,gn,gc,MA,mn,mc,PA,pn,pc⟩ ⟨bI,bU,bx,TA,tn,tc,bl,hn,hc⟩ ⟨i.sm,i.ht,i.hp,i.hx,i.hF.proc,i.pc.1,i.il,i.kl,al.2.2.2.2.1,al.2.2.2.2.2⟩).mono ?_;rintro e aO ⟨⟨eo,en,es,EA,em,ec,QA,qm,qc,dl,j,dh,KA,di,kc⟩,rfl,bK,aM⟩;have cY:=ah bK aM;clear a0 ak af bs am aK bK aM;dsimp only[IV.val];go_upto_region 2 with(fail);generalize hV:World.alloc _ _=V;have cn:=aX hV;have du:=aL hV;have aC:Ext W V:=cY.2.trans cn;have dm:=aC.size;have cg:=du.lt;have bO:=ae aC;have dy:=ae (cY.1.on cn);obtain⟨a0,ak,af⟩:=(al.2.1.aj aC).two;obtain⟨bs,am,aK⟩:=(al.2.2.1.aj aC).two;obtain⟨d0,aQ,aS⟩:=du.two;have b4:=ae du;clear hV aC cn du cY;have dD:w+2<V.heap.size:=ad;rcases aj.o with h|h|h|h|h|h|h|h
  all_goals
   first
    | have q1:(x.op == 1)=true:=by simpa using h
    | have q1:(x.op == 1)=false:=by simp;omega
   first
    | have cL:(x.op == 2)=true:=by simpa using h
    | have cL:(x.op == 2)=false:=by simp;omega
   first
    | have de:(x.op == 3)=true:=by simpa using h
    | have de:(x.op == 3)=false:=by simp;omega
   first
    | have dc:(x.op == 4)=true:=by simpa using h
    | have dc:(x.op == 4)=false:=by simp;omega
   first
    | have q5:(x.op == 5)=true:=by simpa using h
    | have q5:(x.op == 5)=false:=by simp;omega
   first
    | have dj:(x.op == 6)=true:=by simpa using h
    | have dj:(x.op == 6)=false:=by simp;omega
   first
    | have q7:(x.op == 7)=true:=by simpa using h
    | have q7:(x.op == 7)=false:=by simp;omega
   first
    | have dJ:(x.op == 8)=true:=by simpa using h
    | have dJ:(x.op == 8)=false:=by simp;omega
  iterate 6
   ·
    have ab:=ae h;clear h;go_wp2_with(fail)
    first
     | refine(xp u s t f cq x N V ⟨bI,bU,bx,TA,tn,tc,bl,hn,hc⟩ ⟨eo,en,es,EA,em,ec,QA,qm,qc,dl,j,dh,KA,di,kc⟩ i.o (ax ab.o) (al.2.2.2.2.2.on bO.o) dy.o).mono ?_
     | refine(KI u s t f cq x N V ⟨GA,gn,gc,MA,mn,mc,PA,pn,pc⟩ ⟨bI,bU,bx,TA,tn,tc,bl,hn,hc⟩ ⟨eo,en,es,EA,em,ec,QA,qm,qc,dl,j,dh,KA,di,kc⟩ i.o (ax ab.o) (al.2.2.2.2.1.on bO.o) (al.2.2.2.2.2.on bO.o) dy.o).mono ?_
     | refine(KK u s t f cq x N V ⟨GA,gn,gc,MA,mn,mc,PA,pn,pc⟩ ⟨bI,bU,bx,TA,tn,tc,bl,hn,hc⟩ ⟨eo,en,es,EA,em,ec,QA,qm,qc,dl,j,dh,KA,di,kc⟩ i.o hN (ax ab.o) (al.2.2.2.2.1.on bO.o) (al.2.2.2.2.2.on bO.o) dy.o).mono ?_
    have z:=ae aD.o;generalize b5 u s t f x=aA at *;obtain⟨aq,b⟩:=aA;rintro e b6 ⟨⟨aW,ct,L,br,m,S,bL,bk,a7⟩,rfl,ca,bf⟩;clear a0 ak af bs am aK d0 aQ aS;have a3:=ah ((al.2.2.2.1.aj bO.o).aj bf) ((al.1.trans bO.o).trans bf);have cT:=ae ca;clear ca bf;obtain⟨bq,a1,a5⟩:=a3.1.two;go_wp2_with(fail);generalize hX:World.setCell _ _ _=Z;obtain⟨bm,bd,a4⟩:=a9 (w:=w) [.slice aW ct L,.slice br m S,.slice bL bk a7,.int .i64 aq.fault] (by rfl) a3.1 a3.2 ad hX;have bj:=ah bd a4;clear hX bd a4 bq a1 a5;obtain⟨bq,a1,a5⟩:=bm.two;refine NB (v:=.tuple #[.agg #[.slice aW ct L,.slice br m S,.slice bL bk a7,.int .i64 aq.fault],b]) (by simp[results,Tryz.results11,go_sem,bq]) rfl ?_;rw[z.o];show dd nC w aq b _ _
    exact eD (aq:=aq) (q:=⟨aW,ct,L,br,m,S,bL,bk,a7⟩) cT.o bj.2 (λb O=>ad) ad bj.1
  ·
   have bZ:=ae (aD.trans (y8 h));clear h;go_wp2_with(fail);refine(fV s bI TA bl bU bx tn tc hn hc V (al.2.2.2.2.2.on bO.o).at_ HA.2.2).mono ?_;rintro e b6 ⟨aW,L,br,S,bL,a7,xs,F1,F2,bJ,cb,rfl,cf,bp,bf⟩;have bN:=ay cf bp bf;have cI:=bf.size;clear cf bp bf bs am aK a0 ak af d0 aQ aS;go_upto_region 15 with(fail);generalize hU:World.alloc _ _=U;have cl:=aX hU;have cN:=aL hU;have hOut:dG V U s b6 ⟨aW,bU,L,br,tn,S,bL,hn,a7⟩ xs F1 F2 bJ cb:=
    ⟨bN.1.ak λb O=>cl.block b (bN.2.1 b O).2 λh=>h,cN,λO=>by have:=(bN.2.1 _ O).2;omega,λb O=>⟨(bN.2.1 b O).1,by have:=(bN.2.1 b O).2;have:=cl.size;omega⟩,cI⟩
   have ap:Ext V U:=bN.2.2.trans cl;have bz:=bO.trans ap;obtain⟨bP,c5,cC,fs,bv,cr⟩:=i.th;have ve:hn=s.threads.length:=by have:=al.2.2.2.2.2.at_.h.1;simpa using this.symm
   have dw:t<(hn:Int):=ad;have bW:=ay bP bv cr;have cz:=ay hOut bz ap;obtain⟨e0,a6,ag⟩:=hOut.o.two;clear hU cl cN hOut ap bz bP cC bv cr ve;obtain⟨c0,c1,i2,cX,c9,dk,df,fn,cm,aH,J⟩:=cz.1.top bW.2.1 c5 bW.1 bW.2.2;have Q:=ah aH J;obtain⟨d0,aQ,aS⟩:=(show an U aO.heap.size 42 _ from b4.aj cz.2.2).two;clear aH J fn cm;go_upto_region 16 with(fail);refine eJ (λ_=>False) [(0,0),(1,3),(3,3),(4,0),(2,1),(5,3),(6,3),(7,2)] ?_;refine ph ?_
   iterate 2 refine pf ?_
   refine ph ?_;refine aE rfl (λK hK=>?_);go_simp;refine(Q.1 U.drew NC.drew).mono ?_;rintro e cO ⟨rfl,cu⟩;have P:=ae (Q.2 cO (Fr.aF cu));have bQ:=ae (cz.2.1.trans (Fr.aF cu));refine dB hK (cu) ?_;clear hK K;clear cu e0 a6 ag d0 aQ aS
   iterate 2 refine pf ?_
   have cd:=P.c1;have g2:=P.fz;have cA:=P.lt;exact ew
  ·
   have bZ:=ae (aD.trans (y9 h));clear h;go_wp2_with(fail);refine(fV s bI TA bl bU bx tn tc hn hc V (al.2.2.2.2.2.on bO.o).at_ HA.2.2).mono ?_;rintro e b6 ⟨aW,L,br,S,bL,a7,xs,F1,F2,bJ,cb,rfl,cf,bp,bf⟩;have bN:=ay cf bp bf;have cI:=bf.size;clear cf bp bf bs am aK a0 ak af d0 aQ aS;go_upto_region 15 with(fail);generalize hU:World.alloc _ _=U;have cl:=aX hU;have cN:=aL hU;have hOut:dG V U s b6 ⟨aW,bU,L,br,tn,S,bL,hn,a7⟩ xs F1 F2 bJ cb:=
    ⟨bN.1.ak λb O=>cl.block b (bN.2.1 b O).2 λh=>h,cN,λO=>by have:=(bN.2.1 _ O).2;omega,λb O=>⟨(bN.2.1 b O).1,by have:=(bN.2.1 b O).2;have:=cl.size;omega⟩,cI⟩
   have ap:Ext V U:=bN.2.2.trans cl;have bz:=bO.trans ap;obtain⟨bP,c5,cC,fs,bv,cr⟩:=i.th;have ve:hn=s.threads.length:=by have:=al.2.2.2.2.2.at_.h.1;simpa using this.symm
   have dw:t<(hn:Int):=ad;have bW:=ay bP bv cr;have cz:=ay hOut bz ap;obtain⟨e0,a6,ag⟩:=hOut.o.two;clear hU cl cN hOut ap bz bP cC bv cr ve;obtain⟨O,ch,fc,m3,ce,T,bY,aI,a8,bg,G,H⟩:=cz.1.pop bW.2.1;simp only at m3;subst m3;have ao:=ae H;have dp:=bW.2.2;obtain⟨d0,aQ,aS⟩:=(show an U aO.heap.size 42 _ from b4.aj cz.2.2).two;clear H;go_upto_region 18 with(fail);exact Cs
def Kh(P:Nat->Prop)(w:World)(s:ai)(e:Ending)(ab:World):Prop:=∃q:SV,e=.returned (.agg (q.val s))/\q.Is ab (λk=>P k\/(w.heap.size<=k/\k<ab.heap.size)) s/\Ext w ab
theorem Ha(u:aw):eS u=⟨u.globals,List.replicate (own u.af).length ⟨0,0⟩,[[dt u u.main [] []]],0⟩:=rfl
theorem cp.below{α:Type}{f:α->List Value}{sz:Nat}{ab:World}{n:Nat}{A:NH}{l:List α}(h:cp (EF f) sz w B A n l)(aj:∀b,b<B->ab.heap[b]?=w.heap[b]?):cp (EF f) sz ab B A n l:=by
 refine⟨h.1,λhn=>?_⟩;obtain⟨b,o,bF,O,hc⟩:=h.2 hn;refine⟨b,o,bF,O,λk x hx=>?_⟩;obtain⟨cs,he,hl,bi⟩:=hc k x hx;exact⟨cs,he,hl,λj v bK=>(World.cell?_of_block (w:=w) (aj b O)).trans (bi j v bK)⟩
end Go.Proofs.YtnigabjngpnbiabGreat

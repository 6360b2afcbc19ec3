/- Part 22 of the proof. No condition of its own. -/
import Derived.Test.YtkhnkojkplbioaaGreatQ21
namespace Go.Proofs.YtkhnkojkplbioaaGreat
open Go.RowKit Go.Proofs.Tryz
set_option maxRecDepth 1000000
set_option maxHeartbeats 25600000
set_option linter.unusedVariables false
variable{t:Int}{p:Prop}{s:ai}{f:ak}{u:ay}{x:az}
structure Kv(u:ay)(s:ai)(t:Int)(f:ak)(x:az)(a b:List Int×Int):Prop where
 I4:a.2≠0->bI u s t f x=({s with fault:=a.2},true)
 I5:a.2=0->b.2≠0->bI u s t f x=({s with fault:=b.2},true)
 many:a.2=0->b.2=0->x.op=3->32<=s.threads.length->bI u s t f x=({s with fault:=4},true)
 go:a.2=0->b.2=0->x.op=3->¬32<=s.threads.length->bI u s t f x=({aT s t (next f) with threads:=(aT s t (next f)).threads++[[cY u x.target a.1 b.1]]},true)
 call:a.2=0->b.2=0->x.op=2->bI u s t f x=(kM (aT s t (next f)) t (cY u x.target a.1 b.1),true)
theorem Kk(cA:x.op=2\/x.op=3):Kv u s t f x (cC s.globals f.ints x.ints) (bL u s f x.places):=by
 have h0:bI u s t f x=(if bX (cC s.globals f.ints x.ints).2 (bL u s f x.places).2 (decide (x.op=3/\32<=s.threads.length))≠0 then ({s with fault:=bX (cC s.globals f.ints x.ints).2 (bL u s f x.places).2 (decide (x.op=3/\32<=s.threads.length))},true)
  else if x.op=3 then ({aT s t (next f) with threads:=(aT s t (next f)).threads++[[cY u x.target (cC s.globals f.ints x.ints).1 (bL u s f x.places).1]]},true)
  else (kM (aT s t (next f)) t (cY u x.target (cC s.globals f.ints x.ints).1 (bL u s f x.places).1),true)):=by
  unfold bI;rw[if_neg ad,if_pos cA]
 generalize cC s.globals f.ints x.ints=a at *;generalize bL u s f x.places=b at *;refine⟨λh=>?_,λh ac=>?_,λh ac aY bp=>?_,λh ac aY bp=>?_,λh ac au=>?_⟩
 .have:bX a.2 b.2 (decide (x.op=3/\32<=s.threads.length))=a.2:=by unfold bX;rw[if_pos h]
  rw[h0,this,if_pos h]
 .have:bX a.2 b.2 (decide (x.op=3/\32<=s.threads.length))=b.2:=by unfold bX;rw[if_neg ad,if_pos ac]
  rw[h0,this,if_pos ac]
 .have:bX a.2 b.2 (decide (x.op=3/\32<=s.threads.length))=4:=by unfold bX;rw[if_neg ad,if_neg ad,if_pos (by simp[aY,bp])]
  rw[h0,this,if_pos ad]
 .have:bX a.2 b.2 (decide (x.op=3/\32<=s.threads.length))=0:=by unfold bX;rw[if_neg ad,if_neg ad,if_neg (by simp;omega)]
  rw[h0,this,if_neg ad,if_pos aY]
 .have:bX a.2 b.2 (decide (x.op=3/\32<=s.threads.length))=0:=by unfold bX;rw[if_neg ad,if_neg ad,if_neg (by simp;omega)]
  rw[h0,this,if_neg ad,if_neg ad]
namespace C1
theorem dE(h:p:=by
 generalize cL:World.setCell _ _ _=dA;obtain⟨cv,bS,cW⟩:=c4.o _ _ _ _ _ _ _ bu.2.2.1 bu.2.2.2 cX.1 cX.2.1 cX.2.2 cL;have l:=aE cv bS ((ah.2.2.2.2.1.aj bu.2.1).on cW ad);have b9:=ae (show Ext w dA from Fr.low (M:=λb=>aS.heap.size<=b) (Fr.trans (Fr.mono (ah.1.trans bu.2.1) λ_ h=>h.elim) cW) λb O=>ad);clear cL cv bS cW bs br dz dZ;have bo:=l.2.2;obtain⟨bl,aA,aO⟩:=bo.two;obtain⟨e0,a6,aP⟩:=l.2.1.two;clear bo;go_wp2_with(fail);generalize hX:World.setCell _ _ _=Z;obtain⟨bk,bd,bg⟩:=bw (w:=w) [.slice bF bW a5,.slice a1 tn L,.slice (some ⟨O,0,none⟩) hn aZ,.int .i64 s.fault] (by rfl) l.2.2 b9.o ad hX;have bh:=ag bd bg;clear hX bd bg bl aA aO e0 a6 aP;obtain⟨bl,aA,aO⟩:=bk.two;refine LU (v:=.tuple #[.agg #[.slice bF bW a5,.slice a1 tn L,.slice (some ⟨O,0,none⟩) hn aZ,.int .i64 s.fault],.bool true]) (by simp[results,Tryz.results52,go_sem,bl]) rfl ?_;rw[bX.o];show cV mW w _ true _ _
 rw[uY bZ.2.2.1];have cR:=bh.2.size;exact⟨⟨bF,bW,a5,a1,tn,L,some ⟨O,0,none⟩,hn,aZ⟩,rfl,((l.1.al (ab:=Z) λb O=>bh.2.block b O.2.1 (aD O.1)).mono λb O=>.inr ⟨by have:=O.1;omega,by have:=O.2.1;show b<Z.heap.size;omega⟩),bh.1⟩
 ):p:=h
theorem AA(h:p:=by
 obtain⟨bk,bd,bg⟩:=bw (w:=w) [.slice bF cp a5,.slice a1 m L,.slice bf ct aZ,.int .i64 aV] (by rfl) a3.1 a3.2 ad hX;have bh:=ag bd bg;clear hX bd bg bl aA aO;obtain⟨bl,aA,aO⟩:=bk.two;refine LU (v:=.tuple #[.agg #[.slice bF cp a5,.slice a1 m L,.slice bf ct aZ,.int .i64 aV],.bool true]) (by simp[results,Tryz.results52,go_sem,bl]) rfl ?_;rw[bX.o];show cV mW w {s with fault:=aV} true _ _
 exact eB (Q:={s with fault:=aV}) (q:=⟨bF,cp,a5,a1,m,L,bf,ct,aZ⟩) c8.o bh.2 (λb O=>ad) ad bh.1
 ):p:=h
theorem AU(h:p:=by
 refine(wN u s t f cn x N W ⟨GA,gn,gc,MA,mn,mc,PA,pn,pc⟩ ⟨bU,bW,bE,TA,tn,tc,HA,hn,hc⟩ ⟨eo,en,es,EA,em,ec,QA,qm,qc,dg,j,dc,KA,dj,kc⟩ aQ.o cA ah.2.2.2.2.2.1 ah.2.2.2.2.2.2.1 ah.2.2.2.2.2.2.2).mono ?_;intro e aS ap;have aU:=ag (λh au=>ap.2.2 h au) ac.o;have dF:=(qn aQ.hS aQ.hF aQ.hp x.ints (aQ.args cA).1).2.1;have bj:=(nJ (s:=s) (nk:=cn.au) aQ.hU.ok aQ.hF (by rw[aQ.hF.tr aQ.hp];exact Int.le_refl _) x.places (aQ.args cA).2.1).2.1;generalize cC s.globals f.ints x.ints=aa at *;generalize bL u s f x.places=bb at *;obtain⟨dS,aV⟩:=aa;obtain⟨bi,bz⟩:=bb;have b8:=ag dF bj;clear dF bj aU a0 aj af a7 am aF d0 aL aM;have c5:=ah.1.size;have dw:=ah.2.2.2.2.1.lt;by_cases aK:aV=0
 case neg=>
  obtain⟨rfl,aN⟩:=ap.1 aK;have bX:=ae (ac.I4 aK);have q1:(aV == 0)=false:=by simpa using aK
  have cN:(aV != 0)=true:=by simpa using aK
  clear ap aK ac b8;have dR:=ah.2.2.2.2.2.2.1.on aN;obtain⟨bQ,bx⟩:=aJ dR aN;obtain⟨a7,am,aF⟩:=(ah.2.2.1.aj aN).two;obtain⟨d0,aL,aM⟩:=(ah.2.2.2.1.aj aN).two;have cr:=aN.size;clear dR aN;go_wp2_with(fail);refine(lg s ⟨bU,bW,bE,TA,tn,tc,HA,hn,hc⟩ aV aS bQ.o aQ.sm).mono ?_;exact Az
 by_cases I:bz=0
 case neg=>
  obtain⟨rfl,aN⟩:=ap.2.1 aK I;have bX:=ae (ac.I5 aK I);have q1:(bz == 0)=false:=by simpa using I
  have cN:(bz != 0)=true:=by simpa using I
  clear ap aK I ac b8;have dR:=ah.2.2.2.2.2.2.1.on aN;obtain⟨bQ,bx⟩:=aJ dR aN;obtain⟨a7,am,aF⟩:=(ah.2.2.1.aj aN).two;obtain⟨d0,aL,aM⟩:=(ah.2.2.2.1.aj aN).two;have cr:=aN.size;clear dR aN;go_wp2_with(fail);refine(lg s ⟨bU,bW,bE,TA,tn,tc,HA,hn,hc⟩ bz aS bQ.o aQ.sm).mono ?_;rintro e b6 ⟨⟨bF,cp,a5,a1,m,L,bf,ct,aZ⟩,rfl,bM,a4⟩;have c8:=ae bM;have cz:=(ah.2.2.2.2.1.aj bx.o).aj a4;have a3:=ag cz ((ah.1.trans bx.o).trans a4);clear bM a4 a7 am aF d0 aL aM;obtain⟨bl,aA,aO⟩:=cz.two;clear cz;go_wp2_with(fail);generalize hX:World.setCell _ _ _=Z;obtain⟨bk,bd,bg⟩:=bw (w:=w) [.slice bF cp a5,.slice a1 m L,.slice bf ct aZ,.int .i64 bz] (by rfl) a3.1 a3.2 ad hX;have bh:=ag bd bg;clear hX bd bg bl aA aO;obtain⟨bl,aA,aO⟩:=bk.two;refine LU (v:=.tuple #[.agg #[.slice bF cp a5,.slice a1 m L,.slice bf ct aZ,.int .i64 bz],.bool true]) (by simp[results,Tryz.results52,go_sem,bl]) rfl ?_;rw[bX.o];show cV mW w {s with fault:=bz} true _ _
  exact eB (Q:={s with fault:=bz}) (q:=⟨bF,cp,a5,a1,m,L,bf,ct,aZ⟩) c8.o bh.2 (λb O=>ad) ad bh.1
 obtain⟨IA,dK,ci,S,nl,cl,rfl,dT,a8,bN,cm,aN⟩:=ap.2.2 aK I;have bq:=aE bN cm aN;have dW:dS.length=dK:=by have:=bN.1;simpa using this
 have ca:bi.length=nl:=by have:=cm.1;simpa using this
 have bY:=bJ dW ca (b8.1 aK) (b8.2 I);clear ap bN cm dT a8 dW ca b8;have bv:=aE (ac.many aK I) (ac.go aK I) (ac.call aK I);clear ac aK I;by_cases aY:x.op=3
 .have df:(x.op == 3)=true:=by simpa using aY
  by_cases bp:32<=hn
  .have dd:decide ((hn:Int)>=32)=true:=by simpa using (by omega:(32:Int)<=(hn:Int))
   have bX:=ae (bv.1 aY (by rw[<-bZ.2.2.2.2];exact bp));clear aY bp bv;have dR:=ah.2.2.2.2.2.2.1.on aN;obtain⟨bQ,bx⟩:=aJ dR aN;obtain⟨a7,am,aF⟩:=(ah.2.2.1.aj aN).two;obtain⟨d0,aL,aM⟩:=(ah.2.2.2.1.aj aN).two;have cr:=aN.size;clear dR aN;go_wp2_with(fail);refine(lg s ⟨bU,bW,bE,TA,tn,tc,HA,hn,hc⟩ 4 aS bQ.o aQ.sm).mono ?_;rintro e b6 ⟨⟨bF,cp,a5,a1,m,L,bf,ct,aZ⟩,rfl,bM,a4⟩;have c8:=ae bM;have cz:=(ah.2.2.2.2.1.aj bx.o).aj a4;have a3:=ag cz ((ah.1.trans bx.o).trans a4);clear bM a4 a7 am aF d0 aL aM;obtain⟨bl,aA,aO⟩:=cz.two;clear cz;go_wp2_with(fail);generalize hX:World.setCell _ _ _=Z;obtain⟨bk,bd,bg⟩:=bw (w:=w) [.slice bF cp a5,.slice a1 m L,.slice bf ct aZ,.int .i64 4] (by rfl) a3.1 a3.2 ad hX;have bh:=ag bd bg;clear hX bd bg bl aA aO;obtain⟨bl,aA,aO⟩:=bk.two;refine LU (v:=.tuple #[.agg #[.slice bF cp a5,.slice a1 m L,.slice bf ct aZ,.int .i64 4],.bool true]) (by simp[results,Tryz.results52,go_sem,bl]) rfl ?_;rw[bX.o];show cV mW w {s with fault:=4} true _ _
   exact eB (Q:={s with fault:=4}) (q:=⟨bF,cp,a5,a1,m,L,bf,ct,aZ⟩) c8.o bh.2 (λb O=>ad) ad bh.1
  .have dd:decide ((hn:Int)>=32)=false:=by simp;omega
   have bX:=ae (bv.2.1 aY (by rw[<-bZ.2.2.2.2];exact bp));clear aY bp bv;have dR:=ah.2.2.2.2.2.2.1.on aN;obtain⟨bQ,bx⟩:=aJ dR aN;have di:=bZ.2.1;have dy:t<(hn:Int):=by have:=bZ.2.2.2.2;have:=(List.getElem?_eq_some_iff.1 bZ.2.2.1).1;omega
   obtain⟨a7,am,aF⟩:=(ah.2.2.1.aj aN).two;obtain⟨d0,aL,aM⟩:=(ah.2.2.2.1.aj aN).two;have cr:=aN.size;clear dR aN;go_wp2_with(fail);refine(fK s bU TA HA bW bE tn tc hn hc aS bQ.at_ aQ.sm).mono ?_;rintro e b6 ⟨bF,a5,a1,L,bf,aZ,xs,F1,F2,bT,b2,rfl,ch,bB,a4⟩;have bP:=aE ch bB a4;have cQ:=a4.size;clear ch bB a4 a7 am aF d0 aL aM;go_upto_region 7 with(fail);generalize hV:World.alloc _ _=V;have bm:=aW hV;have b7:=aI hV;have hOut:dC aS.heap.size V s b6.heap.size ⟨bF,bW,a5,a1,tn,L,bf,hn,aZ⟩ xs F1 F2 bT b2:=
    ⟨bP.1.al λb O=>bm.block b (bP.2.1 b O).2 λh=>h,b7,λO=>by have:=(bP.2.1 _ O).2;omega,λb O=>⟨(bP.2.1 b O).1,by have:=(bP.2.1 b O).2;have:=bm.size;omega⟩,cQ⟩
   have aX:Ext aS V:=bP.2.2.trans bm;obtain⟨bV,c0,i2,c6,dh,cP,dl,c3,bc,aH,J⟩:=hOut.top bZ.2.2.1 bZ.2.1 bZ.1 bZ.2.2.2.1;have ce:=aE aH J aX;obtain⟨e0,a6,aP⟩:=hOut.o.two;clear hV bm b7 hOut aX aH J c3 bc;go_wp2_with(fail);refine(ce.1 V LW).mono ?_;rintro e cK ⟨rfl,co⟩;have P:=ae (ce.2.1 cK co);have cc:=ae (ce.2.2.trans co);clear e0 a6 aP co;have cb:=P.c1;have g2:=P.fz;have cT:=P.lt;have da:=cq.2.2.2.2.2;go_upto_region 8 with(fail);generalize hX:World.setCell _ _ _=X;have bO:sE aS.heap.size X {s with threads:=s.threads.set t.toNat (fs++[next f])} b6.heap.size ⟨bF,bW,a5,a1,tn,L,bf,hn,aZ⟩ xs F1 F2 bT b2 t fs (next f) bV c0 i2 c6 dh cP dl:=hX▸P.JA bZ.2.2.1 (f.pc+1);have b5:=cO hX;have dG:=P.ge;have i:Ext aS X:=Fr.low (M:=λb=>b=bV) (Fr.trans (Fr.mono cc.o λ_ h=>h.elim) b5) λb O=>ad;have a2:=bx.trans i;have aR:=aE bO.oz i a2;obtain⟨a0,aj,af⟩:=(ah.2.1.aj a2).two;obtain⟨d0,aL,aM⟩:=(ah.2.2.2.1.aj a2).two;clear hX bO b5 i a2 cb g2 cT P;go_wp2_with(fail);have dH:=(bq.1.al (ab:=X) λb O=>aR.2.1.block b O.2 λh=>h).mono (c9:=av X) λb O=>Ll O.2 aR.2.1.size;have aT:=(bq.2.1.al (ab:=X) λb O=>aR.2.1.block b O.2 λh=>h).mono (c9:=av X) λb O=>Ll O.2 aR.2.1.size;have bD:=bY.2.2.1;have cx:=bY.2.2.2;refine(mframe u x.target dQ dS bi IA S dK ci nl cl X ⟨GA,gn,gc,MA,mn,mc,PA,pn,pc⟩ (ah.2.2.2.2.2.1.on aR.2.2) cq.1 cq.2.1 (lY cq.2.2.1 cq.2.2.2.2.1.ints) cq.2.2.2.2.1.ints.2.2 (aD aQ.kl) dH aT).mono ?_;rintro e c7 ⟨FA,dr,bR,dB,fl,cI,rfl,b1,b0⟩
   generalize cZ:cY u x.target dS bi=R at *;have dm:=ae cZ;have z:=ag b1 b0;clear cZ dH aT bD cx b1 b0 a0 aj af d0 aL aM;go_upto_region 9 with(fail);generalize cu:World.alloc _ _=Y;have bt:=aW cu;have bK:=aI cu;have cd:Ext X Y:=z.2.trans bt;have bn:=aR.2.2.trans cd;have n:=aR.1.aj cd;have ar:(ew R).rep Y (fresh X c7) [.int .i64 R.proc,.int .i64 R.pc,.slice FA dr bR,.slice dB fl cI]:=D.aS (λb O=>bt.block b O.2 λh=>h) _ _ z.1;have f2:=z.2.size;have d2:=bt.size;have dY:=aR.1.o.lt;have dI:=aR.2.1.size;have dn:∀b,fresh X c7 b->aS.heap.size<=b/\b<Y.heap.size/\b≠b6.heap.size/\b∉F1++(F2++(bT++b2)):=λb O=>⟨by have:=O.1;omega,by have:=O.2;omega,by have:=O.1;omega,λhm=>by have:=(aR.1.lo b hm).2;have:=O.1;omega⟩
   have bu:=bJ n bn ar dn;obtain⟨d0,aL,aM⟩:=(ah.2.2.2.1.aj bn).two;obtain⟨e0,a6,aP⟩:=n.o.two;obtain⟨f0,dL,dO⟩:=bK.two;clear cu bt bK cd bn n ar dn ce cc bP;have de:=bu.1.st.h.aj ((Fr.refl _ Y).alloc (.cells #[.int .i64 R.proc,.int .i64 R.pc,.slice FA dr bR,.slice dB fl cI] 72));have dv:b6.heap.size∉bT:=λh=>bu.1.ne (by simp[h]);have an:=bu.1.o.aj ((Fr.refl _ Y).alloc (.cells #[.int .i64 R.proc,.int .i64 R.pc,.slice FA dr bR,.slice dB fl cI] 72));have dt:=ag de an;clear de an;go_upto_region 12 with(at_builtin;refine nr s3 rfl (.tmp 65) (.tmp 69) rfl dt.1 (cs:=#[.slice (some ⟨Y.heap.size,0,none⟩) 1 1]) rfl rfl (by simp) rfl (by simp[Value.oneCell']) (by simp only;omega) (by simp only;omega) ?_;intro A2 c2 cS cb g2 cT;have cF:=dt.2.on g2 dv;have cX:=aE cb g2 cT;clear cb g2 cT e0 a6 aP f0 dL dO d0 aL aM;obtain⟨e0,a6,aP⟩:=cF.two;clear cF);generalize cL:World.setCell _ _ _=dA;obtain⟨cv,bS,cW⟩:=bu.1.start bu.2.2.1 bu.2.2.2 rfl cX.1 cX.2.1 cX.2.2 cL;have l:=aE cv bS ((ah.2.2.2.2.1.aj bu.2.1).on cW ad);have b9:=ae (show Ext w dA from Fr.low (M:=λb=>aS.heap.size<=b) (Fr.trans (Fr.mono (ah.1.trans bu.2.1) λ_ h=>h.elim) cW) λb O=>ad);clear cL cv bS cW e0 a6 aP;have bo:=l.2.2;obtain⟨bl,aA,aO⟩:=bo.two;obtain⟨e0,a6,aP⟩:=l.2.1.two;clear bo;go_wp2_with(fail);generalize hX:World.setCell _ _ _=Z;obtain⟨bk,bd,bg⟩:=bw (w:=w) [.slice bF bW a5,.slice a1 tn L,.slice A2 (hn+1) c2,.int .i64 s.fault] (by rfl) l.2.2 b9.o ad hX;have bh:=ag bd bg;clear hX bd bg bl aA aO e0 a6 aP
   obtain⟨bl,aA,aO⟩:=bk.two;refine LU (v:=.tuple #[.agg #[.slice bF bW a5,.slice a1 tn L,.slice A2 (hn+1) c2,.int .i64 s.fault],.bool true]) (by simp[results,Tryz.results52,go_sem,bl]) rfl ?_;rw[bX.o];show cV mW w _ true _ _
   rw[eh bZ.2.2.1];have cR:=bh.2.size;exact⟨⟨bF,bW,a5,a1,tn,L,A2,hn+1,c2⟩,rfl,((l.1.al (ab:=Z) λb O=>bh.2.block b O.2.1 (aD O.1)).mono λb O=>.inr ⟨by have:=O.1;omega,by have:=O.2.1;show b<Z.heap.size;omega⟩),bh.1⟩
 .have au:x.op=2:=ad;have df:(x.op == 3)=false:=by simpa using aY
  have bX:=ae (bv.2.2 au);clear aY au bv;have dR:=ah.2.2.2.2.2.2.1.on aN;obtain⟨bQ,bx⟩:=aJ dR aN;have di:=bZ.2.1;have dy:t<(hn:Int):=by have:=bZ.2.2.2.2;have:=(List.getElem?_eq_some_iff.1 bZ.2.2.1).1;omega
  obtain⟨a7,am,aF⟩:=(ah.2.2.1.aj aN).two;obtain⟨d0,aL,aM⟩:=(ah.2.2.2.1.aj aN).two;have cr:=aN.size;clear dR aN;go_wp2_with(fail);refine(fK s bU TA HA bW bE tn tc hn hc aS bQ.at_ aQ.sm).mono ?_;rintro e b6 ⟨bF,a5,a1,L,bf,aZ,xs,F1,F2,bT,b2,rfl,ch,bB,a4⟩;have bP:=aE ch bB a4;have cQ:=a4.size;clear ch bB a4 a7 am aF d0 aL aM;go_upto_region 7 with(fail);generalize hV:World.alloc _ _=V;have bm:=aW hV;have b7:=aI hV;have hOut:dC aS.heap.size V s b6.heap.size ⟨bF,bW,a5,a1,tn,L,bf,hn,aZ⟩ xs F1 F2 bT b2:=
   ⟨bP.1.al λb O=>bm.block b (bP.2.1 b O).2 λh=>h,b7,λO=>by have:=(bP.2.1 _ O).2;omega,λb O=>⟨(bP.2.1 b O).1,by have:=(bP.2.1 b O).2;have:=bm.size;omega⟩,cQ⟩
  have aX:Ext aS V:=bP.2.2.trans bm;obtain⟨bV,c0,i2,c6,dh,cP,dl,c3,bc,aH,J⟩:=hOut.top bZ.2.2.1 bZ.2.1 bZ.1 bZ.2.2.2.1;have ce:=aE aH J aX;obtain⟨e0,a6,aP⟩:=hOut.o.two;clear hV bm b7 hOut aX aH J c3 bc;go_wp2_with(fail);refine(ce.1 V LW).mono ?_;rintro e cK ⟨rfl,co⟩;have P:=ae (ce.2.1 cK co);have cc:=ae (ce.2.2.trans co);clear e0 a6 aP co;have cb:=P.c1;have g2:=P.fz;have cT:=P.lt;have da:=cq.2.2.2.2.2;go_upto_region 8 with(fail);generalize hX:World.setCell _ _ _=X;have bO:sE aS.heap.size X {s with threads:=s.threads.set t.toNat (fs++[next f])} b6.heap.size ⟨bF,bW,a5,a1,tn,L,bf,hn,aZ⟩ xs F1 F2 bT b2 t fs (next f) bV c0 i2 c6 dh cP dl:=hX▸P.JA bZ.2.2.1 (f.pc+1);have b5:=cO hX;have dG:=P.ge;have i:Ext aS X:=Fr.low (M:=λb=>b=bV) (Fr.trans (Fr.mono cc.o λ_ h=>h.elim) b5) λb O=>ad;have a2:=bx.trans i;have aR:=aE bO.oz i a2;obtain⟨a0,aj,af⟩:=(ah.2.1.aj a2).two;obtain⟨d0,aL,aM⟩:=(ah.2.2.2.1.aj a2).two;clear hX bO b5 i a2 cb g2 cT P;go_wp2_with(fail);have dH:=(bq.1.al (ab:=X) λb O=>aR.2.1.block b O.2 λh=>h).mono (c9:=av X) λb O=>Ll O.2 aR.2.1.size;have aT:=(bq.2.1.al (ab:=X) λb O=>aR.2.1.block b O.2 λh=>h).mono (c9:=av X) λb O=>Ll O.2 aR.2.1.size;have bD:=bY.2.2.1;have cx:=bY.2.2.2;refine(mframe u x.target dQ dS bi IA S dK ci nl cl X ⟨GA,gn,gc,MA,mn,mc,PA,pn,pc⟩ (ah.2.2.2.2.2.1.on aR.2.2) cq.1 cq.2.1 (lY cq.2.2.1 cq.2.2.2.2.1.ints) cq.2.2.2.2.1.ints.2.2 (aD aQ.kl) dH aT).mono ?_;rintro e c7 ⟨FA,dr,bR,dB,fl,cI,rfl,b1,b0⟩
  generalize cZ:cY u x.target dS bi=R at *;have dm:=ae cZ;have z:=ag b1 b0;clear cZ dH aT bD cx b1 b0 a0 aj af d0 aL aM;go_upto_region 9 with(fail);generalize cu:World.alloc _ _=Y;have bt:=aW cu;have bK:=aI cu;have cd:Ext X Y:=z.2.trans bt;have bn:=aR.2.2.trans cd;have n:=aR.1.aj cd;have ar:(ew R).rep Y (fresh X c7) [.int .i64 R.proc,.int .i64 R.pc,.slice FA dr bR,.slice dB fl cI]:=D.aS (λb O=>bt.block b O.2 λh=>h) _ _ z.1;have f2:=z.2.size;have d2:=bt.size;have dY:=aR.1.o.lt;have dI:=aR.2.1.size;have dn:∀b,fresh X c7 b->aS.heap.size<=b/\b<Y.heap.size/\b≠b6.heap.size/\b∉F1++(F2++(bT++b2)):=λb O=>⟨by have:=O.1;omega,by have:=O.2;omega,by have:=O.1;omega,λhm=>by have:=(aR.1.lo b hm).2;have:=O.1;omega⟩
  have bu:=bJ n bn ar dn;obtain⟨d0,aL,aM⟩:=(ah.2.2.2.1.aj bn).two;obtain⟨e0,a6,aP⟩:=n.o.two;obtain⟨f0,dL,dO⟩:=bK.two;clear cu bt bK cd bn n ar dn ce cc bP;obtain⟨O,cj,fc,b3,mO,bH,dV,dD,T,dU,cG,bC,dN,cE,hd,c1,ck,aB,du⟩:=bu.1.push (k:=t.toNat) (fs:=fs) (f:=next f) (by have al:=(List.getElem?_eq_some_iff.1 bZ.2.2.1).1;simp[al]);simp only at mO;subst mO;obtain⟨c4,dt⟩:=aJ du aB;have ds:=bZ.2.2.2.1;have d3:=(aR.1.lo cj dD).2;have d4:=(aR.1.lo O dV).2;have d1:c7.heap.size≠cj:=ad;have dJ:b6.heap.size≠cj:=Ne.symm hd;clear du aB dV dD;go_upto_region 11 with(fail);refine eC (λb=>b=cj) [(0,3),(1,0),(2,3),(3,3),(4,0),(5,3),(6,3),(7,3),(8,0),(9,0),(10,1),(11,1),(12,3),(13,3),(14,2)] ?_;refine pf ?_;refine oQ ?_
  iterate 2 refine pf ?_
  refine oQ ?_
  iterate 3 refine pf ?_
  iterate 2 refine oQ ?_
  refine rz ?_;refine ml (λV=>Ext Y V/\aq V Y.heap.size 72 #[.int .i64 R.proc,.int .i64 R.pc,.slice FA dr bR,.slice dB fl cI]/\V.heap.size=Y.heap.size+1) ⟨by first|exact((Fr.refl _ Y).drew).alloc _|exact((Fr.refl _ Y).alloc _).drew,by first|exact LX|exact aq.new Y.drew _ _,by simp⟩ (λU hU=>?_);have cD:=ae hU;clear hU;refine aG rfl (λK hK=>?_);rw[if_pos (by rfl)];refine yA xY (.tmp 80) (.tmp 82) rfl (dt.aj cD.1) cD.2.1 rfl rfl rfl (by simp[Value.oneCell']) ad ad ?_;intro A2 c2 cS cb g2 cT;have cU:Fr (λb=>b=cj) U cS:=g2.mono λb O=>LO.1 O;refine dq hK (cU) ?_;clear hK K;have a9:Fr (λb=>b=cj) Y cS:=Fr.trans (cD.1.mono λ_ h=>h.elim) cU;have cX:=aE cb a9 (λb O=>(cT b O).imp (λh=>LO.1 h) (λh=>(⟨by have:=cD.2.2;omega,h.2⟩:Y.heap.size<=b/\b<cS.heap.size)));have bs:=(a9.cell (j:=t.toNat) T dN).trans ck;have br:∀j,cS.frozen? ⟨O,j,none⟩=false:=λj=>(a9.frozen T dN).trans (c1 j);have dz:=a9.size;clear cb g2 cT cU a9 ck c1 e0 a6 aP f0 dL dO d0 aL aM;exact BU
 ):p:=h
theorem hE(h:p:=by
 obtain⟨eo,en,es,EA,em,ec,QA,qm,qc,dg,j,dc,KA,dj,kc⟩:=v;obtain⟨_,_,dx,dQ,dM,dX,dk,cw⟩:=h.args cA;have pd:hn=s.threads.length:=by have:=hs.at_.h.1;simpa using this.symm
 have dp:hn<=1000:=by have:=h.sm.h;omega
 have db:=h.pc;have ac:=ae (Kk (u:=u) (s:=s) (t:=t) (f:=f) (x:=x) cA);have aQ:=ae h;have bZ:=cJ ao di bA cg pd;have cq:=cH dx dM dX dk cw db;have ce:=aE hu hs bG;clear h ao di cy bA cg pd dx dM dX dk cw db hu hs bG;dsimp only[UV.val,SV.val,IV.val];go_enter func52,ntmps52;exact AT
 ):p:=h
end C1
open C1 in
theorem Je(u:ay)(s:ai)(t:Int)(f:ak)(cn:cM)(x:az)(N:Nat)(w:World)(p:UV)(q:SV)(v:IV)(h:jv u s t f cn x N)(cA:x.op=2\/x.op=3)(hu:p.Ok w u)(hs:q.Ok w s)(bG:v.Ok w x) :
  Calls prog 52 #[.agg (p.val u),.agg (q.val s),.int .i64 t,.agg (v.val x)] w (cV mW w (bI u s t f x).1 (bI u s t f x).2):=by
 obtain⟨ao,di,cy,fs,bA,cg⟩:=h.th;exact hB
theorem aX.tok{N:Nat}(h:aX u N s)(hN:N<=100000):yD u.af s.table:=by
 refine⟨h.table,λx hx=>?_⟩;obtain⟨i,an⟩:=List.getElem?_of_mem hx;have ah:=h.holds i x an;have:=ah.owner;have:=ah.depth;have:=h.xl;omega
theorem dC.Hv{B:Nat}{w X:World}{s:ai}{N:Nat}{q:SV}{xs:List Value}{F1 F2 bT b2:List Nat}(h:dC B w s N q xs F1 F2 bT b2){T:List bV}{a1:L3}{m L:Nat}(hT:w.ownsRow 0 123 2 (.slice a1 m L) m (T.flatMap bK))(hl:m=T.length)
  (hd:∀b∈bt a1 m L,b∉F1++(F2++(bT++b2))/\b≠N/\B<=b) (hX:w.setCell ⟨N,1,none⟩ (.slice a1 m L)=X):dC B X {s with table:=T} N ⟨q.GA,q.gn,q.gc,a1,m,L,q.HA,q.hn,q.hc⟩ xs F1 (bt a1 m L) bT b2:=by
 have ac:=h.st.Hv hT hl λb O=>(hd b O).1;have al:∀b∈bt a1 m L,b<w.heap.size:=λb O=>(hT.lt b (by simpa using O)).2;have cz:∀b,b∈F1++(bt a1 m L++(bT++b2))->B<=b/\b<w.heap.size/\b≠N:=λb O=>by
  simp only[Lt] at O;have ah:∀b,b∈F1++(F2++(bT++b2))->B<=b/\b<w.heap.size/\b≠N:=λb O=>⟨(h.lo b O).1,(h.lo b O).2,λhe=>h.ne (he▸O)⟩
  rcases O with O|O|O|O
  .exact ah b (by simp[O])
  .exact⟨(hd b O).2.2,al b O,(hd b O).2.1⟩
  .exact ah b (by simp[O])
  .exact ah b (by simp[O])
 subst hX;refine⟨ac.al λb O=>aR (cz b O).2.2,?_,λa9=>(cz N a9).2.2 rfl,λb O=>⟨(cz b O).1,by simpa[World.setCell] using (cz b O).2.1⟩,h.go⟩;exact h.o.aM 1 _
structure Kx(u:ay)(s:ai)(t:Int)(f:ak)(x:az)(r:Int×Int):Prop where
 bad:r.2≠0->bI u s t f x=({s with fault:=r.2},true)
 lf:r.2=0->x.op=4->free u.af s.table r.1 t=true->bI u s t f x=({aT s t (next f) with table:=fm u.af s.table r.1 t},true)
 ln:r.2=0->x.op=4->free u.af s.table r.1 t=false->bI u s t f x=(s,false)
 uf:r.2=0->x.op=5->heldBy u.af s.table r.1 t=true->bI u s t f x=({aT s t (next f) with table:=cL u.af s.table r.1 t},true)
 un:r.2=0->x.op=5->heldBy u.af s.table r.1 t=false->bI u s t f x=({s with fault:=3},true)
theorem Km(cA:x.op=4\/x.op=5):Kx u s t f x (bo u s f x.place):=by
 have h0:bI u s t f x=(if (bo u s f x.place).2≠0 then ({s with fault:=(bo u s f x.place).2},true)
  else if x.op=4 then (if free u.af s.table (bo u s f x.place).1 t then ({aT s t (next f) with table:=fm u.af s.table (bo u s f x.place).1 t},true) else (s,false))
  else (if heldBy u.af s.table (bo u s f x.place).1 t then ({aT s t (next f) with table:=cL u.af s.table (bo u s f x.place).1 t},true) else ({s with fault:=3},true))):=by
  unfold bI;rw[if_neg ad,if_neg ad,if_pos cA]
 generalize bo u s f x.place=r at *;refine⟨λh=>?_,λh ac au=>?_,λh ac au=>?_,λh ac au=>?_,λh ac au=>?_⟩
 .rw[h0,if_pos h]
 .rw[h0,if_neg ad,if_pos ac,if_pos au]
 .rw[h0,if_neg ad,if_pos ac,if_neg (by simp[au])]
 .rw[h0,if_neg ad,if_neg ad,if_pos au]
 .rw[h0,if_neg ad,if_neg ad,if_neg (by simp[au])]
namespace C2
theorem AA(h:p:=by
 obtain⟨bk,bd,bg⟩:=bw (w:=w) [.slice bF cp a5,.slice a1 m L,.slice bf ct aZ,.int .i64 z] (by rfl) a3.1 a3.2 ad hX;have i:=ag bd bg;clear hX bd bg bl aA aO;obtain⟨bl,aA,aO⟩:=bk.two;refine LU (v:=.tuple #[.agg #[.slice bF cp a5,.slice a1 m L,.slice bf ct aZ,.int .i64 z],.bool true]) (by simp[results,Tryz.results53,go_sem,bl]) rfl ?_;rw[bX.o];show cV mW w {s with fault:=z} true _ _
 exact eB (Q:={s with fault:=z}) (q:=⟨bF,cp,a5,a1,m,L,bf,ct,aZ⟩) c8.o i.2 (λb O=>ad) ad i.1
 ):p:=h
theorem AU(h:p:=by
 refine(qq u s t f x.place N W ⟨GA,gn,gc,MA,mn,mc,PA,pn,pc⟩ ⟨bU,bW,bE,TA,tn,tc,HA,hn,hc⟩ QA qm qc ⟨aQ.hU.ok,aQ.hS,aQ.sm,aQ.ht,⟨cn,aQ.hp,cq.1⟩,ah.2.2.2.2.2.1,ah.2.2.2.2.2.2.1,ah.2.2.2.2.2.2.2.place⟩).mono ?_;rintro e aS ⟨rfl,b1⟩;rw[iB aQ.ht];have aN:Ext W aS:=Fr.of b1;have bL:=cq.2.2.2;generalize bo u s f x.place=R at *;obtain⟨au,z⟩:=R;have a9:=ae bL;clear bL b1 a0 aj af a7 am aF d0 aL aM;have c5:=ah.1.size;have dw:=ah.2.2.2.2.1.lt;have bx:=ae aN;have cr:=aN.size;obtain⟨a0,aj,af⟩:=(ah.2.1.aj aN).two;obtain⟨a7,am,aF⟩:=(ah.2.2.1.aj aN).two;obtain⟨d0,aL,aM⟩:=(ah.2.2.2.1.aj aN).two;clear aN;by_cases bv:z=0
 case neg=>
  have bX:=ae (K.bad bv);have q1:(z != 0)=true:=by simpa using bv
  clear bv K a9;go_wp2_with(fail);refine(lg s ⟨bU,bW,bE,TA,tn,tc,HA,hn,hc⟩ z aS (ah.2.2.2.2.2.2.1.on bx.o) aQ.sm).mono ?_;exact Az
 have q1:(z != 0)=false:=by simpa using bv
 have aY:=a9.2 bv;have aG:=l4 aQ.hU.ok;have bi:au<=5000:=by simp only at aY;omega
 have bh:=ae bv;clear bv aY aG;by_cases bR:x.op=4
 .have dd:(x.op == 4)=true:=by simpa using bR
  have q5:(x.op == 5)=false:=by simp;omega
  have S:=ae (K.lf bh.o bR);have cu:=ae (K.ln bh.o bR);clear bR K;go_wp2_with(fail);refine(Ex MA TA mn mc tn tc u.af s.table au t aS (ah.2.2.2.2.2.1.on bx.o).at_.m.mT aQ.hU.ok.vB (ah.2.2.2.2.2.2.1.on bx.o).at_.t.holds cq.2.1 ad ad).mono ?_;intro e aU ap;obtain⟨I,aK,rfl,b9,cm,aB,bj⟩:=ap.open_ (n:=tn) (by rw[ey];exact bZ.2.2.2.2.symm);have aV:tn=(fm u.af s.table au t).length:=by rw[ey];exact bZ.2.2.2.2
  have aa:=ag aB aV;have aX:=ae (show Ext W aU from bx.trans (Fr.of bj));have bN:=bj.size;generalize hT:fm u.af s.table au t=T at *;clear ap cm aB bj aV hT a0 aj af a7 am aF d0 aL aM;obtain⟨a7,am,aF⟩:=(ah.2.2.1.aj aX.o).two;obtain⟨d0,aL,aM⟩:=(ah.2.2.2.1.aj aX.o).two
  cases cd:free u.af s.table au t with
  | true=>
   exact GM
  | false=>
   have bX:=ae (cu.o cd);clear S cu;go_wp2_with(fail);refine(ts s ⟨bU,bW,bE,TA,tn,tc,HA,hn,hc⟩ aU (ah.2.2.2.2.2.2.1.on aX.o) aQ.sm).mono ?_;rintro e b6 ⟨⟨bF,cp,a5,a1,m,L,bf,ct,aZ⟩,rfl,bM,a4⟩;have c8:=ae bM;have cz:=(ah.2.2.2.2.1.aj aX.o).aj a4;have a3:=ag cz ((ah.1.trans aX.o).trans a4);clear bM a4 a7 am aF d0 aL aM;obtain⟨bl,aA,aO⟩:=cz.two;clear cz;go_wp2_with(fail);generalize hX:World.setCell _ _ _=Z;obtain⟨bk,bd,bg⟩:=bw (w:=w) [.slice bF cp a5,.slice a1 m L,.slice bf ct aZ,.int .i64 s.fault] (by rfl) a3.1 a3.2 ad hX;have i:=ag bd bg;clear hX bd bg bl aA aO;obtain⟨bl,aA,aO⟩:=bk.two;refine LU (v:=.tuple #[.agg #[.slice bF cp a5,.slice a1 m L,.slice bf ct aZ,.int .i64 s.fault],.bool false]) (by simp[results,Tryz.results53,go_sem,bl]) rfl ?_;rw[bX.o];show cV mW w s false _ _
   exact eB (Q:=s) (q:=⟨bF,cp,a5,a1,m,L,bf,ct,aZ⟩) (c8.mono λb O=>.inr O) i.2 (λb O=>ad) ad i.1
 .have cI:x.op=5:=ad;have dd:(x.op == 4)=false:=by simpa using bR
  have q5:(x.op == 5)=true:=by simpa using cI
  have S:=ae (K.uf bh.o cI);have cu:=ae (K.un bh.o cI);clear bR cI K;go_wp2_with(fail);refine(xv MA TA mn mc tn tc u.af s.table au t aS aQ.hU.ok.vB (ah.2.2.2.2.2.2.1.on bx.o).at_.t.holds cq.2.1 ad).mono ?_;intro e aU ap;obtain⟨I,aK,rfl,b9,cm,aB,bj⟩:=ap.open_ (n:=tn) (by rw[ei];exact bZ.2.2.2.2.symm);have aV:tn=(cL u.af s.table au t).length:=by rw[ei];exact bZ.2.2.2.2
  have aa:=ag aB aV;have aX:=ae (show Ext W aU from bx.trans (Fr.of bj));have bN:=bj.size;generalize hT:cL u.af s.table au t=T at *;clear ap cm aB bj aV hT a0 aj af a7 am aF d0 aL aM;obtain⟨a7,am,aF⟩:=(ah.2.2.1.aj aX.o).two;obtain⟨d0,aL,aM⟩:=(ah.2.2.2.1.aj aX.o).two
  cases cd:heldBy u.af s.table au t with
  | true=>
   exact GM
  | false=>
   have bX:=ae (cu.o cd);clear S cu;go_wp2_with(fail);refine(lg s ⟨bU,bW,bE,TA,tn,tc,HA,hn,hc⟩ 3 aU (ah.2.2.2.2.2.2.1.on aX.o) aQ.sm).mono ?_;rintro e b6 ⟨⟨bF,cp,a5,a1,m,L,bf,ct,aZ⟩,rfl,bM,a4⟩;have c8:=ae bM;have cz:=(ah.2.2.2.2.1.aj aX.o).aj a4;have a3:=ag cz ((ah.1.trans aX.o).trans a4);clear bM a4 a7 am aF d0 aL aM;obtain⟨bl,aA,aO⟩:=cz.two;clear cz;go_wp2_with(fail);generalize hX:World.setCell _ _ _=Z;obtain⟨bk,bd,bg⟩:=bw (w:=w) [.slice bF cp a5,.slice a1 m L,.slice bf ct aZ,.int .i64 3] (by rfl) a3.1 a3.2 ad hX;have i:=ag bd bg;clear hX bd bg bl aA aO;obtain⟨bl,aA,aO⟩:=bk.two;refine LU (v:=.tuple #[.agg #[.slice bF cp a5,.slice a1 m L,.slice bf ct aZ,.int .i64 3],.bool true]) (by simp[results,Tryz.results53,go_sem,bl]) rfl ?_;rw[bX.o];show cV mW w {s with fault:=3} true _ _
   exact eB (Q:={s with fault:=3}) (q:=⟨bF,cp,a5,a1,m,L,bf,ct,aZ⟩) c8.o i.2 (λb O=>ad) ad i.1
 ):p:=h
theorem hE(h:p:=by
 obtain⟨eo,en,es,EA,em,ec,QA,qm,qc,dg,j,dc,KA,dj,kc⟩:=v;have bp:cW (bC u) cn.locals cn.au x.place:=by
  exact zM
 have tW:tn=s.table.length:=by have:=hs.at_.t.1;simpa using this.symm
 have ax:=h.hS.xl;have cC:t<=1000:=ad;have e4:=h.hS.tok hN;have bL:=jA (s:=s) (nl:=cn.locals) (nk:=f.au.length) h.hU.ok h.hF (Int.le_refl _) (by rw[h.hF.tr h.hp];exact bp);have db:=h.pc;have K:=ae (Km (u:=u) (s:=s) (t:=t) (f:=f) (x:=x) cA);have aQ:=ae h;have bZ:=cJ ao di bA cg tW;have cq:=bJ bp e4 db bL;have ce:=aE hu hs bG;clear h ao di cy bA cg tW bp e4 bL db ax hu hs bG;dsimp only[UV.val,SV.val,IV.val];go_enter func53,ntmps53;exact AT
 ):p:=h
end C2
open C2 in
theorem Jg(u:ay)(s:ai)(t:Int)(f:ak)(cn:cM)(x:az)(N:Nat)(w:World)(p:UV)(q:SV)(v:IV)(h:jv u s t f cn x N)(hN:N<=100000)(cA:x.op=4\/x.op=5)(hu:p.Ok w u)(hs:q.Ok w s)(bG:v.Ok w x) :
  Calls prog 53 #[.agg (p.val u),.agg (q.val s),.int .i64 t,.agg (v.val x)] w (cV mW w (bI u s t f x).1 (bI u s t f x).2):=by
 obtain⟨ao,di,cy,fs,bA,cg⟩:=h.th;exact hB
end Go.Proofs.YtkhnkojkplbioaaGreat

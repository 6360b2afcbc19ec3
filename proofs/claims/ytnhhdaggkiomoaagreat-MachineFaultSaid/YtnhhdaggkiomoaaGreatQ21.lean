/- Part 21 of the proof. No condition of its own. -/
import Derived.Test.YtnhhdaggkiomoaaGreatQ48
import Derived.Test.YtnhhdaggkiomoaaGreatQ20
namespace Go.Proofs.YtnhhdaggkiomoaaGreat
open Go.RowKit Go.Proofs.Tryz
set_option maxRecDepth 1000000
set_option maxHeartbeats 25600000
set_option linter.unusedVariables false
variable{t:Int}{p:Prop}{s:aj}{f:al}{u:ay}{x:az}
structure JR(u:ay)(s:aj)(t:Int)(f:al)(x:az)(a b:List Int×Int):Prop where
 Ij:a.2≠0→bW u s t f x=({s with fault:=a.2},true)
 Ik:a.2=0→b.2≠0→bW u s t f x=({s with fault:=b.2},true)
 many:a.2=0→b.2=0→x.op=3→32≤s.threads.length→bW u s t f x=({s with fault:=4},true)
 go:a.2=0→b.2=0→x.op=3→¬32≤s.threads.length→bW u s t f x=({bs s t (next f) with threads:=(bs s t (next f)).threads++[[da u x.target a.1 b.1]]},true)
 call:a.2=0→b.2=0→x.op=2→bW u s t f x=(qn (bs s t (next f)) t (da u x.target a.1 b.1),true)
theorem JG(cy:x.op=2∨x.op=3):JR u s t f x (cO s.globals f.ints x.ints) (b0 u s f x.places):=by
 have h0:bW u s t f x=(if b9 (cO s.globals f.ints x.ints).2 (b0 u s f x.places).2 (decide (x.op=3∧32≤s.threads.length))≠0 then ({s with fault:=b9 (cO s.globals f.ints x.ints).2 (b0 u s f x.places).2 (decide (x.op=3∧32≤s.threads.length))},true)
  else if x.op=3 then ({bs s t (next f) with threads:=(bs s t (next f)).threads++[[da u x.target (cO s.globals f.ints x.ints).1 (b0 u s f x.places).1]]},true)
  else (qn (bs s t (next f)) t (da u x.target (cO s.globals f.ints x.ints).1 (b0 u s f x.places).1),true)):=by
  unfold bW;rw[if_neg ad,if_pos cy]
 generalize cO s.globals f.ints x.ints=a at *;generalize b0 u s f x.places=b at *;refine⟨fun h=>?_,fun h ac=>?_,fun h ac aV bg=>?_,fun h ac aV bg=>?_,fun h ac av=>?_⟩
 ·have:b9 a.2 b.2 (decide (x.op=3∧32≤s.threads.length))=a.2:=by unfold b9;rw[if_pos h]
  rw[h0,this,if_pos h]
 ·have:b9 a.2 b.2 (decide (x.op=3∧32≤s.threads.length))=b.2:=by unfold b9;rw[if_neg ad,if_pos ac]
  rw[h0,this,if_pos ac]
 ·have:b9 a.2 b.2 (decide (x.op=3∧32≤s.threads.length))=4:=by unfold b9;rw[if_neg ad,if_neg ad,if_pos (by simp[aV,bg])]
  rw[h0,this,if_pos ad]
 ·have:b9 a.2 b.2 (decide (x.op=3∧32≤s.threads.length))=0:=by unfold b9;rw[if_neg ad,if_neg ad,if_neg (by simp;omega)]
  rw[h0,this,if_neg ad,if_pos aV]
 ·have:b9 a.2 b.2 (decide (x.op=3∧32≤s.threads.length))=0:=by unfold b9;rw[if_neg ad,if_neg ad,if_neg (by simp;omega)]
  rw[h0,this,if_neg ad,if_neg ad]
namespace Cr
theorem dC(h:p:=by
 generalize bO:World.setCell _ _ _=dF;obtain⟨cv,bP,cU⟩:=cX.o _ _ _ _ _ _ _ bC.2.2.1 bC.2.2.2 cC.1 cC.2.1 cC.2.2 bO;have l:=aB cv bP ((ah.2.2.2.2.1.ai bC.2.1).on cU ad);have bw:=ae (show Ext w dF from Fr.low (M:=fun b=>aS.heap.size≤b) (Fr.trans (Fr.mono (ah.1.trans bC.2.1) fun _ h=>h.elim) cU) fun b O=>ad);clear bO cv bP cU br bo dB dY;have bq:=l.2.2;obtain⟨bl,aA,aO⟩:=bq.two;obtain⟨e0,a6,aP⟩:=l.2.1.two;clear bq;go_wp2_with(fail);generalize hX:World.setCell _ _ _=Z;obtain⟨bh,a9,be⟩:=bA (w:=w) [.slice aZ bL bc,.slice aX tn L,.slice (some ⟨O,0,none⟩) hn a3,.int .i64 s.fault] (by rfl) l.2.2 bw.o ad hX;have bd:=ag a9 be;clear hX a9 be bl aA aO e0 a6 aP;obtain⟨bl,aA,aO⟩:=bh.two;refine Ln (v:=.tuple #[.agg #[.slice aZ bL bc,.slice aX tn L,.slice (some ⟨O,0,none⟩) hn a3,.int .i64 s.fault],.bool true]) (by simp[results,Tryz.results36,go_sem,bl]) rfl ?_;rw[bV.o];show cG mf w _ true _ _
 rw[uj bY.2.2.1];have cR:=bd.2.size;exact⟨⟨aZ,bL,bc,aX,tn,L,some ⟨O,0,none⟩,hn,a3⟩,rfl,((l.1.ak (ab:=Z) fun b O=>bd.2.block b O.2.1 (aD O.1)).mono fun b O=>.inr ⟨by have:=O.1;omega,by have:=O.2.1;show b<Z.heap.size;omega⟩),bd.1⟩
 ):p:=h
theorem z0(h:p:=by
 obtain⟨bh,a9,be⟩:=bA (w:=w) [.slice aZ cu bc,.slice aX m L,.slice bf ct a3,.int .i64 a1] (by rfl) aW.1 aW.2 ad hX;have bd:=ag a9 be;clear hX a9 be bl aA aO;obtain⟨bl,aA,aO⟩:=bh.two;refine Ln (v:=.tuple #[.agg #[.slice aZ cu bc,.slice aX m L,.slice bf ct a3,.int .i64 a1],.bool true]) (by simp[results,Tryz.results36,go_sem,bl]) rfl ?_;rw[bV.o];show cG mf w {s with fault:=a1} true _ _
 exact ew (Q:={s with fault:=a1}) (q:=⟨aZ,cu,bc,aX,m,L,bf,ct,a3⟩) c7.o bd.2 (fun b O=>ad) ad bd.1
 ):p:=h
theorem Aj(h:p:=by
 refine(v8 u s t f cq x N W ⟨GA,gn,gc,MA,mn,mc,PA,pn,pc⟩ ⟨bS,bL,bD,TA,tn,tc,HA,hn,hc⟩ ⟨eo,en,es,EA,em,ec,QA,qm,qc,dh,j,db,KA,dk,kc⟩ aQ.o cy ah.2.2.2.2.2.1 ah.2.2.2.2.2.2.1 ah.2.2.2.2.2.2.2).mono ?_;intro e aS ap;have aT:=ag (fun h av=>ap.2.2 h av) ac.o;have dE:=(pU aQ.hS aQ.hF aQ.hp x.ints (aQ.args cy).1).2.1;have bt:=(ns (s:=s) (nk:=cq.av) aQ.hU.ok aQ.hF (by rw[aQ.hF.sR aQ.hp];exact Int.le_refl _) x.places (aQ.args cy).2.1).2.1;generalize cO s.globals f.ints x.ints=aa at *;generalize b0 u s f x.places=bb at *;obtain⟨dS,a1⟩:=aa;obtain⟨bi,bz⟩:=bb;have ca:=ag dE bt;clear dE bt aT a0 ai af a8 am aF d0 aL aM;have cY:=ah.1.size;have dr:=ah.2.2.2.2.1.lt;by_cases aK:a1=0
 case neg=>
  obtain⟨rfl,aN⟩:=ap.1 aK;have bV:=ae (ac.Ij aK);have q1:(a1 == 0)=false:=by simpa using aK
  have cB:(a1 != 0)=true:=by simpa using aK
  clear ap aK ac ca;have dI:=ah.2.2.2.2.2.2.1.on aN;obtain⟨bN,bu⟩:=aI dI aN;obtain⟨a8,am,aF⟩:=(ah.2.2.1.ai aN).two;obtain⟨d0,aL,aM⟩:=(ah.2.2.2.1.ai aN).two;have cn:=aN.size;clear dI aN;go_wp2_with(fail);refine(k1 s ⟨bS,bL,bD,TA,tn,tc,HA,hn,hc⟩ a1 aS bN.o aQ.sm).mono ?_;exact zZ
 by_cases I:bz=0
 case neg=>
  obtain⟨rfl,aN⟩:=ap.2.1 aK I;have bV:=ae (ac.Ik aK I);have q1:(bz == 0)=false:=by simpa using I
  have cB:(bz != 0)=true:=by simpa using I
  clear ap aK I ac ca;have dI:=ah.2.2.2.2.2.2.1.on aN;obtain⟨bN,bu⟩:=aI dI aN;obtain⟨a8,am,aF⟩:=(ah.2.2.1.ai aN).two;obtain⟨d0,aL,aM⟩:=(ah.2.2.2.1.ai aN).two;have cn:=aN.size;clear dI aN;go_wp2_with(fail);refine(k1 s ⟨bS,bL,bD,TA,tn,tc,HA,hn,hc⟩ bz aS bN.o aQ.sm).mono ?_;rintro e b6 ⟨⟨aZ,cu,bc,aX,m,L,bf,ct,a3⟩,rfl,bZ,a7⟩;have c7:=ae bZ;have cF:=(ah.2.2.2.2.1.ai bu.o).ai a7;have aW:=ag cF ((ah.1.trans bu.o).trans a7);clear bZ a7 a8 am aF d0 aL aM;obtain⟨bl,aA,aO⟩:=cF.two;clear cF;go_wp2_with(fail);generalize hX:World.setCell _ _ _=Z;obtain⟨bh,a9,be⟩:=bA (w:=w) [.slice aZ cu bc,.slice aX m L,.slice bf ct a3,.int .i64 bz] (by rfl) aW.1 aW.2 ad hX;have bd:=ag a9 be;clear hX a9 be bl aA aO;obtain⟨bl,aA,aO⟩:=bh.two;refine Ln (v:=.tuple #[.agg #[.slice aZ cu bc,.slice aX m L,.slice bf ct a3,.int .i64 bz],.bool true]) (by simp[results,Tryz.results36,go_sem,bl]) rfl ?_;rw[bV.o];show cG mf w {s with fault:=bz} true _ _
  exact ew (Q:={s with fault:=bz}) (q:=⟨aZ,cu,bc,aX,m,L,bf,ct,a3⟩) c7.o bd.2 (fun b O=>ad) ad bd.1
 obtain⟨IA,dK,ci,S,nl,cl,rfl,dU,bp,dv,ch,aN⟩:=ap.2.2 aK I;have bm:=aB dv ch aN;have dW:dS.length=dK:=by have:=dv.1;simpa using this
 have b9:bi.length=nl:=by have:=ch.1;simpa using this
 have b4:=bH dW b9 (ca.1 aK) (ca.2 I);clear ap dv ch dU bp dW b9 ca;have bJ:=aB (ac.many aK I) (ac.go aK I) (ac.call aK I);clear ac aK I;by_cases aV:x.op=3
 ·have dd:(x.op == 3)=true:=by simpa using aV
  by_cases bg:32≤hn
  ·have df:decide ((hn:Int)≥32)=true:=by simpa using (by omega:(32:Int)≤(hn:Int))
   have bV:=ae (bJ.1 aV (by rw[←bY.2.2.2.2];exact bg));clear aV bg bJ;have dI:=ah.2.2.2.2.2.2.1.on aN;obtain⟨bN,bu⟩:=aI dI aN;obtain⟨a8,am,aF⟩:=(ah.2.2.1.ai aN).two;obtain⟨d0,aL,aM⟩:=(ah.2.2.2.1.ai aN).two;have cn:=aN.size;clear dI aN;go_wp2_with(fail);refine(k1 s ⟨bS,bL,bD,TA,tn,tc,HA,hn,hc⟩ 4 aS bN.o aQ.sm).mono ?_;rintro e b6 ⟨⟨aZ,cu,bc,aX,m,L,bf,ct,a3⟩,rfl,bZ,a7⟩;have c7:=ae bZ;have cF:=(ah.2.2.2.2.1.ai bu.o).ai a7;have aW:=ag cF ((ah.1.trans bu.o).trans a7);clear bZ a7 a8 am aF d0 aL aM;obtain⟨bl,aA,aO⟩:=cF.two;clear cF;go_wp2_with(fail);generalize hX:World.setCell _ _ _=Z;obtain⟨bh,a9,be⟩:=bA (w:=w) [.slice aZ cu bc,.slice aX m L,.slice bf ct a3,.int .i64 4] (by rfl) aW.1 aW.2 ad hX;have bd:=ag a9 be;clear hX a9 be bl aA aO;obtain⟨bl,aA,aO⟩:=bh.two;refine Ln (v:=.tuple #[.agg #[.slice aZ cu bc,.slice aX m L,.slice bf ct a3,.int .i64 4],.bool true]) (by simp[results,Tryz.results36,go_sem,bl]) rfl ?_;rw[bV.o];show cG mf w {s with fault:=4} true _ _
   exact ew (Q:={s with fault:=4}) (q:=⟨aZ,cu,bc,aX,m,L,bf,ct,a3⟩) c7.o bd.2 (fun b O=>ad) ad bd.1
  ·have df:decide ((hn:Int)≥32)=false:=by simp;omega
   have bV:=ae (bJ.2.1 aV (by rw[←bY.2.2.2.2];exact bg));clear aV bg bJ;have dI:=ah.2.2.2.2.2.2.1.on aN;obtain⟨bN,bu⟩:=aI dI aN;have dg:=bY.2.1;have dA:t<(hn:Int):=by have:=bY.2.2.2.2;have:=(List.getElem?_eq_some_iff.1 bY.2.2.1).1;omega
   obtain⟨a8,am,aF⟩:=(ah.2.2.1.ai aN).two;obtain⟨d0,aL,aM⟩:=(ah.2.2.2.1.ai aN).two;have cn:=aN.size;clear dI aN;go_wp2_with(fail);refine(fG s bS TA HA bL bD tn tc hn hc aS bN.at_ aQ.sm).mono ?_;rintro e b6 ⟨aZ,bc,aX,L,bf,a3,xs,F1,F2,bQ,cb,rfl,co,bv,a7⟩;have bT:=aB co bv a7;have cP:=a7.size;clear co bv a7 a8 am aF d0 aL aM;go_upto_region 7 with(fail);generalize hV:World.alloc _ _=V;have bj:=aU hV;have b5:=aG hV;have hOut:dy aS.heap.size V s b6.heap.size ⟨aZ,bL,bc,aX,tn,L,bf,hn,a3⟩ xs F1 F2 bQ cb:=
    ⟨bT.1.ak fun b O=>bj.block b (bT.2.1 b O).2 fun h=>h,b5,fun O=>by have:=(bT.2.1 _ O).2;omega,fun b O=>⟨(bT.2.1 b O).1,by have:=(bT.2.1 b O).2;have:=bj.size;omega⟩,cP⟩
   have a4:Ext aS V:=bT.2.2.trans bj;obtain⟨c1,dt,i2,cZ,de,c8,dj,c3,cg,aH,J⟩:=hOut.top bY.2.2.1 bY.2.1 bY.1 bY.2.2.2.1;have cc:=aB aH J a4;obtain⟨e0,a6,aP⟩:=hOut.o.two;clear hV bj b5 hOut a4 aH J c3 cg;go_wp2_with(fail);refine(cc.1 V Lo).mono ?_;rintro e cN ⟨rfl,cw⟩;have P:=ae (cc.2.1 cN cw);have cj:=ae (cc.2.2.trans cw);clear e0 a6 aP cw;have cd:=P.c1;have g2:=P.fz;have cS:=P.lt;have c9:=ck.2.2.2.2.2;go_upto_region 8 with(fail);generalize hX:World.setCell _ _ _=X;have bB:r3 aS.heap.size X {s with threads:=s.threads.set t.toNat (fs++[next f])} b6.heap.size ⟨aZ,bL,bc,aX,tn,L,bf,hn,a3⟩ xs F1 F2 bQ cb t fs (next f) c1 dt i2 cZ de c8 dj:=hX▸P.IW bY.2.2.1 (f.pc+1);have b8:=cL hX;have dx:=P.ge;have i:Ext aS X:=Fr.low (M:=fun b=>b=c1) (Fr.trans (Fr.mono cj.o fun _ h=>h.elim) b8) fun b O=>ad;have aY:=bu.trans i;have aR:=aB bB.oz i aY;obtain⟨a0,ai,af⟩:=(ah.2.1.ai aY).two;obtain⟨d0,aL,aM⟩:=(ah.2.2.2.1.ai aY).two;clear hX bB b8 i aY cd g2 cS P;go_wp2_with(fail);have dH:=(bm.1.ak (ab:=X) fun b O=>aR.2.1.block b O.2 fun h=>h).mono (c5:=au X) fun b O=>KH O.2 aR.2.1.size;have bG:=(bm.2.1.ak (ab:=X) fun b O=>aR.2.1.block b O.2 fun h=>h).mono (c5:=au X) fun b O=>KH O.2 aR.2.1.size;have bF:=b4.2.2.1;have b3:=b4.2.2.2;refine(mframe u x.target dR dS bi IA S dK ci nl cl X ⟨GA,gn,gc,MA,mn,mc,PA,pn,pc⟩ (ah.2.2.2.2.2.1.on aR.2.2) ck.1 ck.2.1 (lK ck.2.2.1 ck.2.2.2.2.1.ints) ck.2.2.2.2.1.ints.2.2 (aD aQ.kl) dH bG).mono ?_;rintro e c6 ⟨FA,dn,bk,dD,fl,bx,rfl,bU,bX⟩
   generalize cV:da u x.target dS bi=R at *;have dl:=ae cV;have z:=ag bU bX;clear cV dH bG bF b3 bU bX a0 ai af d0 aL aM;go_upto_region 9 with(fail);generalize cr:World.alloc _ _=Y;have bE:=aU cr;have bI:=aG cr;have c0:Ext X Y:=z.2.trans bE;have bn:=aR.2.2.trans c0;have n:=aR.1.ai c0;have ar:(er R).rep Y (fresh X c6) [.int .i64 R.proc,.int .i64 R.pc,.slice FA dn bk,.slice dD fl bx]:=D.aS (fun b O=>bE.block b O.2 fun h=>h) _ _ z.1;have e4:=z.2.size;have d3:=bE.size;have d1:=aR.1.o.lt;have dM:=aR.2.1.size;have cM:∀b,fresh X c6 b→aS.heap.size≤b∧b<Y.heap.size∧b≠b6.heap.size∧b∉F1++(F2++(bQ++cb)):=fun b O=>⟨by have:=O.1;omega,by have:=O.2;omega,by have:=O.1;omega,fun hm=>by have:=(aR.1.lo b hm).2;have:=O.1;omega⟩
   have bC:=bH n bn ar cM;obtain⟨d0,aL,aM⟩:=(ah.2.2.2.1.ai bn).two;obtain⟨e0,a6,aP⟩:=n.o.two;obtain⟨f0,dL,dN⟩:=bI.two;clear cr bE bI c0 bn n ar cM cc cj bT;have cx:=bC.1.st.h.ai ((Fr.refl _ Y).alloc (.cells #[.int .i64 R.proc,.int .i64 R.pc,.slice FA dn bk,.slice dD fl bx] 73));have ds:b6.heap.size∉bQ:=fun h=>bC.1.ne (by simp[h]);have an:=bC.1.o.ai ((Fr.refl _ Y).alloc (.cells #[.int .i64 R.proc,.int .i64 R.pc,.slice FA dn bk,.slice dD fl bx] 73));have dq:=ag cx an;clear cx an;go_upto_region 12 with(at_builtin;refine m0 sx rfl (.tmp 65) (.tmp 69) rfl dq.1 (cs:=#[.slice (some ⟨Y.heap.size,0,none⟩) 1 1]) rfl rfl (by simp) rfl (by simp[Value.oneCell']) (by simp only;omega) (by simp only;omega) ?_;intro A2 c2 cQ cd g2 cS;have cD:=dq.2.on g2 ds;have cC:=aB cd g2 cS;clear cd g2 cS e0 a6 aP f0 dL dN d0 aL aM;obtain⟨e0,a6,aP⟩:=cD.two;clear cD);generalize bO:World.setCell _ _ _=dF;obtain⟨cv,bP,cU⟩:=bC.1.start bC.2.2.1 bC.2.2.2 rfl cC.1 cC.2.1 cC.2.2 bO;have l:=aB cv bP ((ah.2.2.2.2.1.ai bC.2.1).on cU ad);have bw:=ae (show Ext w dF from Fr.low (M:=fun b=>aS.heap.size≤b) (Fr.trans (Fr.mono (ah.1.trans bC.2.1) fun _ h=>h.elim) cU) fun b O=>ad);clear bO cv bP cU e0 a6 aP;have bq:=l.2.2;obtain⟨bl,aA,aO⟩:=bq.two;obtain⟨e0,a6,aP⟩:=l.2.1.two;clear bq;go_wp2_with(fail);generalize hX:World.setCell _ _ _=Z;obtain⟨bh,a9,be⟩:=bA (w:=w) [.slice aZ bL bc,.slice aX tn L,.slice A2 (hn+1) c2,.int .i64 s.fault] (by rfl) l.2.2 bw.o ad hX;have bd:=ag a9 be;clear hX a9 be bl aA aO e0 a6 aP
   obtain⟨bl,aA,aO⟩:=bh.two;refine Ln (v:=.tuple #[.agg #[.slice aZ bL bc,.slice aX tn L,.slice A2 (hn+1) c2,.int .i64 s.fault],.bool true]) (by simp[results,Tryz.results36,go_sem,bl]) rfl ?_;rw[bV.o];show cG mf w _ true _ _
   rw[dZ bY.2.2.1];have cR:=bd.2.size;exact⟨⟨aZ,bL,bc,aX,tn,L,A2,hn+1,c2⟩,rfl,((l.1.ak (ab:=Z) fun b O=>bd.2.block b O.2.1 (aD O.1)).mono fun b O=>.inr ⟨by have:=O.1;omega,by have:=O.2.1;show b<Z.heap.size;omega⟩),bd.1⟩
 ·have av:x.op=2:=ad;have dd:(x.op == 3)=false:=by simpa using aV
  have bV:=ae (bJ.2.2 av);clear aV av bJ;have dI:=ah.2.2.2.2.2.2.1.on aN;obtain⟨bN,bu⟩:=aI dI aN;have dg:=bY.2.1;have dA:t<(hn:Int):=by have:=bY.2.2.2.2;have:=(List.getElem?_eq_some_iff.1 bY.2.2.1).1;omega
  obtain⟨a8,am,aF⟩:=(ah.2.2.1.ai aN).two;obtain⟨d0,aL,aM⟩:=(ah.2.2.2.1.ai aN).two;have cn:=aN.size;clear dI aN;go_wp2_with(fail);refine(fG s bS TA HA bL bD tn tc hn hc aS bN.at_ aQ.sm).mono ?_;rintro e b6 ⟨aZ,bc,aX,L,bf,a3,xs,F1,F2,bQ,cb,rfl,co,bv,a7⟩;have bT:=aB co bv a7;have cP:=a7.size;clear co bv a7 a8 am aF d0 aL aM;go_upto_region 7 with(fail);generalize hV:World.alloc _ _=V;have bj:=aU hV;have b5:=aG hV;have hOut:dy aS.heap.size V s b6.heap.size ⟨aZ,bL,bc,aX,tn,L,bf,hn,a3⟩ xs F1 F2 bQ cb:=
   ⟨bT.1.ak fun b O=>bj.block b (bT.2.1 b O).2 fun h=>h,b5,fun O=>by have:=(bT.2.1 _ O).2;omega,fun b O=>⟨(bT.2.1 b O).1,by have:=(bT.2.1 b O).2;have:=bj.size;omega⟩,cP⟩
  have a4:Ext aS V:=bT.2.2.trans bj;obtain⟨c1,dt,i2,cZ,de,c8,dj,c3,cg,aH,J⟩:=hOut.top bY.2.2.1 bY.2.1 bY.1 bY.2.2.2.1;have cc:=aB aH J a4;obtain⟨e0,a6,aP⟩:=hOut.o.two;clear hV bj b5 hOut a4 aH J c3 cg;go_wp2_with(fail);refine(cc.1 V Lo).mono ?_;rintro e cN ⟨rfl,cw⟩;have P:=ae (cc.2.1 cN cw);have cj:=ae (cc.2.2.trans cw);clear e0 a6 aP cw;have cd:=P.c1;have g2:=P.fz;have cS:=P.lt;have c9:=ck.2.2.2.2.2;go_upto_region 8 with(fail);generalize hX:World.setCell _ _ _=X;have bB:r3 aS.heap.size X {s with threads:=s.threads.set t.toNat (fs++[next f])} b6.heap.size ⟨aZ,bL,bc,aX,tn,L,bf,hn,a3⟩ xs F1 F2 bQ cb t fs (next f) c1 dt i2 cZ de c8 dj:=hX▸P.IW bY.2.2.1 (f.pc+1);have b8:=cL hX;have dx:=P.ge;have i:Ext aS X:=Fr.low (M:=fun b=>b=c1) (Fr.trans (Fr.mono cj.o fun _ h=>h.elim) b8) fun b O=>ad;have aY:=bu.trans i;have aR:=aB bB.oz i aY;obtain⟨a0,ai,af⟩:=(ah.2.1.ai aY).two;obtain⟨d0,aL,aM⟩:=(ah.2.2.2.1.ai aY).two;clear hX bB b8 i aY cd g2 cS P;go_wp2_with(fail);have dH:=(bm.1.ak (ab:=X) fun b O=>aR.2.1.block b O.2 fun h=>h).mono (c5:=au X) fun b O=>KH O.2 aR.2.1.size;have bG:=(bm.2.1.ak (ab:=X) fun b O=>aR.2.1.block b O.2 fun h=>h).mono (c5:=au X) fun b O=>KH O.2 aR.2.1.size;have bF:=b4.2.2.1;have b3:=b4.2.2.2;refine(mframe u x.target dR dS bi IA S dK ci nl cl X ⟨GA,gn,gc,MA,mn,mc,PA,pn,pc⟩ (ah.2.2.2.2.2.1.on aR.2.2) ck.1 ck.2.1 (lK ck.2.2.1 ck.2.2.2.2.1.ints) ck.2.2.2.2.1.ints.2.2 (aD aQ.kl) dH bG).mono ?_;rintro e c6 ⟨FA,dn,bk,dD,fl,bx,rfl,bU,bX⟩
  generalize cV:da u x.target dS bi=R at *;have dl:=ae cV;have z:=ag bU bX;clear cV dH bG bF b3 bU bX a0 ai af d0 aL aM;go_upto_region 9 with(fail);generalize cr:World.alloc _ _=Y;have bE:=aU cr;have bI:=aG cr;have c0:Ext X Y:=z.2.trans bE;have bn:=aR.2.2.trans c0;have n:=aR.1.ai c0;have ar:(er R).rep Y (fresh X c6) [.int .i64 R.proc,.int .i64 R.pc,.slice FA dn bk,.slice dD fl bx]:=D.aS (fun b O=>bE.block b O.2 fun h=>h) _ _ z.1;have e4:=z.2.size;have d3:=bE.size;have d1:=aR.1.o.lt;have dM:=aR.2.1.size;have cM:∀b,fresh X c6 b→aS.heap.size≤b∧b<Y.heap.size∧b≠b6.heap.size∧b∉F1++(F2++(bQ++cb)):=fun b O=>⟨by have:=O.1;omega,by have:=O.2;omega,by have:=O.1;omega,fun hm=>by have:=(aR.1.lo b hm).2;have:=O.1;omega⟩
  have bC:=bH n bn ar cM;obtain⟨d0,aL,aM⟩:=(ah.2.2.2.1.ai bn).two;obtain⟨e0,a6,aP⟩:=n.o.two;obtain⟨f0,dL,dN⟩:=bI.two;clear cr bE bI c0 bn n ar cM cc cj bT;obtain⟨O,b1,fc,cK,mC,cp,dV,dG,T,dT,cE,bs,dQ,bR,hd,du,cm,aC,dm⟩:=bC.1.push (k:=t.toNat) (fs:=fs) (f:=next f) (by have ak:=(List.getElem?_eq_some_iff.1 bY.2.2.1).1;simp[ak]);simp only at mC;subst mC;obtain⟨cX,dq⟩:=aI dm aC;have dp:=bY.2.2.2.1;have d4:=(aR.1.lo b1 dG).2;have d5:=(aR.1.lo O dV).2;have d2:c6.heap.size≠b1:=ad;have dJ:b6.heap.size≠b1:=Ne.symm hd;clear dm aC dV dG;go_upto_region 11 with(fail);refine eK (fun b=>b=b1) [(0,3),(1,0),(2,3),(3,3),(4,0),(5,3),(6,3),(7,3),(8,0),(9,0),(10,1),(11,1),(12,3),(13,3),(14,2)] ?_;refine pf ?_;refine ow ?_
  iterate 2 refine pf ?_
  refine ow ?_
  iterate 3 refine pf ?_
  iterate 2 refine ow ?_
  refine q0 ?_;refine l4 (fun V=>Ext Y V∧aq V Y.heap.size 73 #[.int .i64 R.proc,.int .i64 R.pc,.slice FA dn bk,.slice dD fl bx]∧V.heap.size=Y.heap.size+1) ⟨by first|exact((Fr.refl _ Y).drew).alloc _|exact((Fr.refl _ Y).alloc _).drew,by first|exact Lp|exact aq.new Y.drew _ _,by simp⟩ (fun U hU=>?_);have cz:=ae hU;clear hU;refine aJ rfl (fun K hK=>?_);rw[if_pos (by rfl)];refine x5 xr (.tmp 80) (.tmp 82) rfl (dq.ai cz.1) cz.2.1 rfl rfl rfl (by simp[Value.oneCell']) ad ad ?_;intro A2 c2 cQ cd g2 cS;have cW:Fr (fun b=>b=b1) U cQ:=g2.mono fun b O=>Li.1 O;refine dz hK (cW) ?_;clear hK K;have a2:Fr (fun b=>b=b1) Y cQ:=Fr.trans (cz.1.mono fun _ h=>h.elim) cW;have cC:=aB cd a2 (fun b O=>(cS b O).imp (fun h=>Li.1 h) (fun h=>(⟨by have:=cz.2.2;omega,h.2⟩:Y.heap.size≤b∧b<cQ.heap.size)));have br:=(a2.cell (j:=t.toNat) T dQ).trans cm;have bo:∀j,cQ.frozen? ⟨O,j,none⟩=false:=fun j=>(a2.frozen T dQ).trans (du j);have dB:=a2.size;clear cd g2 cS cW a2 cm du e0 a6 aP f0 dL dN d0 aL aM;exact Bi
 ):p:=h
theorem hv(h:p:=by
 obtain⟨eo,en,es,EA,em,ec,QA,qm,qc,dh,j,db,KA,dk,kc⟩:=v;obtain⟨_,_,dw,dR,dP,dX,di,b2⟩:=h.args cy;have ot:hn=s.threads.length:=by have:=hs.at_.h.1;simpa using this.symm
 have dc:hn≤1000:=by have:=h.sm.h;omega
 have c4:=h.pc;have ac:=ae (JG (u:=u) (s:=s) (t:=t) (f:=f) (x:=x) cy);have aQ:=ae h;have bY:=cI ao dg bK cf ot;have ck:=cT dw dP dX di b2 c4;have cc:=aB hu hs bM;clear h ao dg cH bK cf ot dw dP dX di b2 c4 hu hs bM;dsimp only[UV.val,SV.val,IV.val];go_enter func36,ntmps36;exact Ai
 ):p:=h
end Cr
open Cr in
theorem Iw(u:ay)(s:aj)(t:Int)(f:al)(cq:cJ)(x:az)(N:Nat)(w:World)(p:UV)(q:SV)(v:IV)(h:jO u s t f cq x N)(cy:x.op=2∨x.op=3)(hu:p.Ok w u)(hs:q.Ok w s)(bM:v.Ok w x) :
  Calls prog 36 #[.agg (p.val u),.agg (q.val s),.int .i64 t,.agg (v.val x)] w (cG mf w (bW u s t f x).1 (bW u s t f x).2):=by
 obtain⟨ao,dg,cH,fs,bK,cf⟩:=h.th;exact hr
theorem aX.tok{N:Nat}(h:aX u N s)(hN:N≤100000):EU u.af s.table:=by
 refine⟨h.table,fun x hx=>?_⟩;obtain⟨i,an⟩:=List.getElem?_of_mem hx;have ah:=h.holds i x an;have:=ah.owner;have:=ah.depth;have:=h.x0;omega
theorem dy.HU{B:Nat}{w X:World}{s:aj}{N:Nat}{q:SV}{xs:List Value}{F1 F2 bQ cb:List Nat}(h:dy B w s N q xs F1 F2 bQ cb){T:List cy}{aX:Ls}{m L:Nat}(hT:w.ownsRow 0 102 2 (.slice aX m L) m (T.flatMap bJ))(hl:m=T.length)
  (hd:∀b∈bq aX m L,b∉F1++(F2++(bQ++cb))∧b≠N∧B≤b) (hX:w.setCell ⟨N,1,none⟩ (.slice aX m L)=X):dy B X {s with table:=T} N ⟨q.GA,q.gn,q.gc,aX,m,L,q.HA,q.hn,q.hc⟩ xs F1 (bq aX m L) bQ cb:=by
 have ac:=h.st.HU hT hl fun b O=>(hd b O).1;have ak:∀b∈bq aX m L,b<w.heap.size:=fun b O=>(hT.lt b (by simpa using O)).2;have bR:∀b,b∈F1++(bq aX m L++(bQ++cb))→B≤b∧b<w.heap.size∧b≠N:=fun b O=>by
  simp only[KP] at O;have ah:∀b,b∈F1++(F2++(bQ++cb))→B≤b∧b<w.heap.size∧b≠N:=fun b O=>⟨(h.lo b O).1,(h.lo b O).2,fun he=>h.ne (he▸O)⟩
  rcases O with O|O|O|O
  ·exact ah b (by simp[O])
  ·exact⟨(hd b O).2.2,ak b O,(hd b O).2.1⟩
  ·exact ah b (by simp[O])
  ·exact ah b (by simp[O])
 subst hX;refine⟨ac.ak fun b O=>aR (bR b O).2.2,?_,fun a2=>(bR N a2).2.2 rfl,fun b O=>⟨(bR b O).1,by simpa[World.setCell] using (bR b O).2.1⟩,h.go⟩;exact h.o.aM 1 _
structure JT(u:ay)(s:aj)(t:Int)(f:al)(x:az)(r:Int×Int):Prop where
 bad:r.2≠0→bW u s t f x=({s with fault:=r.2},true)
 lf:r.2=0→x.op=4→free u.af s.table r.1 t=true→bW u s t f x=({bs s t (next f) with table:=fw u.af s.table r.1 t},true)
 ln:r.2=0→x.op=4→free u.af s.table r.1 t=false→bW u s t f x=(s,false)
 uf:r.2=0→x.op=5→heldBy u.af s.table r.1 t=true→bW u s t f x=({bs s t (next f) with table:=cV u.af s.table r.1 t},true)
 un:r.2=0→x.op=5→heldBy u.af s.table r.1 t=false→bW u s t f x=({s with fault:=3},true)
theorem JI(cy:x.op=4∨x.op=5):JT u s t f x (bG u s f x.place):=by
 have h0:bW u s t f x=(if (bG u s f x.place).2≠0 then ({s with fault:=(bG u s f x.place).2},true)
  else if x.op=4 then (if free u.af s.table (bG u s f x.place).1 t then ({bs s t (next f) with table:=fw u.af s.table (bG u s f x.place).1 t},true) else (s,false))
  else (if heldBy u.af s.table (bG u s f x.place).1 t then ({bs s t (next f) with table:=cV u.af s.table (bG u s f x.place).1 t},true) else ({s with fault:=3},true))):=by
  unfold bW;rw[if_neg ad,if_neg ad,if_pos cy]
 generalize bG u s f x.place=r at *;refine⟨fun h=>?_,fun h ac av=>?_,fun h ac av=>?_,fun h ac av=>?_,fun h ac av=>?_⟩
 ·rw[h0,if_pos h]
 ·rw[h0,if_neg ad,if_pos ac,if_pos av]
 ·rw[h0,if_neg ad,if_pos ac,if_neg (by simp[av])]
 ·rw[h0,if_neg ad,if_neg ad,if_pos av]
 ·rw[h0,if_neg ad,if_neg ad,if_neg (by simp[av])]
namespace Cs
theorem z0(h:p:=by
 obtain⟨bh,a9,be⟩:=bA (w:=w) [.slice aZ cu bc,.slice aX m L,.slice bf ct a3,.int .i64 z] (by rfl) aW.1 aW.2 ad hX;have i:=ag a9 be;clear hX a9 be bl aA aO;obtain⟨bl,aA,aO⟩:=bh.two;refine Ln (v:=.tuple #[.agg #[.slice aZ cu bc,.slice aX m L,.slice bf ct a3,.int .i64 z],.bool true]) (by simp[results,Tryz.results37,go_sem,bl]) rfl ?_;rw[bV.o];show cG mf w {s with fault:=z} true _ _
 exact ew (Q:={s with fault:=z}) (q:=⟨aZ,cu,bc,aX,m,L,bf,ct,a3⟩) c7.o i.2 (fun b O=>ad) ad i.1
 ):p:=h
theorem Aj(h:p:=by
 refine(pX u s t f x.place N W ⟨GA,gn,gc,MA,mn,mc,PA,pn,pc⟩ ⟨bS,bL,bD,TA,tn,tc,HA,hn,hc⟩ QA qm qc ⟨aQ.hU.ok,aQ.hS,aQ.sm,aQ.ht,⟨cq,aQ.hp,ck.1⟩,ah.2.2.2.2.2.1,ah.2.2.2.2.2.2.1,ah.2.2.2.2.2.2.2.place⟩).mono ?_;rintro e aS ⟨rfl,bU⟩;rw[ix aQ.ht];have aN:Ext W aS:=Fr.of bU;have b0:=ck.2.2.2;generalize bG u s f x.place=R at *;obtain⟨av,z⟩:=R;have a2:=ae b0;clear b0 bU a0 ai af a8 am aF d0 aL aM;have cY:=ah.1.size;have dr:=ah.2.2.2.2.1.lt;have bu:=ae aN;have cn:=aN.size;obtain⟨a0,ai,af⟩:=(ah.2.1.ai aN).two;obtain⟨a8,am,aF⟩:=(ah.2.2.1.ai aN).two;obtain⟨d0,aL,aM⟩:=(ah.2.2.2.1.ai aN).two;clear aN;by_cases bt:z=0
 case neg=>
  have bV:=ae (K.bad bt);have q1:(z != 0)=true:=by simpa using bt
  clear bt K a2;go_wp2_with(fail);refine(k1 s ⟨bS,bL,bD,TA,tn,tc,HA,hn,hc⟩ z aS (ah.2.2.2.2.2.2.1.on bu.o) aQ.sm).mono ?_;exact zZ
 have q1:(z != 0)=false:=by simpa using bt
 have aV:=a2.2 bt;have aJ:=lR aQ.hU.ok;have bi:av≤5000:=by simp only at aV;omega
 have bd:=ae bt;clear bt aV aJ;by_cases bz:x.op=4
 ·have df:(x.op == 4)=true:=by simpa using bz
  have q5:(x.op == 5)=false:=by simp;omega
  have bw:=ae (K.lf bd.o bz);have b4:=ae (K.ln bd.o bz);clear bz K;go_wp2_with(fail);refine(DU MA TA mn mc tn tc u.af s.table av t aS (ah.2.2.2.2.2.1.on bu.o).at_.m.ou aQ.hU.ok.yW (ah.2.2.2.2.2.2.1.on bu.o).at_.t.holds ck.2.1 ad ad).mono ?_;intro e aT ap;obtain⟨I,aK,rfl,bI,ch,aC,bg⟩:=ap.open_ (n:=tn) (by rw[fa];exact bY.2.2.2.2.symm);have a1:tn=(fw u.af s.table av t).length:=by rw[fa];exact bY.2.2.2.2
  have aa:=ag aC a1;have a4:=ae (show Ext W aT from bu.trans (Fr.of bg));have bO:=bg.size;generalize hT:fw u.af s.table av t=T at *;clear ap ch aC bg a1 hT a0 ai af a8 am aF d0 aL aM;obtain⟨a8,am,aF⟩:=(ah.2.2.1.ai a4.o).two;obtain⟨d0,aL,aM⟩:=(ah.2.2.2.1.ai a4.o).two
  cases bE:free u.af s.table av t with
  | true=>
   exact F0
  | false=>
   have bV:=ae (b4.o bE);clear bw b4;go_wp2_with(fail);refine(sS s ⟨bS,bL,bD,TA,tn,tc,HA,hn,hc⟩ aT (ah.2.2.2.2.2.2.1.on a4.o) aQ.sm).mono ?_;rintro e b6 ⟨⟨aZ,cu,bc,aX,m,L,bf,ct,a3⟩,rfl,bZ,a7⟩;have c7:=ae bZ;have cF:=(ah.2.2.2.2.1.ai a4.o).ai a7;have aW:=ag cF ((ah.1.trans a4.o).trans a7);clear bZ a7 a8 am aF d0 aL aM;obtain⟨bl,aA,aO⟩:=cF.two;clear cF;go_wp2_with(fail);generalize hX:World.setCell _ _ _=Z;obtain⟨bh,a9,be⟩:=bA (w:=w) [.slice aZ cu bc,.slice aX m L,.slice bf ct a3,.int .i64 s.fault] (by rfl) aW.1 aW.2 ad hX;have i:=ag a9 be;clear hX a9 be bl aA aO;obtain⟨bl,aA,aO⟩:=bh.two;refine Ln (v:=.tuple #[.agg #[.slice aZ cu bc,.slice aX m L,.slice bf ct a3,.int .i64 s.fault],.bool false]) (by simp[results,Tryz.results37,go_sem,bl]) rfl ?_;rw[bV.o];show cG mf w s false _ _
   exact ew (Q:=s) (q:=⟨aZ,cu,bc,aX,m,L,bf,ct,a3⟩) (c7.mono fun b O=>.inr O) i.2 (fun b O=>ad) ad i.1
 ·have cm:x.op=5:=ad;have df:(x.op == 4)=false:=by simpa using bz
  have q5:(x.op == 5)=true:=by simpa using cm
  have bw:=ae (K.uf bd.o cm);have b4:=ae (K.un bd.o cm);clear bz cm K;go_wp2_with(fail);refine(wY MA TA mn mc tn tc u.af s.table av t aS aQ.hU.ok.yW (ah.2.2.2.2.2.2.1.on bu.o).at_.t.holds ck.2.1 ad).mono ?_;intro e aT ap;obtain⟨I,aK,rfl,bI,ch,aC,bg⟩:=ap.open_ (n:=tn) (by rw[eZ];exact bY.2.2.2.2.symm);have a1:tn=(cV u.af s.table av t).length:=by rw[eZ];exact bY.2.2.2.2
  have aa:=ag aC a1;have a4:=ae (show Ext W aT from bu.trans (Fr.of bg));have bO:=bg.size;generalize hT:cV u.af s.table av t=T at *;clear ap ch aC bg a1 hT a0 ai af a8 am aF d0 aL aM;obtain⟨a8,am,aF⟩:=(ah.2.2.1.ai a4.o).two;obtain⟨d0,aL,aM⟩:=(ah.2.2.2.1.ai a4.o).two
  cases bE:heldBy u.af s.table av t with
  | true=>
   exact F0
  | false=>
   have bV:=ae (b4.o bE);clear bw b4;go_wp2_with(fail);refine(k1 s ⟨bS,bL,bD,TA,tn,tc,HA,hn,hc⟩ 3 aT (ah.2.2.2.2.2.2.1.on a4.o) aQ.sm).mono ?_;rintro e b6 ⟨⟨aZ,cu,bc,aX,m,L,bf,ct,a3⟩,rfl,bZ,a7⟩;have c7:=ae bZ;have cF:=(ah.2.2.2.2.1.ai a4.o).ai a7;have aW:=ag cF ((ah.1.trans a4.o).trans a7);clear bZ a7 a8 am aF d0 aL aM;obtain⟨bl,aA,aO⟩:=cF.two;clear cF;go_wp2_with(fail);generalize hX:World.setCell _ _ _=Z;obtain⟨bh,a9,be⟩:=bA (w:=w) [.slice aZ cu bc,.slice aX m L,.slice bf ct a3,.int .i64 3] (by rfl) aW.1 aW.2 ad hX;have i:=ag a9 be;clear hX a9 be bl aA aO;obtain⟨bl,aA,aO⟩:=bh.two;refine Ln (v:=.tuple #[.agg #[.slice aZ cu bc,.slice aX m L,.slice bf ct a3,.int .i64 3],.bool true]) (by simp[results,Tryz.results37,go_sem,bl]) rfl ?_;rw[bV.o];show cG mf w {s with fault:=3} true _ _
   exact ew (Q:={s with fault:=3}) (q:=⟨aZ,cu,bc,aX,m,L,bf,ct,a3⟩) c7.o i.2 (fun b O=>ad) ad i.1
 ):p:=h
theorem hv(h:p:=by
 obtain⟨eo,en,es,EA,em,ec,QA,qm,qc,dh,j,db,KA,dk,kc⟩:=v;have bk:cU (bx u) cq.locals cq.av x.place:=by
  exact ze
 have tq:tn=s.table.length:=by have:=hs.at_.t.1;simpa using this.symm
 have ax:=h.hS.x0;have cM:t≤1000:=ad;have dL:=h.hS.tok hN;have b0:=jt (s:=s) (nl:=cq.locals) (nk:=f.av.length) h.hU.ok h.hF (Int.le_refl _) (by rw[h.hF.sR h.hp];exact bk);have c4:=h.pc;have K:=ae (JI (u:=u) (s:=s) (t:=t) (f:=f) (x:=x) cy);have aQ:=ae h;have bY:=cI ao dg bK cf tq;have ck:=bH bk dL c4 b0;have cc:=aB hu hs bM;clear h ao dg cH bK cf tq bk dL b0 c4 ax hu hs bM;dsimp only[UV.val,SV.val,IV.val];go_enter func37,ntmps37;exact Ai
 ):p:=h
end Cs
open Cs in
theorem Iy(u:ay)(s:aj)(t:Int)(f:al)(cq:cJ)(x:az)(N:Nat)(w:World)(p:UV)(q:SV)(v:IV)(h:jO u s t f cq x N)(hN:N≤100000)(cy:x.op=4∨x.op=5)(hu:p.Ok w u)(hs:q.Ok w s)(bM:v.Ok w x) :
  Calls prog 37 #[.agg (p.val u),.agg (q.val s),.int .i64 t,.agg (v.val x)] w (cG mf w (bW u s t f x).1 (bW u s t f x).2):=by
 obtain⟨ao,dg,cH,fs,bK,cf⟩:=h.th;exact hr
end Go.Proofs.YtnhhdaggkiomoaaGreat

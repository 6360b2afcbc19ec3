/- Part 25 of the proof. No condition of its own. -/
import Derived.Test.YtajlmkkidmjgoaaGreatDoorQ24
namespace Go.Proofs.YtajlmkkidmjgoaaGreatDoor
open Go.RowKit Go.Proofs.Tryz
set_option maxRecDepth 1000000
set_option maxHeartbeats 25600000
set_option linter.unusedVariables false
variable{t:Int}{fs:List ao}{B:Nat}{p:Prop}{w:World}{s:ah}{f:ao}{u:ax}{x:az}
structure G9(u:ax)(s:ah)(t:Int)(f:ao)(x:az)(a b:List Int×Int):Prop where
 GB:a.2≠0->cq u s t f x=({s with fault:=a.2},true)
 GC:a.2=0->b.2≠0->cq u s t f x=({s with fault:=b.2},true)
 many:a.2=0->b.2=0->x.op=3->32<=s.threads.length->cq u s t f x=({s with fault:=4},true)
 go:a.2=0->b.2=0->x.op=3->¬32<=s.threads.length->cq u s t f x=({bf s t (next f) with threads:=(bf s t (next f)).threads++[[dv u x.target a.1 b.1]]},true)
 call:a.2=0->b.2=0->x.op=2->cq u s t f x=(pw (bf s t (next f)) t (dv u x.target a.1 b.1),true)
theorem Hd(ch:x.op=2\/x.op=3):G9 u s t f x (dn s.globals f.ints x.ints) (cf u s f x.places):=by
 have h0:cq u s t f x=(if bS (dn s.globals f.ints x.ints).2 (cf u s f x.places).2 (decide (x.op=3/\32<=s.threads.length))≠0 then ({s with fault:=bS (dn s.globals f.ints x.ints).2 (cf u s f x.places).2 (decide (x.op=3/\32<=s.threads.length))},true)
  else if x.op=3 then ({bf s t (next f) with threads:=(bf s t (next f)).threads++[[dv u x.target (dn s.globals f.ints x.ints).1 (cf u s f x.places).1]]},true)
  else (pw (bf s t (next f)) t (dv u x.target (dn s.globals f.ints x.ints).1 (cf u s f x.places).1),true)):=by
  unfold cq;rw[if_neg ad,if_pos ch]
 generalize dn s.globals f.ints x.ints=a at *;generalize cf u s f x.places=b at *;refine⟨λh=>?_,λh ac=>?_,λh ac aR n=>?_,λh ac aR n=>?_,λh ac J=>?_⟩
 .have:bS a.2 b.2 (decide (x.op=3/\32<=s.threads.length))=a.2:=by unfold bS;rw[if_pos h]
  rw[h0,this,if_pos h]
 .have:bS a.2 b.2 (decide (x.op=3/\32<=s.threads.length))=b.2:=by unfold bS;rw[if_neg ad,if_pos ac]
  rw[h0,this,if_pos ac]
 .have:bS a.2 b.2 (decide (x.op=3/\32<=s.threads.length))=4:=by unfold bS;rw[if_neg ad,if_neg ad,if_pos (by simp[aR,n])]
  rw[h0,this,if_pos ad]
 .have:bS a.2 b.2 (decide (x.op=3/\32<=s.threads.length))=0:=by unfold bS;rw[if_neg ad,if_neg ad,if_neg (by simp;omega)]
  rw[h0,this,if_neg ad,if_pos aR]
 .have:bS a.2 b.2 (decide (x.op=3/\32<=s.threads.length))=0:=by unfold bS;rw[if_neg ad,if_neg ad,if_neg (by simp;omega)]
  rw[h0,this,if_neg ad,if_neg ad]
namespace z8
theorem fP(h:p:=by
 generalize dt:World.setCell _ _ _=dI;obtain⟨cm,bZ,cC⟩:=dh.o _ _ _ _ _ _ _ bY.2.2.1 bY.2.2.2 cH.1 cH.2.1 cH.2.2 dt;have a7:=aL cm bZ ((ay.2.2.2.2.1.aj bY.2.1).on cC ad);have L:=ae (show Ext w dI from Fr.low (M:=λb=>aO.heap.size<=b) (Fr.trans (Fr.mono (ay.1.trans bY.2.1) λ_ h=>h.elim) cC) λb O=>ad);clear dt cm bZ cC R a5 dr d1;have cM:=a7.2.2;obtain⟨bD,aK,a9⟩:=cM.two;obtain⟨e0,bn,a0⟩:=a7.2.1.two;clear cM;go_wp2_with(fail);generalize hX:World.setCell _ _ _=Z;obtain⟨bB,bl,a6⟩:=cO (w:=w) [.slice a4 bM aW,.slice aX tn S,.slice (some ⟨O,0,none⟩) hn aZ,.int .i64 s.fault] (by rfl) a7.2.2 L.o ad hX;have a2:=ai bl a6;clear hX bl a6 bD aK a9 e0 bn a0;obtain⟨bD,aK,a9⟩:=bB.two;refine IJ (v:=.tuple #[.agg #[.slice a4 bM aW,.slice aX tn S,.slice (some ⟨O,0,none⟩) hn aZ,.int .i64 s.fault],.bool true]) (by simp[results,Tryz.results71,go_sem,bD]) rfl ?_;rw[bV.o];show dP mF w _ true _ _
 rw[BQ bG.2.2.1];have cF:=a2.2.size;exact⟨⟨a4,bM,aW,aX,tn,S,some ⟨O,0,none⟩,hn,aZ⟩,rfl,((a7.1.al (ab:=Z) λb O=>a2.2.block b O.2.1 (aC O.1)).mono λb O=>.inr ⟨by have:=O.1;omega,by have:=O.2.1;show b<Z.heap.size;omega⟩),a2.1⟩
 ):p:=h
theorem yA(h:p:=by
 obtain⟨bB,bl,a6⟩:=cO (w:=w) [.slice a4 cu aW,.slice aX m S,.slice bc bA aZ,.int .i64 aJ] (by rfl) a8.1 a8.2 ad hX;have a2:=ai bl a6;clear hX bl a6 bD aK a9;obtain⟨bD,aK,a9⟩:=bB.two;refine IJ (v:=.tuple #[.agg #[.slice a4 cu aW,.slice aX m S,.slice bc bA aZ,.int .i64 aJ],.bool true]) (by simp[results,Tryz.results71,go_sem,bD]) rfl ?_;rw[bV.o];show dP mF w {s with fault:=aJ} true _ _
 exact dY (bP:={s with fault:=aJ}) (q:=⟨a4,cu,aW,aX,m,S,bc,bA,aZ⟩) cI.o a2.2 (λb O=>ad) ad a2.1
 ):p:=h
theorem yP(h:p:=by
 refine(uy u s t f ck x N W ⟨GA,gn,gc,MA,mn,mc,PA,pn,pc⟩ ⟨bE,bM,br,TA,tn,tc,HA,hn,hc⟩ ⟨eo,en,es,EA,em,ec,QA,qm,qc,db,j,cW,KA,c5,kc⟩ aV.o ch ay.2.2.2.2.2.1 ay.2.2.2.2.2.2.1 ay.2.2.2.2.2.2.2).mono ?_;intro e aO bQ;have aT:=ai (λh J=>bQ.2.2 h J) a1.o;have dl:=(oZ aV.hS aV.hF aV.hp x.ints (aV.args ch).1).2.1;have aE:=(mU (s:=s) (nk:=ck.aw) aV.hU.ok aV.hF (by rw[aV.hF.rn aV.hp];exact Int.le_refl _) x.places (aV.args ch).2.1).2.1;generalize dn s.globals f.ints x.ints=aa at *;generalize cf u s f x.places=bb at *;obtain⟨dN,aJ⟩:=aa;obtain⟨bi,bz⟩:=bb;have bL:=ai dl aE;clear dl aE aT aI aj af be am aH d0 aP aQ;have cE:=ay.1.size;have du:=ay.2.2.2.2.1.lt;by_cases cw:aJ=0
 case neg=>
  obtain⟨rfl,ag⟩:=bQ.1 cw;have bV:=ae (a1.GB cw);have q1:(aJ == 0)=false:=by simpa using cw
  have dq:(aJ != 0)=true:=by simpa using cw
  clear bQ cw a1 bL;have cd:=ay.2.2.2.2.2.2.1.on ag;obtain⟨cL,bh⟩:=aN cd ag;obtain⟨be,am,aH⟩:=(ay.2.2.1.aj ag).two;obtain⟨d0,aP,aQ⟩:=(ay.2.2.2.1.aj ag).two;have b6:=ag.size;clear cd ag;go_wp2_with(fail);refine(kM s ⟨bE,bM,br,TA,tn,tc,HA,hn,hc⟩ aJ aO cL.o aV.sm).mono ?_;exact yz
 by_cases ac:bz=0
 case neg=>
  obtain⟨rfl,ag⟩:=bQ.2.1 cw ac;have bV:=ae (a1.GC cw ac);have q1:(bz == 0)=false:=by simpa using ac
  have dq:(bz != 0)=true:=by simpa using ac
  clear bQ cw ac a1 bL;have cd:=ay.2.2.2.2.2.2.1.on ag;obtain⟨cL,bh⟩:=aN cd ag;obtain⟨be,am,aH⟩:=(ay.2.2.1.aj ag).two;obtain⟨d0,aP,aQ⟩:=(ay.2.2.2.1.aj ag).two;have b6:=ag.size;clear cd ag;go_wp2_with(fail);refine(kM s ⟨bE,bM,br,TA,tn,tc,HA,hn,hc⟩ bz aO cL.o aV.sm).mono ?_;rintro e b4 ⟨⟨a4,cu,aW,aX,m,S,bc,bA,aZ⟩,rfl,cc,aG⟩;have cI:=ae cc;have cp:=(ay.2.2.2.2.1.aj bh.o).aj aG;have a8:=ai cp ((ay.1.trans bh.o).trans aG);clear cc aG be am aH d0 aP aQ;obtain⟨bD,aK,a9⟩:=cp.two;clear cp;go_wp2_with(fail);generalize hX:World.setCell _ _ _=Z;obtain⟨bB,bl,a6⟩:=cO (w:=w) [.slice a4 cu aW,.slice aX m S,.slice bc bA aZ,.int .i64 bz] (by rfl) a8.1 a8.2 ad hX;have a2:=ai bl a6;clear hX bl a6 bD aK a9;obtain⟨bD,aK,a9⟩:=bB.two;refine IJ (v:=.tuple #[.agg #[.slice a4 cu aW,.slice aX m S,.slice bc bA aZ,.int .i64 bz],.bool true]) (by simp[results,Tryz.results71,go_sem,bD]) rfl ?_;rw[bV.o];show dP mF w {s with fault:=bz} true _ _
  exact dY (bP:={s with fault:=bz}) (q:=⟨a4,cu,aW,aX,m,S,bc,bA,aZ⟩) cI.o a2.2 (λb O=>ad) ad a2.1
 obtain⟨IA,dB,ci,bo,nl,cl,rfl,dV,bd,dM,b8,ag⟩:=bQ.2.2 cw ac;have bs:=aL dM b8 ag;have dS:dN.length=dB:=by have:=dM.1;simpa using this
 have cb:bi.length=nl:=by have:=b8.1;simpa using this
 have b2:=bF dS cb (bL.1 cw) (bL.2 ac);clear bQ dM b8 dV bd dS cb bL;have ak:=aL (a1.many cw ac) (a1.go cw ac) (a1.call cw ac);clear a1 cw ac;by_cases aR:x.op=3
 .have dg:(x.op == 3)=true:=by simpa using aR
  by_cases n:32<=hn
  .have c8:decide ((hn:Int)>=32)=true:=by simpa using (by omega:(32:Int)<=(hn:Int))
   have bV:=ae (ak.1 aR (by rw[<-bG.2.2.2.2];exact n));clear aR n ak;have cd:=ay.2.2.2.2.2.2.1.on ag;obtain⟨cL,bh⟩:=aN cd ag;obtain⟨be,am,aH⟩:=(ay.2.2.1.aj ag).two;obtain⟨d0,aP,aQ⟩:=(ay.2.2.2.1.aj ag).two;have b6:=ag.size;clear cd ag;go_wp2_with(fail);refine(kM s ⟨bE,bM,br,TA,tn,tc,HA,hn,hc⟩ 4 aO cL.o aV.sm).mono ?_;rintro e b4 ⟨⟨a4,cu,aW,aX,m,S,bc,bA,aZ⟩,rfl,cc,aG⟩;have cI:=ae cc;have cp:=(ay.2.2.2.2.1.aj bh.o).aj aG;have a8:=ai cp ((ay.1.trans bh.o).trans aG);clear cc aG be am aH d0 aP aQ;obtain⟨bD,aK,a9⟩:=cp.two;clear cp;go_wp2_with(fail);generalize hX:World.setCell _ _ _=Z;obtain⟨bB,bl,a6⟩:=cO (w:=w) [.slice a4 cu aW,.slice aX m S,.slice bc bA aZ,.int .i64 4] (by rfl) a8.1 a8.2 ad hX;have a2:=ai bl a6;clear hX bl a6 bD aK a9;obtain⟨bD,aK,a9⟩:=bB.two;refine IJ (v:=.tuple #[.agg #[.slice a4 cu aW,.slice aX m S,.slice bc bA aZ,.int .i64 4],.bool true]) (by simp[results,Tryz.results71,go_sem,bD]) rfl ?_;rw[bV.o];show dP mF w {s with fault:=4} true _ _
   exact dY (bP:={s with fault:=4}) (q:=⟨a4,cu,aW,aX,m,S,bc,bA,aZ⟩) cI.o a2.2 (λb O=>ad) ad a2.1
  .have c8:decide ((hn:Int)>=32)=false:=by simp;omega
   have bV:=ae (ak.2.1 aR (by rw[<-bG.2.2.2.2];exact n));clear aR n ak;have cd:=ay.2.2.2.2.2.2.1.on ag;obtain⟨cL,bh⟩:=aN cd ag;have cR:=bG.2.1;have dy:t<(hn:Int):=by have:=bG.2.2.2.2;have:=(List.getElem?_eq_some_iff.1 bG.2.2.1).1;omega
   obtain⟨be,am,aH⟩:=(ay.2.2.1.aj ag).two;obtain⟨d0,aP,aQ⟩:=(ay.2.2.2.1.aj ag).two;have b6:=ag.size;clear cd ag;go_wp2_with(fail);refine(fj s bE TA HA bM br tn tc hn hc aO cL.at_ aV.sm).mono ?_;rintro e b4 ⟨a4,aW,aX,S,bc,aZ,xs,aq,ar,bN,bR,rfl,b1,bq,aG⟩;have bI:=aL b1 bq aG;have cx:=aG.size;clear b1 bq aG be am aH d0 aP aQ;go_upto_region 7 with(fail);generalize hV:World.alloc _ _=V;have bg:=bm hV;have bK:=aU hV;have hOut:dd aO.heap.size V s b4.heap.size ⟨a4,bM,aW,aX,tn,S,bc,hn,aZ⟩ xs aq ar bN bR:=
    ⟨bI.1.al λb O=>bg.block b (bI.2.1 b O).2 λh=>h,bK,λO=>by have:=(bI.2.1 _ O).2;omega,λb O=>⟨(bI.2.1 b O).1,by have:=(bI.2.1 b O).2;have:=bg.size;omega⟩,cx⟩
   have cg:Ext aO V:=bI.2.2.trans bg;obtain⟨cX,c1,i2,cZ,cY,dc,c4,c0,bS,cD,ap⟩:=hOut.top bG.2.2.1 bG.2.1 bG.1 bG.2.2.2.1;have ce:=aL cD ap cg;obtain⟨e0,bn,a0⟩:=hOut.o.two;clear hV bg bK hOut cg cD ap c0 bS;go_wp2_with(fail);refine(ce.1 V IK).mono ?_;rintro e eG ⟨rfl,aS⟩;have aF:=ae (ce.2.1 eG aS);have cv:=ae (ce.2.2.trans aS);clear e0 bn a0 aS;have b0:=aF.c1;have g2:=aF.fz;have cB:=aF.lt;have cQ:=b9.2.2.2.2.2;go_upto_region 8 with(fail);generalize hX:World.setCell _ _ _=X;have cN:qU aO.heap.size X {s with threads:=s.threads.set t.toNat (fs++[next f])} b4.heap.size ⟨a4,bM,aW,aX,tn,S,bc,hn,aZ⟩ xs aq ar bN bR t fs (next f) cX c1 i2 cZ cY dc c4:=hX▸aF.Gm bG.2.2.1 (f.pc+1);have bT:=cT hX;have dj:=aF.ge;have z:Ext aO X:=Fr.low (M:=λb=>b=cX) (Fr.trans (Fr.mono cv.o λ_ h=>h.elim) bT) λb O=>ad;have bO:=bh.trans z;have aA:=aL cN.oz z bO;obtain⟨aI,aj,af⟩:=(ay.2.1.aj bO).two;obtain⟨d0,aP,aQ⟩:=(ay.2.2.2.1.aj bO).two;clear hX cN bT z bO b0 g2 cB aF;go_wp2_with(fail);have ds:=(bs.1.al (ab:=X) λb O=>aA.2.1.block b O.2 λh=>h).mono (bW:=av X) λb O=>Hy O.2 aA.2.1.size;have bw:=(bs.2.1.al (ab:=X) λb O=>aA.2.1.block b O.2 λh=>h).mono (bW:=av X) λb O=>Hy O.2 aA.2.1.size;have cP:=b2.2.2.1;have bu:=b2.2.2.2;refine(mframe u x.target dU dN bi IA bo dB ci nl cl X ⟨GA,gn,gc,MA,mn,mc,PA,pn,pc⟩ (ay.2.2.2.2.2.1.on aA.2.2) b9.1 b9.2.1 (mI b9.2.2.1 b9.2.2.2.2.1.ints) b9.2.2.2.2.1.ints.2.2 (aC aV.kl) ds bw).mono ?_;rintro e cG ⟨FA,dE,bf,dC,fl,cU,rfl,bX,cj⟩
   generalize bj:dv u x.target dN bi=i at *;have da:=ae bj;have dz:=ai bX cj;clear bj ds bw cP bu bX cj aI aj af d0 aP aQ;go_upto_region 9 with(fail);generalize ca:World.alloc _ _=Y;have bt:=bm ca;have bk:=aU ca;have b5:Ext X Y:=dz.2.trans bt;have aM:=aA.2.2.trans b5;have l:=aA.1.aj b5;have P:(gb i).rep Y (fresh X cG) [.int .i64 i.proc,.int .i64 i.pc,.slice FA dE bf,.slice dC fl cU]:=D.aT (λb O=>bt.block b O.2 λh=>h) _ _ dz.1;have gq:=dz.2.size;have dZ:=bt.size;have dX:=aA.1.o.lt;have dx:=aA.2.1.size;have dw:∀b,fresh X cG b->aO.heap.size<=b/\b<Y.heap.size/\b≠b4.heap.size/\b∉aq++(ar++(bN++bR)):=λb O=>⟨by have:=O.1;omega,by have:=O.2;omega,by have:=O.1;omega,λhm=>by have:=(aA.1.lo b hm).2;have:=O.1;omega⟩
   have bY:=bF l aM P dw;obtain⟨d0,aP,aQ⟩:=(ay.2.2.2.1.aj aM).two;obtain⟨e0,bn,a0⟩:=l.o.two;obtain⟨f0,c6,e1⟩:=bk.two;clear ca bt bk b5 aM l P dw ce cv bI;have dJ:=bY.1.st.h.aj ((Fr.refl _ Y).alloc (.cells #[.int .i64 i.proc,.int .i64 i.pc,.slice FA dE bf,.slice dC fl cU] 139));have f1:b4.heap.size∉bN:=λh=>bY.1.ne (by simp[h]);have cV:=bY.1.o.aj ((Fr.refl _ Y).alloc (.cells #[.int .i64 i.proc,.int .i64 i.pc,.slice FA dE bf,.slice dC fl cU] 139));have dD:=ai dJ cV;clear dJ cV;go_upto_region 12 with(at_builtin;refine rX AH rfl (.tmp 65) (.tmp 69) rfl dD.1 (cs:=#[.slice (some ⟨Y.heap.size,0,none⟩) 1 1]) rfl rfl (by simp) rfl (by simp[Value.oneCell']) (by simp only;omega) (by simp only;omega) ?_;intro A2 c2 cz b0 g2 cB;have cn:=dD.2.on g2 f1;have cH:=aL b0 g2 cB;clear b0 g2 cB e0 bn a0 f0 c6 e1 d0 aP aQ;obtain⟨e0,bn,a0⟩:=cn.two;clear cn);generalize dt:World.setCell _ _ _=dI;obtain⟨cm,bZ,cC⟩:=bY.1.start bY.2.2.1 bY.2.2.2 rfl cH.1 cH.2.1 cH.2.2 dt;have a7:=aL cm bZ ((ay.2.2.2.2.1.aj bY.2.1).on cC ad);have L:=ae (show Ext w dI from Fr.low (M:=λb=>aO.heap.size<=b) (Fr.trans (Fr.mono (ay.1.trans bY.2.1) λ_ h=>h.elim) cC) λb O=>ad);clear dt cm bZ cC e0 bn a0;have cM:=a7.2.2;obtain⟨bD,aK,a9⟩:=cM.two;obtain⟨e0,bn,a0⟩:=a7.2.1.two;clear cM;go_wp2_with(fail);generalize hX:World.setCell _ _ _=Z;obtain⟨bB,bl,a6⟩:=cO (w:=w) [.slice a4 bM aW,.slice aX tn S,.slice A2 (hn+1) c2,.int .i64 s.fault] (by rfl) a7.2.2 L.o ad hX;have a2:=ai bl a6;clear hX bl a6 bD aK a9 e0 bn a0
   obtain⟨bD,aK,a9⟩:=bB.two;refine IJ (v:=.tuple #[.agg #[.slice a4 bM aW,.slice aX tn S,.slice A2 (hn+1) c2,.int .i64 s.fault],.bool true]) (by simp[results,Tryz.results71,go_sem,bD]) rfl ?_;rw[bV.o];show dP mF w _ true _ _
   rw[fG bG.2.2.1];have cF:=a2.2.size;exact⟨⟨a4,bM,aW,aX,tn,S,A2,hn+1,c2⟩,rfl,((a7.1.al (ab:=Z) λb O=>a2.2.block b O.2.1 (aC O.1)).mono λb O=>.inr ⟨by have:=O.1;omega,by have:=O.2.1;show b<Z.heap.size;omega⟩),a2.1⟩
 .have J:x.op=2:=ad;have dg:(x.op == 3)=false:=by simpa using aR
  have bV:=ae (ak.2.2 J);clear aR J ak;have cd:=ay.2.2.2.2.2.2.1.on ag;obtain⟨cL,bh⟩:=aN cd ag;have cR:=bG.2.1;have dy:t<(hn:Int):=by have:=bG.2.2.2.2;have:=(List.getElem?_eq_some_iff.1 bG.2.2.1).1;omega
  obtain⟨be,am,aH⟩:=(ay.2.2.1.aj ag).two;obtain⟨d0,aP,aQ⟩:=(ay.2.2.2.1.aj ag).two;have b6:=ag.size;clear cd ag;go_wp2_with(fail);refine(fj s bE TA HA bM br tn tc hn hc aO cL.at_ aV.sm).mono ?_;rintro e b4 ⟨a4,aW,aX,S,bc,aZ,xs,aq,ar,bN,bR,rfl,b1,bq,aG⟩;have bI:=aL b1 bq aG;have cx:=aG.size;clear b1 bq aG be am aH d0 aP aQ;go_upto_region 7 with(fail);generalize hV:World.alloc _ _=V;have bg:=bm hV;have bK:=aU hV;have hOut:dd aO.heap.size V s b4.heap.size ⟨a4,bM,aW,aX,tn,S,bc,hn,aZ⟩ xs aq ar bN bR:=
   ⟨bI.1.al λb O=>bg.block b (bI.2.1 b O).2 λh=>h,bK,λO=>by have:=(bI.2.1 _ O).2;omega,λb O=>⟨(bI.2.1 b O).1,by have:=(bI.2.1 b O).2;have:=bg.size;omega⟩,cx⟩
  have cg:Ext aO V:=bI.2.2.trans bg;obtain⟨cX,c1,i2,cZ,cY,dc,c4,c0,bS,cD,ap⟩:=hOut.top bG.2.2.1 bG.2.1 bG.1 bG.2.2.2.1;have ce:=aL cD ap cg;obtain⟨e0,bn,a0⟩:=hOut.o.two;clear hV bg bK hOut cg cD ap c0 bS;go_wp2_with(fail);refine(ce.1 V IK).mono ?_;rintro e eG ⟨rfl,aS⟩;have aF:=ae (ce.2.1 eG aS);have cv:=ae (ce.2.2.trans aS);clear e0 bn a0 aS;have b0:=aF.c1;have g2:=aF.fz;have cB:=aF.lt;have cQ:=b9.2.2.2.2.2;go_upto_region 8 with(fail);generalize hX:World.setCell _ _ _=X;have cN:qU aO.heap.size X {s with threads:=s.threads.set t.toNat (fs++[next f])} b4.heap.size ⟨a4,bM,aW,aX,tn,S,bc,hn,aZ⟩ xs aq ar bN bR t fs (next f) cX c1 i2 cZ cY dc c4:=hX▸aF.Gm bG.2.2.1 (f.pc+1);have bT:=cT hX;have dj:=aF.ge;have z:Ext aO X:=Fr.low (M:=λb=>b=cX) (Fr.trans (Fr.mono cv.o λ_ h=>h.elim) bT) λb O=>ad;have bO:=bh.trans z;have aA:=aL cN.oz z bO;obtain⟨aI,aj,af⟩:=(ay.2.1.aj bO).two;obtain⟨d0,aP,aQ⟩:=(ay.2.2.2.1.aj bO).two;clear hX cN bT z bO b0 g2 cB aF;go_wp2_with(fail);have ds:=(bs.1.al (ab:=X) λb O=>aA.2.1.block b O.2 λh=>h).mono (bW:=av X) λb O=>Hy O.2 aA.2.1.size;have bw:=(bs.2.1.al (ab:=X) λb O=>aA.2.1.block b O.2 λh=>h).mono (bW:=av X) λb O=>Hy O.2 aA.2.1.size;have cP:=b2.2.2.1;have bu:=b2.2.2.2;refine(mframe u x.target dU dN bi IA bo dB ci nl cl X ⟨GA,gn,gc,MA,mn,mc,PA,pn,pc⟩ (ay.2.2.2.2.2.1.on aA.2.2) b9.1 b9.2.1 (mI b9.2.2.1 b9.2.2.2.2.1.ints) b9.2.2.2.2.1.ints.2.2 (aC aV.kl) ds bw).mono ?_;rintro e cG ⟨FA,dE,bf,dC,fl,cU,rfl,bX,cj⟩
  generalize bj:dv u x.target dN bi=i at *;have da:=ae bj;have dz:=ai bX cj;clear bj ds bw cP bu bX cj aI aj af d0 aP aQ;go_upto_region 9 with(fail);generalize ca:World.alloc _ _=Y;have bt:=bm ca;have bk:=aU ca;have b5:Ext X Y:=dz.2.trans bt;have aM:=aA.2.2.trans b5;have l:=aA.1.aj b5;have P:(gb i).rep Y (fresh X cG) [.int .i64 i.proc,.int .i64 i.pc,.slice FA dE bf,.slice dC fl cU]:=D.aT (λb O=>bt.block b O.2 λh=>h) _ _ dz.1;have gq:=dz.2.size;have dZ:=bt.size;have dX:=aA.1.o.lt;have dx:=aA.2.1.size;have dw:∀b,fresh X cG b->aO.heap.size<=b/\b<Y.heap.size/\b≠b4.heap.size/\b∉aq++(ar++(bN++bR)):=λb O=>⟨by have:=O.1;omega,by have:=O.2;omega,by have:=O.1;omega,λhm=>by have:=(aA.1.lo b hm).2;have:=O.1;omega⟩
  have bY:=bF l aM P dw;obtain⟨d0,aP,aQ⟩:=(ay.2.2.2.1.aj aM).two;obtain⟨e0,bn,a0⟩:=l.o.two;obtain⟨f0,c6,e1⟩:=bk.two;clear ca bt bk b5 aM l P dw ce cv bI;obtain⟨O,b3,fc,cA,mQ,Q,dR,dQ,T,d3,co,bU,dK,ct,ha,de,a3,I,di⟩:=bY.1.push (k:=t.toNat) (fs:=fs) (f:=next f) (by have al:=(List.getElem?_eq_some_iff.1 bG.2.2.1).1;simp[al]);simp only at mQ;subst mQ;obtain⟨dh,dD⟩:=aN di I;have dO:=bG.2.2.2.1;have d2:=(aA.1.lo b3 dQ).2;have d4:=(aA.1.lo O dR).2;have d5:cG.heap.size≠b3:=ad;have dG:b4.heap.size≠b3:=Ne.symm ha;clear di I dR dQ;go_upto_region 11 with(fail);refine eB (λb=>b=b3) [(0,3),(1,0),(2,3),(3,3),(4,0),(5,3),(6,3),(7,3),(8,0),(9,0),(10,1),(11,1),(12,3),(13,3),(14,2)] ?_;refine pf ?_;refine m0 ?_
  iterate 2 refine pf ?_
  refine m0 ?_
  iterate 3 refine pf ?_
  iterate 2 refine m0 ?_
  refine p2 ?_;refine lH (λV=>Ext Y V/\an V Y.heap.size 139 #[.int .i64 i.proc,.int .i64 i.pc,.slice FA dE bf,.slice dC fl cU]/\V.heap.size=Y.heap.size+1) ⟨by first|exact((Fr.refl _ Y).drew).alloc _|exact((Fr.refl _ Y).alloc _).drew,by first|exact IL|exact an.new Y.drew _ _,by simp⟩ (λU hU=>?_);have bv:=ae hU;clear hU;refine aD rfl (λK hK=>?_);rw[if_pos (by rfl)];refine wM Ee (.tmp 80) (.tmp 82) rfl (dD.aj bv.1) bv.2.1 rfl rfl rfl (by simp[Value.oneCell']) ad ad ?_;intro A2 c2 cz b0 g2 cB;have cJ:Fr (λb=>b=b3) U cz:=g2.mono λb O=>ID.1 O;refine dA hK (cJ) ?_;clear hK K;have c3:Fr (λb=>b=b3) Y cz:=Fr.trans (bv.1.mono λ_ h=>h.elim) cJ;have cH:=aL b0 c3 (λb O=>(cB b O).imp (λh=>ID.1 h) (λh=>(⟨by have:=bv.2.2;omega,h.2⟩:Y.heap.size<=b/\b<cz.heap.size)));have R:=(c3.cell (j:=t.toNat) T dK).trans a3;have a5:∀j,cz.frozen? ⟨O,j,none⟩=false:=λj=>(c3.frozen T dK).trans (de j);have dr:=c3.size;clear b0 g2 cB cJ c3 a3 de e0 bn a0 f0 c6 e1 d0 aP aQ;have d1:O<cz.heap.size:=ad
  iterate 2 refine pf ?_
  exact fO
 ):p:=h
theorem jr(h:p:=by
 obtain⟨eo,en,es,EA,em,ec,QA,qm,qc,db,j,cW,KA,c5,kc⟩:=v;obtain⟨_,_,df,dU,dH,dT,dF,dp⟩:=h.args ch;have c9:hn=s.threads.length:=by have:=hs.at_.h.1;simpa using this.symm
 have dm:hn<=1000:=by have:=h.sm.h;omega
 have cS:=h.pc;have a1:=ae (Hd (u:=u) (s:=s) (t:=t) (f:=f) (x:=x) ch);have aV:=ae h;have bG:=cK bx cR bp b7 c9;have b9:=eU df dH dT dF dp cS;have ce:=aL hu hs bC;clear h bx cR cr bp b7 c9 df dH dT dF dp cS hu hs bC;dsimp only[UV.val,SV.val,IV.val];go_enter func71,ntmps71;exact yO
 ):p:=h
end z8
open z8 in
theorem F1(u:ax)(s:ah)(t:Int)(f:ao)(ck:c7)(x:az)(N:Nat)(w:World)(p:UV)(q:SV)(v:IV)(h:lS u s t f ck x N)(ch:x.op=2\/x.op=3)(hu:p.Ok w u)(hs:q.Ok w s)(bC:v.Ok w x) :
  Calls prog 71 #[.agg (p.val u),.agg (q.val s),.int .i64 t,.agg (v.val x)] w (dP mF w (cq u s t f x).1 (cq u s t f x).2):=by
 obtain⟨bx,cR,cr,fs,bp,b7⟩:=h.th;exact jq
theorem aV.tok{N:Nat}(h:aV u N s)(hN:N<=100000):Fl u.af s.table:=by
 refine⟨h.table,λx hx=>?_⟩;obtain⟨i,ak⟩:=List.getElem?_of_mem hx;have aG:=h.holds i x ak;have:=aG.owner;have:=aG.depth;have:=h.xE;omega
theorem dd.Gp{B:Nat}{w X:World}{s:ah}{G:Nat}{q:SV}{xs:List Value}{aq ar bN bR:List Nat}(h:dd B w s G q xs aq ar bN bR){T:List cQ}{aX:IP}{m S:Nat}(a5:w.ownsRow 0 137 2 (.slice aX m S) m (T.flatMap ca))(hl:m=T.length)
  (hd:∀b∈bt aX m S,b∉aq++(ar++(bN++bR))/\b≠G/\B<=b) (hX:w.setCell ⟨G,1,none⟩ (.slice aX m S)=X):dd B X {s with table:=T} G ⟨q.GA,q.gn,q.gc,aX,m,S,q.HA,q.hn,q.hc⟩ xs aq (bt aX m S) bN bR:=by
 have ac:=h.st.Gp a5 hl λb O=>(hd b O).1;have al:∀b∈bt aX m S,b<w.heap.size:=λb O=>(a5.lt b (by simpa using O)).2;have dg:∀b,b∈aq++(bt aX m S++(bN++bR))->B<=b/\b<w.heap.size/\b≠G:=λb O=>by
  simp only[Ii] at O;have aG:∀b,b∈aq++(ar++(bN++bR))->B<=b/\b<w.heap.size/\b≠G:=λb O=>⟨(h.lo b O).1,(h.lo b O).2,λhe=>h.ne (he▸O)⟩
  rcases O with O|O|O|O
  .exact aG b (by simp[O])
  .exact⟨(hd b O).2.2,al b O,(hd b O).2.1⟩
  .exact aG b (by simp[O])
  .exact aG b (by simp[O])
 subst hX;refine⟨ac.al λb O=>aP (dg b O).2.2,?_,λaM=>(dg G aM).2.2 rfl,λb O=>⟨(dg b O).1,by simpa[World.setCell] using (dg b O).2.1⟩,h.go⟩;exact h.o.aI 1 _
structure Hc(u:ax)(s:ah)(t:Int)(f:ao)(x:az)(r:Int×Int):Prop where
 bad:r.2≠0->cq u s t f x=({s with fault:=r.2},true)
 lf:r.2=0->x.op=4->free u.af s.table r.1 t=true->cq u s t f x=({bf s t (next f) with table:=g9 u.af s.table r.1 t},true)
 ln:r.2=0->x.op=4->free u.af s.table r.1 t=false->cq u s t f x=(s,false)
 uf:r.2=0->x.op=5->heldBy u.af s.table r.1 t=true->cq u s t f x=({bf s t (next f) with table:=dE u.af s.table r.1 t},true)
 un:r.2=0->x.op=5->heldBy u.af s.table r.1 t=false->cq u s t f x=({s with fault:=3},true)
theorem Hf(ch:x.op=4\/x.op=5):Hc u s t f x (bj u s f x.place):=by
 have h0:cq u s t f x=(if (bj u s f x.place).2≠0 then ({s with fault:=(bj u s f x.place).2},true)
  else if x.op=4 then (if free u.af s.table (bj u s f x.place).1 t then ({bf s t (next f) with table:=g9 u.af s.table (bj u s f x.place).1 t},true) else (s,false))
  else (if heldBy u.af s.table (bj u s f x.place).1 t then ({bf s t (next f) with table:=dE u.af s.table (bj u s f x.place).1 t},true) else ({s with fault:=3},true))):=by
  unfold cq;rw[if_neg ad,if_neg ad,if_pos ch]
 generalize bj u s f x.place=r at *;refine⟨λh=>?_,λh ac J=>?_,λh ac J=>?_,λh ac J=>?_,λh ac J=>?_⟩
 .rw[h0,if_pos h]
 .rw[h0,if_neg ad,if_pos ac,if_pos J]
 .rw[h0,if_neg ad,if_pos ac,if_neg (by simp[J])]
 .rw[h0,if_neg ad,if_neg ad,if_pos J]
 .rw[h0,if_neg ad,if_neg ad,if_neg (by simp[J])]
namespace z9
theorem yA(h:p:=by
 obtain⟨bB,bl,a6⟩:=cO (w:=w) [.slice a4 cu aW,.slice aX m S,.slice bc bA aZ,.int .i64 z] (by rfl) a8.1 a8.2 ad hX;have i:=ai bl a6;clear hX bl a6 bD aK a9;obtain⟨bD,aK,a9⟩:=bB.two;refine IJ (v:=.tuple #[.agg #[.slice a4 cu aW,.slice aX m S,.slice bc bA aZ,.int .i64 z],.bool true]) (by simp[results,Tryz.results72,go_sem,bD]) rfl ?_;rw[bV.o];show dP mF w {s with fault:=z} true _ _
 exact dY (bP:={s with fault:=z}) (q:=⟨a4,cu,aW,aX,m,S,bc,bA,aZ⟩) cI.o i.2 (λb O=>ad) ad i.1
 ):p:=h
theorem yP(h:p:=by
 refine(lD u s t f x.place N W ⟨GA,gn,gc,MA,mn,mc,PA,pn,pc⟩ ⟨bE,bM,br,TA,tn,tc,HA,hn,hc⟩ QA qm qc ⟨aV.hU.ok,aV.hS,aV.sm,aV.ht,⟨ck,aV.hp,b9.1⟩,ay.2.2.2.2.2.1,ay.2.2.2.2.2.2.1,ay.2.2.2.2.2.2.2.place⟩).mono ?_;rintro e aO ⟨rfl,bo⟩;rw[js aV.ht];have ag:Ext W aO:=Fr.of bo;have b2:=b9.2.2.2;generalize bj u s f x.place=R at *;obtain⟨aa,z⟩:=R;have Q:=ae b2;clear b2 bo aI aj af be am aH d0 aP aQ;have cE:=ay.1.size;have du:=ay.2.2.2.2.1.lt;have bh:=ae ag;have b6:=ag.size;obtain⟨aI,aj,af⟩:=(ay.2.1.aj ag).two;obtain⟨be,am,aH⟩:=(ay.2.2.1.aj ag).two;obtain⟨d0,aP,aQ⟩:=(ay.2.2.2.1.aj ag).two;clear ag;by_cases bi:z=0
 case neg=>
  have bV:=ae (l.bad bi);have q1:(z != 0)=true:=by simpa using bi
  clear bi l Q;go_wp2_with(fail);refine(kM s ⟨bE,bM,br,TA,tn,tc,HA,hn,hc⟩ z aO (ay.2.2.2.2.2.2.1.on bh.o) aV.sm).mono ?_;exact yz
 have q1:(z != 0)=false:=by simpa using bi
 have U:=Q.2 bi;have au:=lv aV.hU.ok;have aC:aa<=5000:=by simp only at U;omega
 have a2:=ae bi;clear bi U au;by_cases bv:x.op=4
 .have c8:(x.op == 4)=true:=by simpa using bv
  have cA:(x.op == 5)=false:=by simp;omega
  have bZ:=ae (l.lf a2.o bv);have bs:=ae (l.ln a2.o bv);clear bv l;go_wp2_with(fail);refine(Bt MA TA mn mc tn tc u.af s.table aa t aO (ay.2.2.2.2.2.1.on bh.o).at_.m.uA aV.hU.ok.Ej (ay.2.2.2.2.2.2.1.on bh.o).at_.t.holds b9.2.1 ad ad).mono ?_;intro e aT bQ;obtain⟨aE,L,rfl,aD,b8,I,bw⟩:=bQ.open_ (n:=tn) (by rw[hg];exact bG.2.2.2.2.symm);have k:tn=(g9 u.af s.table aa t).length:=by rw[hg];exact bG.2.2.2.2
  have bX:=ai I k;have a3:=ae (show Ext W aT from bh.trans (Fr.of bw));have bz:=bw.size;generalize a5:g9 u.af s.table aa t=T at *;clear bQ b8 I bw k a5 aI aj af be am aH d0 aP aQ;obtain⟨be,am,aH⟩:=(ay.2.2.1.aj a3.o).two;obtain⟨d0,aP,aQ⟩:=(ay.2.2.2.1.aj a3.o).two
  cases a1:free u.af s.table aa t with
  | true=>
   exact DG
  | false=>
   have bV:=ae (bs.o a1);clear bZ bs;go_wp2_with(fail);refine(rp s ⟨bE,bM,br,TA,tn,tc,HA,hn,hc⟩ aT (ay.2.2.2.2.2.2.1.on a3.o) aV.sm).mono ?_;rintro e b4 ⟨⟨a4,cu,aW,aX,m,S,bc,bA,aZ⟩,rfl,cc,aG⟩;have cI:=ae cc;have cp:=(ay.2.2.2.2.1.aj a3.o).aj aG;have a8:=ai cp ((ay.1.trans a3.o).trans aG);clear cc aG be am aH d0 aP aQ;obtain⟨bD,aK,a9⟩:=cp.two;clear cp;go_wp2_with(fail);generalize hX:World.setCell _ _ _=Z;obtain⟨bB,bl,a6⟩:=cO (w:=w) [.slice a4 cu aW,.slice aX m S,.slice bc bA aZ,.int .i64 s.fault] (by rfl) a8.1 a8.2 ad hX;have i:=ai bl a6;clear hX bl a6 bD aK a9;obtain⟨bD,aK,a9⟩:=bB.two;refine IJ (v:=.tuple #[.agg #[.slice a4 cu aW,.slice aX m S,.slice bc bA aZ,.int .i64 s.fault],.bool false]) (by simp[results,Tryz.results72,go_sem,bD]) rfl ?_;rw[bV.o];show dP mF w s false _ _
   exact dY (bP:=s) (q:=⟨a4,cu,aW,aX,m,S,bc,bA,aZ⟩) (cI.mono λb O=>.inr O) i.2 (λb O=>ad) ad i.1
 .have ct:x.op=5:=ad;have c8:(x.op == 4)=false:=by simpa using bv
  have cA:(x.op == 5)=true:=by simpa using ct
  have bZ:=ae (l.uf a2.o ct);have bs:=ae (l.un a2.o ct);clear bv ct l;go_wp2_with(fail);refine(vn MA TA mn mc tn tc u.af s.table aa t aO aV.hU.ok.Ej (ay.2.2.2.2.2.2.1.on bh.o).at_.t.holds b9.2.1 ad).mono ?_;intro e aT bQ;obtain⟨aE,L,rfl,aD,b8,I,bw⟩:=bQ.open_ (n:=tn) (by rw[fX];exact bG.2.2.2.2.symm);have k:tn=(dE u.af s.table aa t).length:=by rw[fX];exact bG.2.2.2.2
  have bX:=ai I k;have a3:=ae (show Ext W aT from bh.trans (Fr.of bw));have bz:=bw.size;generalize a5:dE u.af s.table aa t=T at *;clear bQ b8 I bw k a5 aI aj af be am aH d0 aP aQ;obtain⟨be,am,aH⟩:=(ay.2.2.1.aj a3.o).two;obtain⟨d0,aP,aQ⟩:=(ay.2.2.2.1.aj a3.o).two
  cases a1:heldBy u.af s.table aa t with
  | true=>
   exact DG
  | false=>
   have bV:=ae (bs.o a1);clear bZ bs;go_wp2_with(fail);refine(kM s ⟨bE,bM,br,TA,tn,tc,HA,hn,hc⟩ 3 aT (ay.2.2.2.2.2.2.1.on a3.o) aV.sm).mono ?_;rintro e b4 ⟨⟨a4,cu,aW,aX,m,S,bc,bA,aZ⟩,rfl,cc,aG⟩;have cI:=ae cc;have cp:=(ay.2.2.2.2.1.aj a3.o).aj aG;have a8:=ai cp ((ay.1.trans a3.o).trans aG);clear cc aG be am aH d0 aP aQ;obtain⟨bD,aK,a9⟩:=cp.two;clear cp;go_wp2_with(fail);generalize hX:World.setCell _ _ _=Z;obtain⟨bB,bl,a6⟩:=cO (w:=w) [.slice a4 cu aW,.slice aX m S,.slice bc bA aZ,.int .i64 3] (by rfl) a8.1 a8.2 ad hX;have i:=ai bl a6;clear hX bl a6 bD aK a9;obtain⟨bD,aK,a9⟩:=bB.two;refine IJ (v:=.tuple #[.agg #[.slice a4 cu aW,.slice aX m S,.slice bc bA aZ,.int .i64 3],.bool true]) (by simp[results,Tryz.results72,go_sem,bD]) rfl ?_;rw[bV.o];show dP mF w {s with fault:=3} true _ _
   exact dY (bP:={s with fault:=3}) (q:=⟨a4,cu,aW,aX,m,S,bc,bA,aZ⟩) cI.o i.2 (λb O=>ad) ad i.1
 ):p:=h
theorem jr(h:p:=by
 obtain⟨eo,en,es,EA,em,ec,QA,qm,qc,db,j,cW,KA,c5,kc⟩:=v;have b3:cP (bk u) ck.locals ck.aw x.place:=by
  obtain⟨len,_,ak⟩:=h.ok;exact Ec
 have aA:tn=s.table.length:=by have:=hs.at_.t.1;simpa using this.symm
 have K:=h.hS.xE;have cj:t<=1000:=ad;have c6:=h.hS.tok hN;have b2:=iP (s:=s) (nl:=ck.locals) (nk:=f.aw.length) h.hU.ok h.hF (Int.le_refl _) (by rw[h.hF.rn h.hp];exact b3);have cS:=h.pc;have l:=ae (Hf (u:=u) (s:=s) (t:=t) (f:=f) (x:=x) ch);have aV:=ae h;have bG:=cK bx cR bp b7 aA;have b9:=bF b3 c6 cS b2;have ce:=aL hu hs bC;clear h bx cR cr bp b7 aA b3 c6 b2 cS K hu hs bC;dsimp only[UV.val,SV.val,IV.val];go_enter func72,ntmps72;exact yO
 ):p:=h
end z9
open z9 in
theorem F3(u:ax)(s:ah)(t:Int)(f:ao)(ck:c7)(x:az)(N:Nat)(w:World)(p:UV)(q:SV)(v:IV)(h:lS u s t f ck x N)(hN:N<=100000)(ch:x.op=4\/x.op=5)(hu:p.Ok w u)(hs:q.Ok w s)(bC:v.Ok w x) :
  Calls prog 72 #[.agg (p.val u),.agg (q.val s),.int .i64 t,.agg (v.val x)] w (dP mF w (cq u s t f x).1 (cq u s t f x).2):=by
 obtain⟨bx,cR,cr,fs,bp,b7⟩:=h.th;exact jq
theorem dd.pop{G:Nat}{q:SV}{xs:List Value}{aq ar bN bR:List Nat}(h:dd B w s G q xs aq ar bN bR){k:Nat}(bp:s.threads[k]?=some (fs++[f])):
  ∃O b3 fc,q.HA=some ⟨O,0,none⟩/\k<q.hn/\O<w.heap.size/\O≠G/\B<=O/\(∀j,w.frozen? ⟨O,j,none⟩=false)/\w.cell? ⟨O,k,none⟩=some (.slice (some ⟨b3,0,none⟩) (fs.length+1) fc)/\fs.length+1<=fc/\
   ∀X,w.setCell ⟨O,k,none⟩ (.slice (some ⟨b3,0,none⟩) fs.length fc)=X->∃e d,dd B X {s with threads:=s.threads.set k fs} G q e aq ar bN d:=by
 obtain⟨O,b3,fc,IA,i,ic,bo,l,lc,mQ,Q,T,b7,bq,v,ak,hl,hc,az,c0,c1,c2,c3,bS,a,cS,hints,z⟩:=h.st.top bp;have ca:O∈aq++(ar++(bN++bR)):=by simp[bq]
 refine⟨O,b3,fc,mQ,Q,T,λhe=>h.ne (he▸ca),(h.lo _ ca).1,bS,hc,az,λX hX=>?_⟩;obtain⟨e,d,b1,M⟩:=z;subst hX;have c:∀b,b∈aq++(ar++(bN++d))->b∈aq++(ar++(bN++bR)):=λb O=>by
  simp only[Ii] at O ⊢;rcases O with O|O|O|O
  .exact .inl O
  .exact .inr (.inl O)
  .exact .inr (.inr (.inl O))
  .exact .inr (.inr (.inr (M b O)))
 exact⟨e,d,b1,h.o.GH (λhe=>h.ne (he▸ca)) _,λaM=>h.ne (c _ aM),λb O=>⟨(h.lo b (c b O)).1,by simpa[World.setCell] using (h.lo b (c b O)).2⟩,h.go⟩
theorem dd.drew{B:Nat}{w:World}{s:ah}{G:Nat}{q:SV}{xs:List Value}{aq ar bN bR:List Nat}(h:dd B w s G q xs aq ar bN bR):dd B w.drew s G q xs aq ar bN bR:=h.aj IK.drew
theorem C9(h:s.threads[t.toNat]?=some (fs++[f])):sM s t={s with threads:=s.threads.set t.toNat fs}:=by
 unfold sM;rw[kN h,j5]
theorem uY(h:dt s t=some f)(hx:dx u s t=some x):bs u s t=cq u s t f x:=by
 unfold bs;rw[h,hx]
theorem uX(h:dt s t=none):bs u s t=(s,false):=by
 unfold bs;rw[h]
theorem Dq(h:x.op=7):cq u s t f x=(bf s t {f with pc:=x.target},true):=by
 unfold cq;rw[if_neg ad,if_neg ad,if_neg ad,if_pos h]
theorem Dr(h:x.op=8):cq u s t f x=(sM s t,true):=by
 unfold cq;rw[if_neg ad,if_neg ad,if_neg ad,if_neg ad]
namespace Aa
theorem fP(h:p:=by
 generalize hX:World.setCell _ _ _=Y;have l:dd V.heap.size Y {s with threads:=s.threads.set t.toNat (fs++[{f with pc:=x.target}])} b4.heap.size ⟨L,bM,aW,y,tn,S,a7,hn,aZ⟩ xs aq ar bN bR:=hX▸aF.pc x.target;have P:=cT hX;have dj:=aF.ge;have aM:Ext W Y:=Fr.low (M:=λb=>b=cX) (Fr.trans (Fr.mono cv.o λ_ h=>h.elim) P) λb O=>ad;have J:=ae l;clear hX l P b0 g2 cB aF;have a8:=ai (ay.2.2.2.1.aj aM) (ay.1.trans aM);obtain⟨bD,aK,a9⟩:=a8.1.two;obtain⟨e0,bn,a0⟩:=J.o.o.two;clear aM;go_wp2_with(fail);generalize hX:World.setCell _ _ _=Z;obtain⟨bB,bl,a6⟩:=cO (w:=w) [.slice L bM aW,.slice y tn S,.slice a7 hn aZ,.int .i64 s.fault] (by rfl) a8.1 a8.2 ad hX;have a2:=ai bl a6;clear hX bl a6 bD aK a9 e0 bn a0;obtain⟨bD,aK,a9⟩:=bB.two;refine IJ (v:=.tuple #[.agg #[.slice L bM aW,.slice y tn S,.slice a7 hn aZ,.int .i64 s.fault],.bool true]) (by simp[results,Tryz.results45,go_sem,bD]) rfl ?_;rw[bV.o];show dP mF w (bf s t {f with pc:=x.target}) true _ _
 exact gB (bP:=bf s t {f with pc:=x.target}) (q:=⟨L,bM,aW,y,tn,S,a7,hn,aZ⟩) J.o a2.2 (λb O=>ad) ad a2.1 (by rw[fG bG.2.1])
 ):p:=h
theorem y1(h:p:=by
 have cG:=bg.size;have bj:=G.lt;have aE:=ae bg;have aT:=ae (H.1.on r);obtain⟨aI,aj,af⟩:=(ay.2.1.aj bg).two;obtain⟨be,am,aH⟩:=(ay.2.2.1.aj bg).two;obtain⟨d0,aP,aQ⟩:=G.two;have aA:=ae G;clear hV bg r G H;have aJ:w.heap.size+2<V.heap.size:=ad;rcases aY.o with h|h|h|h|h|h|h|h
 all_goals
  first
   | have q1:(x.op == 1)=true:=by simpa using h
   | have q1:(x.op == 1)=false:=by simp;omega
  first
   | have dq:(x.op == 2)=true:=by simpa using h
   | have dq:(x.op == 2)=false:=by simp;omega
  first
   | have dg:(x.op == 3)=true:=by simpa using h
   | have dg:(x.op == 3)=false:=by simp;omega
  first
   | have c8:(x.op == 4)=true:=by simpa using h
   | have c8:(x.op == 4)=false:=by simp;omega
  first
   | have cA:(x.op == 5)=true:=by simpa using h
   | have cA:(x.op == 5)=false:=by simp;omega
  first
   | have dh:(x.op == 6)=true:=by simpa using h
   | have dh:(x.op == 6)=false:=by simp;omega
  first
   | have bU:(x.op == 7)=true:=by simpa using h
   | have bU:(x.op == 7)=false:=by simp;omega
  first
   | have cC:(x.op == 8)=true:=by simpa using h
   | have cC:(x.op == 8)=false:=by simp;omega
 iterate 6
  ·
   have aX:=ae h;clear h;go_wp2_with(fail)
   first
    | refine(uz u s t f ck x N V ⟨bE,bM,br,TA,tn,tc,bc,hn,hc⟩ ⟨eo,en,es,EA,em,ec,QA,qm,qc,db,j,cW,KA,c5,kc⟩ i.o (aC aX.o) (ay.2.2.2.2.2.on aE.o) aT.o).mono ?_
    | refine(F1 u s t f ck x N V ⟨GA,gn,gc,MA,mn,mc,PA,pn,pc⟩ ⟨bE,bM,br,TA,tn,tc,bc,hn,hc⟩ ⟨eo,en,es,EA,em,ec,QA,qm,qc,db,j,cW,KA,c5,kc⟩ i.o (aC aX.o) (ay.2.2.2.2.1.on aE.o) (ay.2.2.2.2.2.on aE.o) aT.o).mono ?_
    | refine(F3 u s t f ck x N V ⟨GA,gn,gc,MA,mn,mc,PA,pn,pc⟩ ⟨bE,bM,br,TA,tn,tc,bc,hn,hc⟩ ⟨eo,en,es,EA,em,ec,QA,qm,qc,db,j,cW,KA,c5,kc⟩ i.o hN (aC aX.o) (ay.2.2.2.2.1.on aE.o) (ay.2.2.2.2.2.on aE.o) aT.o).mono ?_
   have aN:=ae a5.o;generalize cq u s t f x=bd at *;obtain⟨bP,b⟩:=bd;rintro e b4 ⟨⟨L,cu,aW,y,m,S,a7,bA,aZ⟩,rfl,cc,aG⟩;clear aI aj af be am aH d0 aP aQ;have a8:=ai ((ay.2.2.2.1.aj aE.o).aj aG) ((ay.1.trans aE.o).trans aG);have cI:=ae cc;clear cc aG;obtain⟨bD,aK,a9⟩:=a8.1.two;go_wp2_with(fail);generalize hX:World.setCell _ _ _=Z;obtain⟨bB,bl,a6⟩:=cO (w:=w) [.slice L cu aW,.slice y m S,.slice a7 bA aZ,.int .i64 bP.fault] (by rfl) a8.1 a8.2 ad hX;have a2:=ai bl a6;clear hX bl a6 bD aK a9;obtain⟨bD,aK,a9⟩:=bB.two;refine IJ (v:=.tuple #[.agg #[.slice L cu aW,.slice y m S,.slice a7 bA aZ,.int .i64 bP.fault],.bool b]) (by simp[results,Tryz.results45,go_sem,bD]) rfl ?_;rw[aN.o];show dP mF w bP b _ _
   exact dY (bP:=bP) (q:=⟨L,cu,aW,y,m,S,a7,bA,aZ⟩) cI.o a2.2 (λb O=>ad) ad a2.1
 ·
  have bV:=ae (a5.trans (Dq h));clear h;go_wp2_with(fail);refine(fj s bE TA bc bM br tn tc hn hc V (ay.2.2.2.2.2.on aE.o).at_ HA.2.2).mono ?_;rintro e b4 ⟨L,aW,y,S,a7,aZ,xs,aq,ar,bN,bR,rfl,b1,bq,aG⟩;have bI:=aL b1 bq aG;have cx:=aG.size;clear b1 bq aG be am aH aI aj af d0 aP aQ;go_upto_region 15 with(fail);generalize hU:World.alloc _ _=U;have ab:=bm hU;have aR:=aU hU;have hOut:dd V.heap.size U s b4.heap.size ⟨L,bM,aW,y,tn,S,a7,hn,aZ⟩ xs aq ar bN bR:=
   ⟨bI.1.al λb O=>ab.block b (bI.2.1 b O).2 λh=>h,aR,λO=>by have:=(bI.2.1 _ O).2;omega,λb O=>⟨(bI.2.1 b O).1,by have:=(bI.2.1 b O).2;have:=ab.size;omega⟩,cx⟩
  have n:Ext V U:=bI.2.2.trans ab;have I:=aE.trans n;obtain⟨bx,cR,cr,fs,bp,b7⟩:=i.th;have c9:hn=s.threads.length:=by have:=ay.2.2.2.2.2.at_.h.1;simpa using this.symm
  have dy:t<(hn:Int):=ad;have bG:=aL bx bp b7;have bv:=aL hOut I n;obtain⟨e0,bn,a0⟩:=hOut.o.two;clear hU ab aR hOut n I bx cr bp b7 c9;obtain⟨cX,c1,i2,cZ,cY,dc,c4,c0,bS,cD,ap⟩:=bv.1.top bG.2.1 cR bG.1 bG.2.2;have bX:=ai cD ap;obtain⟨d0,aP,aQ⟩:=(show an U aO.heap.size 133 _ from aA.aj bv.2.2).two;clear cD ap c0 bS;go_upto_region 16 with(fail);refine eB (λ_=>False) [(0,0),(1,3),(3,3),(4,0),(2,1),(5,3),(6,3),(7,2)] ?_;refine ph ?_
  iterate 2 refine pf ?_
  refine ph ?_;refine aD rfl (λK hK=>?_);go_simp;refine(bX.1 U.drew IK.drew).mono ?_;rintro e eG ⟨rfl,aS⟩;have aF:=ae (bX.2 eG (Fr.aJ aS));have cv:=ae (bv.2.1.trans (Fr.aJ aS));refine dA hK (aS) ?_;clear hK K;clear aS e0 bn a0 d0 aP aQ
  iterate 2 refine pf ?_
  have b0:=aF.c1;have g2:=aF.fz;have cB:=aF.lt;exact fO
 ·
  have bV:=ae (a5.trans (Dr h));clear h;go_wp2_with(fail);refine(fj s bE TA bc bM br tn tc hn hc V (ay.2.2.2.2.2.on aE.o).at_ HA.2.2).mono ?_;rintro e b4 ⟨L,aW,y,S,a7,aZ,xs,aq,ar,bN,bR,rfl,b1,bq,aG⟩;have bI:=aL b1 bq aG;have cx:=aG.size;clear b1 bq aG be am aH aI aj af d0 aP aQ;go_upto_region 15 with(fail);generalize hU:World.alloc _ _=U;have ab:=bm hU;have aR:=aU hU;have hOut:dd V.heap.size U s b4.heap.size ⟨L,bM,aW,y,tn,S,a7,hn,aZ⟩ xs aq ar bN bR:=
   ⟨bI.1.al λb O=>ab.block b (bI.2.1 b O).2 λh=>h,aR,λO=>by have:=(bI.2.1 _ O).2;omega,λb O=>⟨(bI.2.1 b O).1,by have:=(bI.2.1 b O).2;have:=ab.size;omega⟩,cx⟩
  have n:Ext V U:=bI.2.2.trans ab;have I:=aE.trans n;obtain⟨bx,cR,cr,fs,bp,b7⟩:=i.th;have c9:hn=s.threads.length:=by have:=ay.2.2.2.2.2.at_.h.1;simpa using this.symm
  have dy:t<(hn:Int):=ad;have bG:=aL bx bp b7;have bv:=aL hOut I n;obtain⟨e0,bn,a0⟩:=hOut.o.two;clear hU ab aR hOut n I bx cr bp b7 c9;obtain⟨O,b3,fc,mQ,Q,T,ct,bi,de,a3,az,z⟩:=bv.1.pop bG.2.1;simp only at mQ;subst mQ;have a1:=ae z;have dO:=bG.2.2;obtain⟨d0,aP,aQ⟩:=(show an U aO.heap.size 133 _ from aA.aj bv.2.2).two;clear z;go_upto_region 18 with(fail);refine eB (λ_=>False) [(0,3),(1,0),(2,3),(3,3),(4,3),(5,3),(6,3),(7,3),(8,3),(9,3),(10,2)] ?_;refine pf ?_;refine ph ?_
  iterate 5 refine pf ?_
  rw[show IntKind.i64.wrap ((fs.length:Nat):Int)=(fs.length:Int) from IntWalk.i64_in _ ad];have a4:((fs.length:Nat):Int)<=(fc:Int):=ad
  iterate 3 refine pf ?_
  refine au rfl (λK hK=>?_);go_simp;refine dW hK ?_;clear hK K;refine aB ?_;generalize hX:World.setCell _ _ _=Y;obtain⟨bk,bb,l⟩:=a1.o Y hX;have P:=cT hX;have aM:Ext W Y:=Fr.low (M:=λb=>b=O) (Fr.trans (Fr.mono bv.2.1 λ_ h=>h.elim) P) λb O=>ad;have J:=ae l;clear hX l P e0 bn a0 d0 aP aQ a3 de;have a8:=ai (ay.2.2.2.1.aj aM) (ay.1.trans aM);obtain⟨bD,aK,a9⟩:=a8.1.two;obtain⟨e0,bn,a0⟩:=J.o.o.two;clear aM;go_wp2_with(fail);generalize hX:World.setCell _ _ _=Z;obtain⟨bB,bl,a6⟩:=cO (w:=w) [.slice L bM aW,.slice y tn S,.slice (some ⟨O,0,none⟩) hn aZ,.int .i64 s.fault] (by rfl) a8.1 a8.2 ad hX;have a2:=ai bl a6;clear hX bl a6 bD aK a9 e0 bn a0;obtain⟨bD,aK,a9⟩:=bB.two;refine IJ (v:=.tuple #[.agg #[.slice L bM aW,.slice y tn S,.slice (some ⟨O,0,none⟩) hn aZ,.int .i64 s.fault],.bool true]) (by simp[results,Tryz.results45,go_sem,bD]) rfl ?_;rw[bV.o];show dP mF w (sM s t) true _ _
  exact gB (bP:=sM s t) (q:=⟨L,bM,aW,y,tn,S,(some ⟨O,0,none⟩),hn,aZ⟩) J.o a2.2.drew (λb O=>ad) ad a2.1.drew (by rw[C9 bG.2.1])
 ):p:=h
end Aa
open Aa in
theorem mstep(u:ax)(s:ah)(t:Int)(N:Nat)(w:World)(p:UV)(q:SV)(hU:x0 u)(hS:aV u N s)(hN:N<=100000)(hu:p.Ok w u)(hs:q.Ok w s) :
  Calls prog 45 #[.agg (p.val u),.agg (q.val s),.int .i64 t] w (dP mF w (bs u s t).1 (bs u s t).2):=by
 have HA:=aL hU hS (hS.small hU.ok hN);have ce:=ai hu hs;clear hU hS hu hs;obtain⟨GA,gn,gc,MA,mn,mc,PA,pn,pc⟩:=p;obtain⟨bE,bM,br,TA,tn,tc,bc,hn,hc⟩:=q;dsimp only[UV.val,SV.val];go_enter func45,ntmps45;go_upto_region 1 with(fail);generalize ba:World.alloc _ _=W;have aw:=pT ba;have bO:=lT ba;have bH:=kZ ba;have cy:=nh ba;have ay:=eU aw bO bH cy (ce.1.on aw) (ce.2.on aw);have cE:=aw.size;have du:=cy.lt;obtain⟨aI,aj,af⟩:=bO.two;obtain⟨be,am,aH⟩:=bH.two;clear ba aw bO bH cy ce
 cases htop:dt s t with
 | none=>
  have bV:=ae (uX (u:=u) htop);have ao:=ae htop;clear htop;go_wp2_with(fail);refine(nB u s t W ⟨GA,gn,gc,MA,mn,mc,PA,pn,pc⟩ ⟨bE,bM,br,TA,tn,tc,bc,hn,hc⟩ ay.2.2.2.2.2 ao.o).mono ?_;rintro e aO ⟨rfl,ag⟩;have bh:=ae ag;clear aI aj af be am aH;go_upto_region 2 with(fail);generalize hV:World.alloc _ _=V;have bg:Ext W V:=hV▸ag.alloc _;have cG:=bg.size;obtain⟨be,am,aH⟩:=(ay.2.2.1.aj bg).two;have aE:=ae bg;clear hV bg ag;go_wp2_with(fail);refine(rp s ⟨bE,bM,br,TA,tn,tc,bc,hn,hc⟩ V (ay.2.2.2.2.2.on aE.o) HA.2.2).mono ?_;rintro e b4 ⟨⟨L,cu,aW,y,m,S,a7,bA,aZ⟩,rfl,R,aG⟩;have cc:=R.mono (bW:=λk=>mF k\/(V.heap.size<=k/\k<b4.heap.size)) λb O=>.inr O;clear R be am aH;have a8:=ai ((ay.2.2.2.1.aj aE.o).aj aG) ((ay.1.trans aE.o).trans aG);have cI:=ae cc;clear cc aG;obtain⟨bD,aK,a9⟩:=a8.1.two;go_wp2_with(fail);generalize hX:World.setCell _ _ _=Z;obtain⟨bB,bl,a6⟩:=cO (w:=w) [.slice L cu aW,.slice y m S,.slice a7 bA aZ,.int .i64 s.fault] (by rfl) a8.1 a8.2 ad hX;have a2:=ai bl a6;clear hX bl a6 bD aK a9;obtain⟨bD,aK,a9⟩:=bB.two;refine IJ (v:=.tuple #[.agg #[.slice L cu aW,.slice y m S,.slice a7 bA aZ,.int .i64 s.fault],.bool false]) (by simp[results,Tryz.results45,go_sem,bD]) rfl ?_;rw[bV.o];show dP mF w s false _ _
  exact dY (bP:=s) (q:=⟨L,cu,aW,y,m,S,a7,bA,aZ⟩) cI.o a2.2 (λb O=>ad) ad a2.1
 | some f=>
  obtain⟨ck,x,al,av⟩:=lS.of HA.1 HA.2.1 hN htop;have a5:=ae (uY htop av);have i:=ae al;have aa:x.op=1\/x.op=2\/x.op=3\/x.op=4\/x.op=5\/x.op=6\/x.op=7\/x.op=8:=by
   obtain⟨len,_,ak⟩:=al.ok;rcases ak with⟨ac,_⟩|⟨ac,_⟩|⟨ac,_⟩|⟨ac,_⟩|⟨ac,_⟩|⟨ac,_⟩<;>omega
  have aY:=ae aa;clear htop av al aa;go_wp2_with(fail);refine(nC u s t f ck x W ⟨GA,gn,gc,MA,mn,mc,PA,pn,pc⟩ ⟨bE,bM,br,TA,tn,tc,bc,hn,hc⟩ ⟨i.sm,i.ht,i.hp,i.hx,i.hF.proc,i.pc.1,i.il,i.kl,ay.2.2.2.2.1,ay.2.2.2.2.2⟩).mono ?_;exact y0
def FC(P:Nat->Prop)(w:World)(s:ah)(e:Ending)(ab:World):Prop:=∃q:SV,e=.returned (.agg (q.val s))/\q.Is ab (λk=>P k\/(w.heap.size<=k/\k<ab.heap.size)) s/\Ext w ab
theorem C1(u:ax):dO u=⟨u.globals,List.replicate (own u.af).length ⟨0,0⟩,[[dv u u.main [] []]],0⟩:=rfl
theorem cJ.below{α:Type}{f:α->List Value}{sz:Nat}{ab:World}{n:Nat}{A:IP}{l:List α}(h:cJ (EF f) sz w B A n l)(ap:∀b,b<B->ab.heap[b]?=w.heap[b]?):cJ (EF f) sz ab B A n l:=by
 refine⟨h.1,λhn=>?_⟩;obtain⟨b,o,bj,O,hc⟩:=h.2 hn;refine⟨b,o,bj,O,λk x hx=>?_⟩;obtain⟨cs,he,hl,a1⟩:=hc k x hx;exact⟨cs,he,hl,λj v bC=>(World.cell?_of_block (w:=w) (ap b O)).trans (a1 j v bC)⟩
theorem C3(A:IP)(n c:Nat)(X:List bJ)(w:World)(h:cJ (EF iM) 3 w w.heap.size A n X)(hX:rY X) :
  Calls prog 43 #[.slice A n c] w λr ab=>∃aE L,r=.returned (.slice aE (own X).length L)/\ab.ownsRow w.heap.size 137 2 (.slice aE (own X).length L) (own X).length ((List.replicate (own X).length ⟨0,0⟩).flatMap ca)/\Below w.heap.size w ab:=by
 go_enter func43,ntmps43;go_wp2_with(fail);refine(l1 A n c X w h hX).mono ?_;rintro e aO ⟨rfl,O⟩;have P:=fv X;have a:=eZ hX;generalize hN:(own X).length=N at *;rw[<-P];clear P;have el:=λW=>run_mk vT .i64 .i64 N ad ad W;go_wp2;go_ret;have cb:=O.size;have I:=E6 (e:=137) (f:=ca) (x:=⟨0,0⟩) (zc:=#[.int .i64 0,.int .i64 0]) (sz:=2) rfl rfl ad N ad (w:=aO) (base:=w.heap.size) cb;rw[hN];exact⟨_,_,rfl,I,O.alloc cb _⟩
namespace Ab
theorem fP(h:p:=by
 generalize hX:World.setCell _ _ _=Z;have G:Ext w V:=((ay.1.trans a3.o).trans bI.2.1).trans m.1;obtain⟨bB,bl,a6⟩:=cO (w:=w) [.slice a4 gn aW,.slice aX (own u.af).length S,.slice (some ⟨b4.heap.size+1,0,none⟩) 1 1,.int .i64 0] (by rfl) az.o G ad hX;have a2:=ai bl a6;clear hX bl a6 bD aK a9 G;obtain⟨bD,aK,a9⟩:=bB.two;clear bB;go_wp2_with(fail);refine IJ (v:=.agg #[.slice a4 gn aW,.slice aX (own u.af).length S,.slice (some ⟨b4.heap.size+1,0,none⟩) 1 1,.int .i64 0]) (by simp[results,Tryz.results24,go_sem,bD]) rfl ?_;have cF:=a2.2.size;have f:∀b,b<V.heap.size->b≠w.heap.size+1->Z.heap[b]?=V.heap[b]?:=λb ac J=>a2.2.block b ac J;have al:w.heap.size+1<W.heap.size:=du;have cm:∀b,aO.heap.size<=b->b<V.heap.size->Z.heap[b]?=V.heap[b]?:=λb ac J=>f b J ad;have ao:Own Z 3 1 a4 gn aW (u.globals.map dK) (bt a4 gn aW):=H1.1.al λb O=>by
  have:=H1.2.1 b O;have I:W.drew.heap.size=W.heap.size:=rfl;exact(f b ad ad).trans ((m.1.block b ad λh=>h).trans ((bI.2.1.block b ad λh=>h).trans (bi.2.2.block b ad λh=>h)))
 have cg:gn=u.globals.length:=by have:=(ay.2.2).at_.g.1;rw[Ib] at this;exact this.symm
 have I:W.drew.heap.size=W.heap.size:=rfl;have bS:Sl Z (λk=>False\/(w.heap.size<=k/\k<Z.heap.size)) a4 gn (u.globals.map D.i):=ao.sl (cB _) (by simp[cg]) λb O=>by
  have:=H1.2.1 b O;exact .inr ⟨ad,ad⟩
 have n:Own Z 137 2 aX (own u.af).length S ((List.replicate (own u.af).length ⟨0,0⟩).flatMap ca) (bt aX (own u.af).length S):=bi.1.al λb O=>by
  have:=bi.2.1 b O;exact(f b ad ad).trans ((m.1.block b ad λh=>h).trans (bI.2.1.block b ad λh=>h))
 have a5:Sl Z (λk=>False\/(w.heap.size<=k/\k<Z.heap.size)) aX (own u.af).length ((List.replicate (own u.af).length ⟨0,0⟩).map l4):=n.sl (eH _) (by simp) λb O=>by
  have:=bi.2.1 b O;exact .inr ⟨ad,ad⟩
 have E:=m.2.1.on a2.2 ad;have F:=m.2.2.on a2.2 ad;have Q:=m.2.1.lt;have l:(gb i).rep Z (λk=>False\/(w.heap.size<=k/\k<Z.heap.size)) [.int .i64 i.proc,.int .i64 i.pc,.slice FA dE bf,.slice dC fl cU]:=D.aH (λb O=>.inr ⟨by have:=O.1;omega,by have:=O.2;omega⟩) _ _ (D.aT (λb O=>(f b (aC O.2) (aC O.1)).trans (m.1.block b O.2 λh=>h)) _ _ bI.1);have hF:Sl Z (λk=>False\/(w.heap.size<=k/\k<Z.heap.size)) (some ⟨b4.heap.size,0,none⟩) 1 ([i].map gb):=⟨rfl,λ_=>⟨b4.heap.size,0,_,rfl,.inr ⟨ad,ad⟩,D.bo.2 l,λj v a1=>by
  rw[It,E.cell];simpa using a1⟩⟩
 have L:Sl Z (λk=>False\/(w.heap.size<=k/\k<Z.heap.size)) (some ⟨b4.heap.size+1,0,none⟩) 1 ([[i]].map ly):=⟨rfl,λ_=>⟨b4.heap.size+1,0,[.slice (some ⟨b4.heap.size,0,none⟩) 1 1],rfl,.inr ⟨ad,ad⟩,D.bo.2 (eW.2 ⟨_,1,1,rfl,Hx _,hF⟩),λj v a1=>by
  rw[It,F.cell];simpa using a1⟩⟩
 have z:dO u=⟨u.globals,List.replicate (own u.af).length ⟨0,0⟩,[[i]],0⟩:=by rw[C1,bI.2.2]
 rw[z];have H:(⟨a4,gn,aW,aX,(own u.af).length,S,some ⟨b4.heap.size+1,0,none⟩,1,1⟩:SV).Is Z (λk=>False\/(w.heap.size<=k/\k<Z.heap.size)) ⟨u.globals,List.replicate (own u.af).length ⟨0,0⟩,[[i]],0⟩:=⟨⟨bS,a5,L⟩,ao.cap,n.cap,Hx _⟩
 exact⟨⟨a4,gn,aW,aX,(own u.af).length,S,some ⟨b4.heap.size+1,0,none⟩,1,1⟩,rfl,H,a2.1⟩
 ):p:=h
theorem qX(h:p:=by
 refine pf ?_;refine lH (λV=>Ext b4 V/\an V b4.heap.size 139 #[.int .i64 i.proc,.int .i64 i.pc,.slice FA dE bf,.slice dC fl cU]/\an V (b4.heap.size+1) 77 #[.slice (some ⟨b4.heap.size,0,none⟩) 1 1]) ⟨(IK.alloc _).alloc _,(IL).alloc _,an.fu _ _ _ (by simp)⟩ (λV hV=>?_);have m:=ae hV;have bG:=a8.aj hV.1;have cG:=hV.1.size;have P:=hV.2.2.lt;clear hV;obtain⟨bD,aK,a9⟩:=bG.two;have az:=ae bG;clear bG;exact fO
 ):p:=h
end Ab
open Ab in
theorem mnew(u:ax)(w:World)(p:UV)(hU:x0 u)(hu:p.Ok w u) :
  Calls prog 24 #[.agg (p.val u)] w (FC (λ_=>False) w (dO u)):=by
 obtain⟨GA,gn,gc,MA,mn,mc,PA,pn,pc⟩:=p;obtain⟨dU,bq,cH,bp,ck⟩:=hU.ok.main;have dp:=hU.ok.procs dU (Ia cH);have bT:gn<=100000:=by have ac:=hu.at_.g.1;have J:=hU.ok.pe;rw[Ib] at ac;have aR:u.globals.length=gn:=ac;omega
 have bv:=bF hU bq cH dp;have ce:=ae hu;clear hU bq cH bp ck dp hu;dsimp only[UV.val];go_enter func24,ntmps24;go_upto_region 1 with(fail);generalize ba:World.alloc _ _=W;have aw:=hJ ba;have aS:=fA ba;have cy:=fB ba;have ay:=aL aw cy (ce.on aw);have cE:=aw.size;have du:=cy.lt;obtain⟨aI,aj,af⟩:=aS.two;clear ba aw aS cy ce;refine eB (λ_=>False) [(0,3),(1,0),(3,3),(4,0),(6,0),(7,3),(8,0),(2,1),(5,1),(9,2),(10,2),(11,3),(12,2),(13,3),(14,2)] ?_;refine pf ?_;refine ph ?_;refine pf ?_
 iterate 2 refine ph ?_
 refine pf ?_;refine ph ?_;refine aD rfl (λK hK=>?_);go_simp;refine(Sl.lu (ay.2.2.on (Fr.refl _ W).drew).at_.g bT).mono ?_;rintro r aO ⟨a4,aW,rfl,g,N,ar⟩;have H1:=aL g N (Fr.aJ ar);refine dA hK (ar) ?_;clear hK K;clear g N ar;refine aD rfl (λK hK=>?_);go_simp;refine(C3 MA mn mc u.af aO (ay.2.2.on H1.2.2).at_.m.uA bv.1.ok.Ej).mono ?_;rintro r aT ⟨aX,S,rfl,y,bw⟩;have o:Own aT 137 2 aX (own u.af).length S ((List.replicate (own u.af).length ⟨0,0⟩).flatMap ca) (bt aX (own u.af).length S):=⟨mj y (Ix _),rfl⟩
 have s:∀b∈bt aX (own u.af).length S,aO.heap.size<=b/\b<aT.heap.size:=λb O=>y.lt b (by simpa using O);have bi:=aL o s (Fr.of (M:=λ_=>False) bw);have cq:=bw.size;refine dA hK (Fr.of bw) ?_;clear hK K;clear y o s bw;have aJ:Ext W aT:=H1.2.2.trans bi.2.2;have bz:=aJ.size;have b6:=H1.2.2.size;have a3:=ae aJ;refine au rfl (λK hK=>?_);go_simp;refine(mframe u u.main dU [] [] none none 0 0 0 0 aT ⟨GA,gn,gc,MA,mn,mc,PA,pn,pc⟩ (ay.2.2.on aJ) bv.2.1 bv.2.2.1 (by have:=bv.2.2.2.ints;simp;omega) bv.2.2.2.ints.2.2 (by simp) (Sl.bH _) (Sl.bH _)).mono ?_;rintro e b4 ⟨FA,dE,bf,dC,fl,cU,rfl,bX,aG⟩;generalize bj:dv u u.main [] []=i at *;have bI:=aL bX aG bj;have cx:=aG.size;have cp:=(ay.2.1.aj aJ).aj aG;clear bX aG bj aJ aI aj af;have a8:=ae cp;clear cp;refine dW hK ?_;clear hK K;exact qW
end Go.Proofs.YtajlmkkidmjgoaaGreatDoor

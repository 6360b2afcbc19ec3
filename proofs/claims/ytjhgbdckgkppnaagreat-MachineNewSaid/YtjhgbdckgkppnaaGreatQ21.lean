/- Part 21 of the proof (McQ McR), without conditions of its own. -/
import Derived.Test.YtjhgbdckgkppnaaGreatQ20
namespace Go.Proofs.YtjhgbdckgkppnaaGreat
open Go.RowKit Go.Proofs.Tryz
set_option maxRecDepth 1000000
set_option maxHeartbeats 25600000
set_option linter.unusedVariables false
variable{t:Int}{p:Prop}{x:aC}{u:aF}{s:an}{f:aq}
structure FZ(u:aF)(s:an)(t:Int)(f:aq)(x:aC)(a b:List Int×Int):Prop where
 Fy:a.2≠0→cp u s t f x=({s with fault:=a.2},true)
 Fz:a.2=0→b.2≠0→cp u s t f x=({s with fault:=b.2},true)
 many:a.2=0→b.2=0→x.op=3→32≤s.threads.length→cp u s t f x=({s with fault:=4},true)
 go:a.2=0→b.2=0→x.op=3→¬32≤s.threads.length→cp u s t f x=({bk s t (next f) with threads:=(bk s t (next f)).threads++[[c9 u x.target a.1 b.1]]},true)
 call:a.2=0→b.2=0→x.op=2→cp u s t f x=(oz (bk s t (next f)) t (c9 u x.target a.1 b.1),true)
theorem F3(ct:x.op=2∨x.op=3):FZ u s t f x (dt s.globals f.ints x.ints) (cf u s f x.places):=by
 have h0:cp u s t f x=(if bP (dt s.globals f.ints x.ints).2 (cf u s f x.places).2 (decide (x.op=3∧32≤s.threads.length))≠0 then ({s with fault:=bP (dt s.globals f.ints x.ints).2 (cf u s f x.places).2 (decide (x.op=3∧32≤s.threads.length))},true)
  else if x.op=3 then ({bk s t (next f) with threads:=(bk s t (next f)).threads++[[c9 u x.target (dt s.globals f.ints x.ints).1 (cf u s f x.places).1]]},true)
  else (oz (bk s t (next f)) t (c9 u x.target (dt s.globals f.ints x.ints).1 (cf u s f x.places).1),true)):=by
  unfold cp;rw[if_neg ad,if_pos ct]
 generalize dt s.globals f.ints x.ints=a at *;generalize cf u s f x.places=b at *;refine⟨fun h=>?_,fun h ac=>?_,fun h ac aS n=>?_,fun h ac aS n=>?_,fun h ac J=>?_⟩
 ·have:bP a.2 b.2 (decide (x.op=3∧32≤s.threads.length))=a.2:=by unfold bP;rw[if_pos h]
  rw[h0,this,if_pos h]
 ·have:bP a.2 b.2 (decide (x.op=3∧32≤s.threads.length))=b.2:=by unfold bP;rw[if_neg ad,if_pos ac]
  rw[h0,this,if_pos ac]
 ·have:bP a.2 b.2 (decide (x.op=3∧32≤s.threads.length))=4:=by unfold bP;rw[if_neg ad,if_neg ad,if_pos (by simp[aS,n])]
  rw[h0,this,if_pos ad]
 ·have:bP a.2 b.2 (decide (x.op=3∧32≤s.threads.length))=0:=by unfold bP;rw[if_neg ad,if_neg ad,if_neg (by simp;omega)]
  rw[h0,this,if_neg ad,if_pos aS]
 ·have:bP a.2 b.2 (decide (x.op=3∧32≤s.threads.length))=0:=by unfold bP;rw[if_neg ad,if_neg ad,if_neg (by simp;omega)]
  rw[h0,this,if_neg ad,if_neg ad]
namespace zo
theorem di(h:p:=by
 generalize dy:World.setCell _ _ _=dJ;obtain⟨cm,bZ,cz⟩:=dl.o _ _ _ _ _ _ _ bM.2.2.1 bM.2.2.2 cK.1 cK.2.1 cK.2.2 dy;have bL:=aK cm bZ ((aj.2.2.2.2.1.al bM.2.1).on cz ad);have aG:=ae (show Ext w dJ from Fr.low (M:=fun b=>aH.heap.size≤b) (Fr.trans (Fr.mono (aj.1.trans bM.2.1) fun _ h=>h.elim) cz) fun b O=>ad);clear dy cm bZ cz cc aR ds d1;have cQ:=bL.2.2;obtain⟨bx,bd,be⟩:=cQ.two;obtain⟨e0,bl,a5⟩:=bL.2.1.two;clear cQ;go_wp2_with (fail);generalize ah:World.setCell _ _ _=Z;obtain⟨bm,a9,bn⟩:=cx (w:=w) [.slice bc bG aN,.slice a3 tn L,.slice (some ⟨O,0,none⟩) hn a2,.int .i64 s.fault] (by rfl) bL.2.2 aG.o ad ah;have bf:=ai a9 bn;clear ah a9 bn bx bd be e0 bl a5;obtain⟨bx,bd,be⟩:=bm.two;refine GM (v:=.tuple #[.agg #[.slice bc bG aN,.slice a3 tn L,.slice (some ⟨O,0,none⟩) hn a2,.int .i64 s.fault],.bool true]) (by simp[results,Tryz.results51,go_sem,bx]) rfl ?_;rw[bW.o];show dE lp w _ true _ _
 rw[A8 bT.2.2.1];have cG:=bf.2.size;exact⟨⟨bc,bG,aN,a3,tn,L,some ⟨O,0,none⟩,hn,a2⟩,rfl,((bL.1.ao (ab:=Z) fun b O=>bf.2.block b O.2.1 (aB O.1)).mono fun b O=>.inr ⟨by have:=O.1;omega,by have:=O.2.1;show b<Z.heap.size;omega⟩),bf.1⟩
 ):p:=h
theorem w1(h:p:=by
 obtain⟨bm,a9,bn⟩:=cx (w:=w) [.slice bc bE aN,.slice a3 m L,.slice bF o a2,.int .i64 aO] (by rfl) aZ.1 aZ.2 ad ah;have bf:=ai a9 bn;clear ah a9 bn bx bd be;obtain⟨bx,bd,be⟩:=bm.two;refine GM (v:=.tuple #[.agg #[.slice bc bE aN,.slice a3 m L,.slice bF o a2,.int .i64 aO],.bool true]) (by simp[results,Tryz.results51,go_sem,bx]) rfl ?_;rw[bW.o];show dE lp w {s with fault:=aO} true _ _
 exact dT (Q:={s with fault:=aO}) (q:=⟨bc,bE,aN,a3,m,L,bF,o,a2⟩) cI.o bf.2 (fun b O=>ad) ad bf.1
 ):p:=h
theorem wZ(h:p:=by
 refine(ta u s t f bh x N W ⟨GA,gn,gc,MA,mn,mc,PA,pn,pc⟩ ⟨bI,bG,bq,TA,tn,tc,HA,hn,hc⟩ ⟨eo,en,es,EA,em,ec,QA,qm,qc,cZ,j,cN,KA,db,kc⟩ aU.o ct aj.2.2.2.2.2.1 aj.2.2.2.2.2.2.1 aj.2.2.2.2.2.2.2).mono ?_;intro e aH br;have aQ:=ai (fun h J=>br.2.2 h J) bs.o;have dq:=(n6 aU.hS aU.hF aU.hp x.ints (aU.args ct).1).2.1;have bv:=(lZ (s:=s) (nk:=bh.av) aU.hU.ok aU.hF (by rw[aU.hF.s9 aU.hp];exact Int.le_refl _) x.places (aU.args ct).2.1).2.1;generalize dt s.globals f.ints x.ints=aa at *;generalize cf u s f x.places=bb at *;obtain⟨dR,aO⟩:=aa;obtain⟨bi,bz⟩:=bb;have b0:=ai dq bv;clear dq bv aQ a0 al af a7 am aE a6 aL aP;have cH:=aj.1.size;have dx:=aj.2.2.2.2.1.lt;by_cases P:aO=0
 case neg=>
  obtain⟨rfl,aI⟩:=br.1 P;have bW:=ae (bs.Fy P);have co:(aO == 0)=false:=by simpa using P
  have ej:(aO != 0)=true:=by simpa using P
  clear br P bs b0;have dw:=aj.2.2.2.2.2.2.1.on aI;have cO:=ae dw;have bp:=ae aI;obtain⟨a7,am,aE⟩:=(aj.2.2.1.al aI).two;obtain⟨a6,aL,aP⟩:=(aj.2.2.2.1.al aI).two;have b7:=aI.size;clear dw aI;go_wp2_with (fail);refine(j5 s ⟨bI,bG,bq,TA,tn,tc,HA,hn,hc⟩ aO aH cO.o aU.sm).mono ?_;exact w0
 by_cases bk:bz=0
 case neg=>
  obtain⟨rfl,aI⟩:=br.2.1 P bk;have bW:=ae (bs.Fz P bk);have co:(bz == 0)=false:=by simpa using bk
  have ej:(bz != 0)=true:=by simpa using bk
  clear br P bk bs b0;have dw:=aj.2.2.2.2.2.2.1.on aI;have cO:=ae dw;have bp:=ae aI;obtain⟨a7,am,aE⟩:=(aj.2.2.1.al aI).two;obtain⟨a6,aL,aP⟩:=(aj.2.2.2.1.al aI).two;have b7:=aI.size;clear dw aI;go_wp2_with (fail);refine(j5 s ⟨bI,bG,bq,TA,tn,tc,HA,hn,hc⟩ bz aH cO.o aU.sm).mono ?_;rintro e bJ ⟨⟨bc,bE,aN,a3,m,L,bF,o,a2⟩,rfl,ch,ay⟩;have cI:=ae ch;have b5:=(aj.2.2.2.2.1.al bp.o).al ay;have aZ:=ai b5 ((aj.1.trans bp.o).trans ay);clear ch ay a7 am aE a6 aL aP;obtain⟨bx,bd,be⟩:=b5.two;clear b5;go_wp2_with (fail);generalize ah:World.setCell _ _ _=Z;obtain⟨bm,a9,bn⟩:=cx (w:=w) [.slice bc bE aN,.slice a3 m L,.slice bF o a2,.int .i64 bz] (by rfl) aZ.1 aZ.2 ad ah;have bf:=ai a9 bn;clear ah a9 bn bx bd be;obtain⟨bx,bd,be⟩:=bm.two;refine GM (v:=.tuple #[.agg #[.slice bc bE aN,.slice a3 m L,.slice bF o a2,.int .i64 bz],.bool true]) (by simp[results,Tryz.results51,go_sem,bx]) rfl ?_;rw[bW.o];show dE lp w {s with fault:=bz} true _ _
  exact dT (Q:={s with fault:=bz}) (q:=⟨bc,bE,aN,a3,m,L,bF,o,a2⟩) cI.o bf.2 (fun b O=>ad) ad bf.1
 obtain⟨IA,dG,ci,bj,nl,cl,rfl,dY,a1,dQ,ck,aI⟩:=br.2.2 P bk;have a8:=aK dQ ck aI;have dW:dR.length=dG:=by have:=dQ.1;simpa using this
 have ce:bi.length=nl:=by have:=ck.1;simpa using this
 have bB:=bO dW ce (b0.1 P) (b0.2 bk);clear br dQ ck dY a1 dW ce b0;have az:=aK (bs.many P bk) (bs.go P bk) (bs.call P bk);clear bs P bk;by_cases aS:x.op=3
 ·have cT:(x.op == 3)=true:=by simpa using aS
  by_cases n:32≤hn
  ·have c7:decide ((hn:Int)≥32)=true:=by simpa using (by omega:(32:Int)≤(hn:Int))
   have bW:=ae (az.1 aS (by rw[←bT.2.2.2.2];exact n));clear aS n az;have dw:=aj.2.2.2.2.2.2.1.on aI;have cO:=ae dw;have bp:=ae aI;obtain⟨a7,am,aE⟩:=(aj.2.2.1.al aI).two;obtain⟨a6,aL,aP⟩:=(aj.2.2.2.1.al aI).two;have b7:=aI.size;clear dw aI;go_wp2_with (fail);refine(j5 s ⟨bI,bG,bq,TA,tn,tc,HA,hn,hc⟩ 4 aH cO.o aU.sm).mono ?_;rintro e bJ ⟨⟨bc,bE,aN,a3,m,L,bF,o,a2⟩,rfl,ch,ay⟩;have cI:=ae ch;have b5:=(aj.2.2.2.2.1.al bp.o).al ay;have aZ:=ai b5 ((aj.1.trans bp.o).trans ay);clear ch ay a7 am aE a6 aL aP;obtain⟨bx,bd,be⟩:=b5.two;clear b5;go_wp2_with (fail);generalize ah:World.setCell _ _ _=Z;obtain⟨bm,a9,bn⟩:=cx (w:=w) [.slice bc bE aN,.slice a3 m L,.slice bF o a2,.int .i64 4] (by rfl) aZ.1 aZ.2 ad ah;have bf:=ai a9 bn;clear ah a9 bn bx bd be;obtain⟨bx,bd,be⟩:=bm.two;refine GM (v:=.tuple #[.agg #[.slice bc bE aN,.slice a3 m L,.slice bF o a2,.int .i64 4],.bool true]) (by simp[results,Tryz.results51,go_sem,bx]) rfl ?_;rw[bW.o];show dE lp w {s with fault:=4} true _ _
   exact dT (Q:={s with fault:=4}) (q:=⟨bc,bE,aN,a3,m,L,bF,o,a2⟩) cI.o bf.2 (fun b O=>ad) ad bf.1
  ·have c7:decide ((hn:Int)≥32)=false:=by simp;omega
   have bW:=ae (az.2.1 aS (by rw[←bT.2.2.2.2];exact n));clear aS n az;have dw:=aj.2.2.2.2.2.2.1.on aI;have cO:=ae dw;have bp:=ae aI;have cV:=bT.2.1;have dD:t<(hn:Int):=by have:=bT.2.2.2.2;have:=(List.getElem?_eq_some_iff.1 bT.2.2.1).1;omega
   obtain⟨a7,am,aE⟩:=(aj.2.2.1.al aI).two;obtain⟨a6,aL,aP⟩:=(aj.2.2.2.1.al aI).two;have b7:=aI.size;clear dw aI;go_wp2_with (fail);refine(eS s bI TA HA bG bq tn tc hn hc aH cO.at_ aU.sm).mono ?_;rintro e bJ ⟨bc,aN,a3,L,bF,a2,xs,ak,ar,bS,bX,rfl,b8,bN,ay⟩;have bH:=aK b8 bN ay;have cB:=ay.size;clear b8 bN ay a7 am aE a6 aL aP;go_upto_region 7 with(fail);generalize hV:World.alloc _ _=V;have S:Ext bJ V:=hV▸GN.alloc _;have bP:ag V bJ.heap.size 40 #[.slice bc bG aN,.slice a3 tn L,.slice bF hn a2,.int .i64 s.fault]:=hV▸GO;have hOut:dg aH.heap.size V s bJ.heap.size ⟨bc,bG,aN,a3,tn,L,bF,hn,a2⟩ xs ak ar bS bX:=
    ⟨bH.1.ao fun b O=>S.block b (bH.2.1 b O).2 fun h=>h,bP,fun O=>by have:=(bH.2.1 _ O).2;omega,fun b O=>⟨(bH.2.1 b O).1,by have:=(bH.2.1 b O).2;have:=S.size;omega⟩,cB⟩
   have de:Ext aH V:=bH.2.2.trans S;obtain⟨cE,c1,dF,cU,cS,dd,cY,c0,bR,cC,ap⟩:=hOut.top bT.2.2.1 bT.2.1 bT.1 bT.2.2.2.1;have cg:=aK cC ap de;obtain⟨e0,bl,a5⟩:=hOut.o.two;clear hV S bP hOut de cC ap c0 bR;go_wp2_with (fail);refine(cg.1 V GN).mono ?_;rintro e cy ⟨rfl,b3⟩;have aT:=ae (cg.2.1 cy b3);have cu:=ae (cg.2.2.trans b3);clear e0 bl a5 b3;have b4:=aT.c1;have g2:=aT.fz;have cD:=aT.lt;have cP:=b9.2.2.2.2.2;go_upto_region 8 with(fail);generalize ah:World.setCell _ _ _=X;have cR:pS aH.heap.size X {s with threads:=s.threads.set t.toNat (fs++[next f])} bJ.heap.size ⟨bc,bG,aN,a3,tn,L,bF,hn,a2⟩ xs ak ar bS bX t fs (next f) cE c1 dF cU cS dd cY:=ah▸aT.Fp bT.2.2.1 (f.pc+1);have bV:Fr (fun b=>b=cE) cy X:=ah▸(Fr.refl (fun b=>b=cE) cy).setCell (.inl rfl) _;have dp:=aT.ge;have ac:Ext aH X:=Fr.low (M:=fun b=>b=cE) (Fr.trans (Fr.mono cu.o fun _ h=>h.elim) bV) fun b O=>ad;have cM:=bp.trans ac;have aw:=aK cR.o ac cM;obtain⟨a0,al,af⟩:=(aj.2.1.al cM).two;obtain⟨a6,aL,aP⟩:=(aj.2.2.2.1.al cM).two;clear ah cR bV ac cM b4 g2 cD aT;go_wp2_with (fail);have dv:=(a8.1.ao (ab:=X) fun b O=>aw.2.1.block b O.2 fun h=>h).mono (c8:=au X) fun b O=>Gc O.2 aw.2.1.size;have dm:=(a8.2.1.ao (ab:=X) fun b O=>aw.2.1.block b O.2 fun h=>h).mono (c8:=au X) fun b O=>Gc O.2 aw.2.1.size;have da:=bB.2.2.1;have c6:=bB.2.2.2
   refine(mframe u x.target dP dR bi IA bj dG ci nl cl X ⟨GA,gn,gc,MA,mn,mc,PA,pn,pc⟩ (aj.2.2.2.2.2.1.on aw.2.2) b9.1 b9.2.1 (kk b9.2.2.1 b9.2.2.2.2.1.ints) b9.2.2.2.2.1.ints.2.2 (aB aU.kl) dv dm).mono ?_;rintro e cJ ⟨FA,dk,aM,du,fl,a4,rfl,bQ,cj⟩;generalize cF:c9 u x.target dR bi=i at *;have dc:=ae cF;have c4:=ai bQ cj;clear cF dv dm da c6 bQ cj a0 al af a6 aL aP;go_upto_region 9 with(fail);generalize cb:World.alloc _ _=Y;have bw:Ext cJ Y:=cb▸GN.alloc _;have bA:ag Y cJ.heap.size 76 #[.int .i64 i.proc,.int .i64 i.pc,.slice FA dk aM,.slice du fl a4]:=cb▸GO;have aJ:Ext X Y:=c4.2.trans bw;have cW:=aw.2.2.trans aJ;have l:=aw.1.al aJ;have aV:(fh i).rep Y (fresh X cJ) [.int .i64 i.proc,.int .i64 i.pc,.slice FA dk aM,.slice du fl a4]:=D.bg (fun b O=>bw.block b O.2 fun h=>h) _ _ c4.1;have fE:=c4.2.size;have d0:=bw.size;have dZ:=aw.1.o.lt;have dC:=aw.2.1.size;have dA:∀b,fresh X cJ b→aH.heap.size≤b∧b<Y.heap.size∧b≠bJ.heap.size∧b∉ak++(ar++(bS++bX)):=fun b O=>⟨by have:=O.1;omega,by have:=O.2;omega,by have:=O.1;omega,fun hm=>by have:=(aw.1.lo b hm).2;have:=O.1;omega⟩
   have bM:=bO l cW aV dA;obtain⟨a6,aL,aP⟩:=(aj.2.2.2.1.al cW).two;obtain⟨e0,bl,a5⟩:=l.o.two;obtain⟨fn,bK,dr⟩:=bA.two;clear cb bw bA aJ cW l aV dA cg cu bH;have dL:=bM.1.st.h.al ((Fr.refl _ Y).alloc (.cells #[.int .i64 i.proc,.int .i64 i.pc,.slice FA dk aM,.slice du fl a4] 76));have bo:bJ.heap.size∉bS:=fun h=>bM.1.ne (by simp[h]);have bt:=bM.1.o.al ((Fr.refl _ Y).alloc (.cells #[.int .i64 i.proc,.int .i64 i.pc,.slice FA dk aM,.slice du fl a4] 76));have dH:=ai dL bt;clear dL bt;go_upto_region 12 with(at_builtin;refine qM z0 rfl (.tmp 65) (.tmp 69) rfl dH.1 (cs:=#[.slice (some ⟨Y.heap.size,0,none⟩) 1 1]) rfl rfl (by simp) rfl (by simp[Value.oneCell']) (by simp only;omega) (by simp only;omega) ?_;intro A2 c2 cv b4 g2 cD;have cq:=dH.2.on g2 bo;have cK:=aK b4 g2 cD;clear b4 g2 cD e0 bl a5 fn bK dr a6 aL aP;obtain⟨e0,bl,a5⟩:=cq.two;clear cq);generalize dy:World.setCell _ _ _=dJ;obtain⟨cm,bZ,cz⟩:=bM.1.start bM.2.2.1 bM.2.2.2 rfl cK.1 cK.2.1 cK.2.2 dy;have bL:=aK cm bZ ((aj.2.2.2.2.1.al bM.2.1).on cz ad);have aG:=ae (show Ext w dJ from Fr.low (M:=fun b=>aH.heap.size≤b) (Fr.trans (Fr.mono (aj.1.trans bM.2.1) fun _ h=>h.elim) cz) fun b O=>ad);clear dy cm bZ cz e0 bl a5;have cQ:=bL.2.2;obtain⟨bx,bd,be⟩:=cQ.two;obtain⟨e0,bl,a5⟩:=bL.2.1.two;clear cQ;go_wp2_with (fail);generalize ah:World.setCell _ _ _=Z;obtain⟨bm,a9,bn⟩:=cx (w:=w) [.slice bc bG aN,.slice a3 tn L,.slice A2 (hn+1) c2,.int .i64 s.fault] (by rfl) bL.2.2 aG.o ad ah;have bf:=ai a9 bn;clear ah a9 bn bx bd be e0 bl a5
   obtain⟨bx,bd,be⟩:=bm.two;refine GM (v:=.tuple #[.agg #[.slice bc bG aN,.slice a3 tn L,.slice A2 (hn+1) c2,.int .i64 s.fault],.bool true]) (by simp[results,Tryz.results51,go_sem,bx]) rfl ?_;rw[bW.o];show dE lp w _ true _ _
   rw[fa bT.2.2.1];have cG:=bf.2.size;exact⟨⟨bc,bG,aN,a3,tn,L,A2,hn+1,c2⟩,rfl,((bL.1.ao (ab:=Z) fun b O=>bf.2.block b O.2.1 (aB O.1)).mono fun b O=>.inr ⟨by have:=O.1;omega,by have:=O.2.1;show b<Z.heap.size;omega⟩),bf.1⟩
 ·have J:x.op=2:=ad;have cT:(x.op == 3)=false:=by simpa using aS
  have bW:=ae (az.2.2 J);clear aS J az;have dw:=aj.2.2.2.2.2.2.1.on aI;have cO:=ae dw;have bp:=ae aI;have cV:=bT.2.1;have dD:t<(hn:Int):=by have:=bT.2.2.2.2;have:=(List.getElem?_eq_some_iff.1 bT.2.2.1).1;omega
  obtain⟨a7,am,aE⟩:=(aj.2.2.1.al aI).two;obtain⟨a6,aL,aP⟩:=(aj.2.2.2.1.al aI).two;have b7:=aI.size;clear dw aI;go_wp2_with (fail);refine(eS s bI TA HA bG bq tn tc hn hc aH cO.at_ aU.sm).mono ?_;rintro e bJ ⟨bc,aN,a3,L,bF,a2,xs,ak,ar,bS,bX,rfl,b8,bN,ay⟩;have bH:=aK b8 bN ay;have cB:=ay.size;clear b8 bN ay a7 am aE a6 aL aP;go_upto_region 7 with(fail);generalize hV:World.alloc _ _=V;have S:Ext bJ V:=hV▸GN.alloc _;have bP:ag V bJ.heap.size 40 #[.slice bc bG aN,.slice a3 tn L,.slice bF hn a2,.int .i64 s.fault]:=hV▸GO;have hOut:dg aH.heap.size V s bJ.heap.size ⟨bc,bG,aN,a3,tn,L,bF,hn,a2⟩ xs ak ar bS bX:=
   ⟨bH.1.ao fun b O=>S.block b (bH.2.1 b O).2 fun h=>h,bP,fun O=>by have:=(bH.2.1 _ O).2;omega,fun b O=>⟨(bH.2.1 b O).1,by have:=(bH.2.1 b O).2;have:=S.size;omega⟩,cB⟩
  have de:Ext aH V:=bH.2.2.trans S;obtain⟨cE,c1,dF,cU,cS,dd,cY,c0,bR,cC,ap⟩:=hOut.top bT.2.2.1 bT.2.1 bT.1 bT.2.2.2.1;have cg:=aK cC ap de;obtain⟨e0,bl,a5⟩:=hOut.o.two;clear hV S bP hOut de cC ap c0 bR;go_wp2_with (fail);refine(cg.1 V GN).mono ?_;rintro e cy ⟨rfl,b3⟩;have aT:=ae (cg.2.1 cy b3);have cu:=ae (cg.2.2.trans b3);clear e0 bl a5 b3;have b4:=aT.c1;have g2:=aT.fz;have cD:=aT.lt;have cP:=b9.2.2.2.2.2;go_upto_region 8 with(fail);generalize ah:World.setCell _ _ _=X;have cR:pS aH.heap.size X {s with threads:=s.threads.set t.toNat (fs++[next f])} bJ.heap.size ⟨bc,bG,aN,a3,tn,L,bF,hn,a2⟩ xs ak ar bS bX t fs (next f) cE c1 dF cU cS dd cY:=ah▸aT.Fp bT.2.2.1 (f.pc+1);have bV:Fr (fun b=>b=cE) cy X:=ah▸(Fr.refl (fun b=>b=cE) cy).setCell (.inl rfl) _;have dp:=aT.ge;have ac:Ext aH X:=Fr.low (M:=fun b=>b=cE) (Fr.trans (Fr.mono cu.o fun _ h=>h.elim) bV) fun b O=>ad;have cM:=bp.trans ac;have aw:=aK cR.o ac cM;obtain⟨a0,al,af⟩:=(aj.2.1.al cM).two;obtain⟨a6,aL,aP⟩:=(aj.2.2.2.1.al cM).two;clear ah cR bV ac cM b4 g2 cD aT;go_wp2_with (fail);have dv:=(a8.1.ao (ab:=X) fun b O=>aw.2.1.block b O.2 fun h=>h).mono (c8:=au X) fun b O=>Gc O.2 aw.2.1.size;have dm:=(a8.2.1.ao (ab:=X) fun b O=>aw.2.1.block b O.2 fun h=>h).mono (c8:=au X) fun b O=>Gc O.2 aw.2.1.size;have da:=bB.2.2.1;have c6:=bB.2.2.2
  refine(mframe u x.target dP dR bi IA bj dG ci nl cl X ⟨GA,gn,gc,MA,mn,mc,PA,pn,pc⟩ (aj.2.2.2.2.2.1.on aw.2.2) b9.1 b9.2.1 (kk b9.2.2.1 b9.2.2.2.2.1.ints) b9.2.2.2.2.1.ints.2.2 (aB aU.kl) dv dm).mono ?_;rintro e cJ ⟨FA,dk,aM,du,fl,a4,rfl,bQ,cj⟩;generalize cF:c9 u x.target dR bi=i at *;have dc:=ae cF;have c4:=ai bQ cj;clear cF dv dm da c6 bQ cj a0 al af a6 aL aP;go_upto_region 9 with(fail);generalize cb:World.alloc _ _=Y;have bw:Ext cJ Y:=cb▸GN.alloc _;have bA:ag Y cJ.heap.size 76 #[.int .i64 i.proc,.int .i64 i.pc,.slice FA dk aM,.slice du fl a4]:=cb▸GO;have aJ:Ext X Y:=c4.2.trans bw;have cW:=aw.2.2.trans aJ;have l:=aw.1.al aJ;have aV:(fh i).rep Y (fresh X cJ) [.int .i64 i.proc,.int .i64 i.pc,.slice FA dk aM,.slice du fl a4]:=D.bg (fun b O=>bw.block b O.2 fun h=>h) _ _ c4.1;have fE:=c4.2.size;have d0:=bw.size;have dZ:=aw.1.o.lt;have dC:=aw.2.1.size;have dA:∀b,fresh X cJ b→aH.heap.size≤b∧b<Y.heap.size∧b≠bJ.heap.size∧b∉ak++(ar++(bS++bX)):=fun b O=>⟨by have:=O.1;omega,by have:=O.2;omega,by have:=O.1;omega,fun hm=>by have:=(aw.1.lo b hm).2;have:=O.1;omega⟩
  have bM:=bO l cW aV dA;obtain⟨a6,aL,aP⟩:=(aj.2.2.2.1.al cW).two;obtain⟨e0,bl,a5⟩:=l.o.two;obtain⟨fn,bK,dr⟩:=bA.two;clear cb bw bA aJ cW l aV dA cg cu bH;obtain⟨O,bY,fc,cd,T,aY,dV,dU,R,d3,cw,bD,dO,cr,hG,dh,aW,I,dn⟩:=bM.1.push (k:=t.toNat) (fs:=fs) (f:=next f) (by have ao:=(List.getElem?_eq_some_iff.1 bT.2.2.1).1;simp[ao]);simp only at T;subst T;have dl:=ae dn;have dH:=ae I;have dS:=bT.2.2.2.1;have d2:=(aw.1.lo bY dU).2;have d4:=(aw.1.lo O dV).2;have d5:cJ.heap.size≠bY:=ad;have dM:bJ.heap.size≠bY:=Ne.symm hG;clear dn I dV dU;go_upto_region 11 with(fail);refine eh (fun b=>b=bY) [(0,3),(1,0),(2,3),(3,3),(4,0),(5,3),(6,3),(7,3),(8,0),(9,0),(10,1),(11,1),(12,3),(13,3),(14,2)] ?_;refine pf ?_;refine ow ?_
  iterate 2 refine pf ?_
  refine ow ?_
  iterate 3 refine pf ?_
  iterate 2 refine ow ?_
  refine uQ ?_;refine ox (fun V=>Ext Y V∧ag V Y.heap.size 76 #[.int .i64 i.proc,.int .i64 i.pc,.slice FA dk aM,.slice du fl a4]∧V.heap.size=Y.heap.size+1) ⟨by first|exact((Fr.refl _ Y).drew).alloc _|exact((Fr.refl _ Y).alloc _).drew,by first|exact GO|exact ag.new Y.drew _ _,by simp⟩ (fun U hU=>?_);have cn:=ae hU;clear hU;refine aA rfl (fun K hK=>?_);rw[if_pos (by rfl)];refine CK Dv (.tmp 80) (.tmp 82) rfl (dH.al cn.1) cn.2.1 rfl rfl rfl (by simp[Value.oneCell']) ad ad ?_;intro A2 c2 cv b4 g2 cD;have cL:Fr (fun b=>b=bY) U cv:=g2.mono fun b O=>GH.1 O;refine hK _ _ (cL) ?_;clear hK K
  try simp only[PU]
  have df:Fr (fun b=>b=bY) Y cv:=Fr.trans (cn.1.mono fun _ h=>h.elim) cL;have cK:=aK b4 df (fun b O=>(cD b O).imp (fun h=>GH.1 h) (fun h=>(⟨by have:=cn.2.2;omega,h.2⟩:Y.heap.size≤b∧b<cv.heap.size)));have cc:=(df.cell (j:=t.toNat) R dO).trans aW;have aR:∀j,cv.frozen? ⟨O,j,none⟩=false:=fun j=>(df.frozen R dO).trans (dh j);have ds:=df.size;clear b4 g2 cD cL df aW dh e0 bl a5 fn bK dr a6 aL aP;have d1:O<cv.heap.size:=ad
  iterate 2 refine pf ?_
  exact dN
 ):p:=h
theorem sD(h:p:=by
 obtain⟨_,_,dj,dP,dK,dX,dI,c3⟩:=h.args ct;have z:hn=s.threads.length:=by have:=hs.at_.h.1;simpa using this.symm
 have dB:hn≤1000:=by have:=h.sm.h;omega
 have cX:=h.pc;have bs:=ae (F3 (u:=u) (s:=s) (t:=t) (f:=f) (x:=x) ct);have aU:=ae h;have bT:=cA bU cV bu b2 z;have b9:=dz dj dK dX dI c3 cX;have cg:=aK hu hs bC;clear h bU cV ba bu b2 z dj dK dX dI c3 cX hu hs bC;dsimp only[UV.val,SV.val,IV.val];go_enter func51,ntmps51;exact wY
 ):p:=h
end zo
open zo in
theorem E2(u:aF)(s:an)(t:Int)(f:aq)(bh:c5)(x:aC)(N:Nat)(w:World)(p:UV)(q:SV)(v:IV)(h:lN u s t f bh x N)(ct:x.op=2∨x.op=3)(hu:p.Ok w u)(hs:q.Ok w s)(bC:v.Ok w x) :
  Calls prog 51 #[.agg (p.val u),.agg (q.val s),.int .i64 t,.agg (v.val x)] w (dE lp w (cp u s t f x).1 (cp u s t f x).2):=by
 obtain⟨bU,cV,ba,fs,bu,b2⟩:=h.th;exact sC
theorem a1.tok{N:Nat}(h:a1 u N s)(cj:N≤100000):Ex u.af s.table:=by
 refine⟨h.table,fun x hx=>?_⟩;obtain⟨i,aJ⟩:=List.getElem?_of_mem hx;have aj:=h.holds i x aJ;have:=aj.owner;have:=aj.depth;have:=h.Bs;omega
theorem dg.FR{B:Nat}{w X:World}{s:an}{G:Nat}{q:SV}{xs:List Value}{ak ar bS bX:List Nat}(h:dg B w s G q xs ak ar bS bX){T:List ct}{a3:GR}{m L:Nat}(aR:w.ownsRow 0 87 2 (.slice a3 m L) m (T.flatMap bZ))(hl:m=T.length)
  (hd:∀b∈bB a3 m L,b∉ak++(ar++(bS++bX))∧b≠G∧B≤b) (ah:w.setCell ⟨G,1,none⟩ (.slice a3 m L)=X):dg B X {s with table:=T} G ⟨q.GA,q.gn,q.gc,a3,m,L,q.HA,q.hn,q.hc⟩ xs ak (bB a3 m L) bS bX:=by
 have ac:=h.st.FR aR hl fun b O=>(hd b O).1;have ao:∀b∈bB a3 m L,b<w.heap.size:=fun b O=>(aR.lt b (by simpa using O)).2;have b0:∀b,b∈ak++(bB a3 m L++(bS++bX))→B≤b∧b<w.heap.size∧b≠G:=fun b O=>by
  simp only[Gk] at O;have aj:∀b,b∈ak++(ar++(bS++bX))→B≤b∧b<w.heap.size∧b≠G:=fun b O=>⟨(h.lo b O).1,(h.lo b O).2,fun he=>h.ne (he▸O)⟩
  rcases O with O|O|O|O
  ·exact aj b (by simp[O])
  ·exact⟨(hd b O).2.2,ao b O,(hd b O).2.1⟩
  ·exact aj b (by simp[O])
  ·exact aj b (by simp[O])
 subst ah;refine⟨ac.ao fun b O=>cX (b0 b O).2.2,?_,fun aM=>(b0 G aM).2.2 rfl,fun b O=>⟨(b0 b O).1,by simpa [World.setCell] using (b0 b O).2.1⟩,h.go⟩;exact h.o.aH 1 _
structure F2(u:aF)(s:an)(t:Int)(f:aq)(x:aC)(r:Int×Int):Prop where
 bad:r.2≠0→cp u s t f x=({s with fault:=r.2},true)
 lf:r.2=0→x.op=4→free u.af s.table r.1 t=true→cp u s t f x=({bk s t (next f) with table:=gO u.af s.table r.1 t},true)
 ln:r.2=0→x.op=4→free u.af s.table r.1 t=false→cp u s t f x=(s,false)
 uf:r.2=0→x.op=5→heldBy u.af s.table r.1 t=true→cp u s t f x=({bk s t (next f) with table:=dD u.af s.table r.1 t},true)
 un:r.2=0→x.op=5→heldBy u.af s.table r.1 t=false→cp u s t f x=({s with fault:=3},true)
theorem F5(ct:x.op=4∨x.op=5):F2 u s t f x (bD u s f x.place):=by
 have h0:cp u s t f x=(if (bD u s f x.place).2≠0 then ({s with fault:=(bD u s f x.place).2},true)
  else if x.op=4 then (if free u.af s.table (bD u s f x.place).1 t then ({bk s t (next f) with table:=gO u.af s.table (bD u s f x.place).1 t},true) else (s,false))
  else (if heldBy u.af s.table (bD u s f x.place).1 t then ({bk s t (next f) with table:=dD u.af s.table (bD u s f x.place).1 t},true) else ({s with fault:=3},true))):=by
  unfold cp;rw[if_neg ad,if_neg ad,if_pos ct]
 generalize bD u s f x.place=r at *;refine⟨fun h=>?_,fun h ac J=>?_,fun h ac J=>?_,fun h ac J=>?_,fun h ac J=>?_⟩
 ·rw[h0,if_pos h]
 ·rw[h0,if_neg ad,if_pos ac,if_pos J]
 ·rw[h0,if_neg ad,if_pos ac,if_neg (by simp[J])]
 ·rw[h0,if_neg ad,if_neg ad,if_pos J]
 ·rw[h0,if_neg ad,if_neg ad,if_neg (by simp[J])]
namespace zp
theorem w1(h:p:=by
 obtain⟨bm,a9,bn⟩:=cx (w:=w) [.slice bc bE aN,.slice a3 m L,.slice bF o a2,.int .i64 z] (by rfl) aZ.1 aZ.2 ad ah;have i:=ai a9 bn;clear ah a9 bn bx bd be;obtain⟨bx,bd,be⟩:=bm.two;refine GM (v:=.tuple #[.agg #[.slice bc bE aN,.slice a3 m L,.slice bF o a2,.int .i64 z],.bool true]) (by simp[results,Tryz.results52,go_sem,bx]) rfl ?_;rw[bW.o];show dE lp w {s with fault:=z} true _ _
 exact dT (Q:={s with fault:=z}) (q:=⟨bc,bE,aN,a3,m,L,bF,o,a2⟩) cI.o i.2 (fun b O=>ad) ad i.1
 ):p:=h
theorem wZ(h:p:=by
 refine(ob u s t f x.place N W ⟨GA,gn,gc,MA,mn,mc,PA,pn,pc⟩ ⟨bI,bG,bq,TA,tn,tc,HA,hn,hc⟩ QA qm qc ⟨aU.hU.ok,aU.hS,aU.sm,aU.ht,⟨bh,aU.hp,b9.1⟩,aj.2.2.2.2.2.1,aj.2.2.2.2.2.2.1,aj.2.2.2.2.2.2.2.place⟩).mono ?_;rintro e aH ⟨rfl,bQ⟩;rw[kB aU.ht];have aI:Ext W aH:=Fr.of bQ;have J:=b9.2.2.2;generalize bD u s f x.place=R at *;obtain⟨K,z⟩:=R;have aw:=ae J;clear J bQ a0 al af a7 am aE a6 aL aP;have cH:=aj.1.size;have dx:=aj.2.2.2.2.1.lt;have bp:=ae aI;have b7:=aI.size;obtain⟨a0,al,af⟩:=(aj.2.1.al aI).two;obtain⟨a7,am,aE⟩:=(aj.2.2.1.al aI).two;obtain⟨a6,aL,aP⟩:=(aj.2.2.2.1.al aI).two;clear aI;by_cases bv:z=0
 case neg=>
  have bW:=ae (l.bad bv);have co:(z != 0)=true:=by simpa using bv
  clear bv l aw;go_wp2_with (fail);refine(j5 s ⟨bI,bG,bq,TA,tn,tc,HA,hn,hc⟩ z aH (aj.2.2.2.2.2.2.1.on bp.o) aU.sm).mono ?_;exact w0
 have co:(z != 0)=false:=by simpa using bv
 have aB:=aw.2 bv;have aD:=nP aU.hU.ok;have aM:K≤5000:=by simp only at aB;omega
 have bf:=ae bv;clear bv aB aD;by_cases bo:x.op=4
 ·have c7:(x.op == 4)=true:=by simpa using bo
  have bb:(x.op == 5)=false:=by simp;omega
  have aa:=ae (l.lf bf.o bo);have au:=ae (l.ln bf.o bo);clear bo l;go_wp2_with (fail);refine(AM MA TA mn mc tn tc u.af s.table K t aH (aj.2.2.2.2.2.1.on bp.o).at_.m.ql aU.hU.ok.BB (aj.2.2.2.2.2.2.1.on bp.o).at_.t.holds b9.2.1 ad ad).mono ?_;intro e aQ br;obtain⟨az,aG,rfl,aA,ck,I,bt⟩:=br.open_ (n:=tn) (by rw[gT];exact bT.2.2.2.2.symm);have k:tn=(gO u.af s.table K t).length:=by rw[gT];exact bT.2.2.2.2
  have P:=ai I k;have aW:=ae (show Ext W aQ from bp.trans (Fr.of bt));have bK:=bt.size;generalize aR:gO u.af s.table K t=T at *;clear br ck I bt k aR a0 al af a7 am aE a6 aL aP;obtain⟨a7,am,aE⟩:=(aj.2.2.1.al aW.o).two;obtain⟨a6,aL,aP⟩:=(aj.2.2.2.1.al aW.o).two
  cases bL:free u.af s.table K t with
  | true=>
   exact CW
  | false=>
   have bW:=ae (au.o bL);clear aa au;go_wp2_with (fail);refine(qj s ⟨bI,bG,bq,TA,tn,tc,HA,hn,hc⟩ aQ (aj.2.2.2.2.2.2.1.on aW.o) aU.sm).mono ?_;rintro e bJ ⟨⟨bc,bE,aN,a3,m,L,bF,o,a2⟩,rfl,ch,ay⟩;have cI:=ae ch;have b5:=(aj.2.2.2.2.1.al aW.o).al ay;have aZ:=ai b5 ((aj.1.trans aW.o).trans ay);clear ch ay a7 am aE a6 aL aP;obtain⟨bx,bd,be⟩:=b5.two;clear b5;go_wp2_with (fail);generalize ah:World.setCell _ _ _=Z;obtain⟨bm,a9,bn⟩:=cx (w:=w) [.slice bc bE aN,.slice a3 m L,.slice bF o a2,.int .i64 s.fault] (by rfl) aZ.1 aZ.2 ad ah;have i:=ai a9 bn;clear ah a9 bn bx bd be;obtain⟨bx,bd,be⟩:=bm.two;refine GM (v:=.tuple #[.agg #[.slice bc bE aN,.slice a3 m L,.slice bF o a2,.int .i64 s.fault],.bool false]) (by simp[results,Tryz.results52,go_sem,bx]) rfl ?_;rw[bW.o];show dE lp w s false _ _
   exact dT (Q:=s) (q:=⟨bc,bE,aN,a3,m,L,bF,o,a2⟩) (cI.mono fun b O=>.inr O) i.2 (fun b O=>ad) ad i.1
 ·have cr:x.op=5:=ad;have c7:(x.op == 4)=false:=by simpa using bo
  have bb:(x.op == 5)=true:=by simpa using cr
  have aa:=ae (l.uf bf.o cr);have au:=ae (l.un bf.o cr);clear bo cr l;go_wp2_with (fail);refine(tT MA TA mn mc tn tc u.af s.table K t aH aU.hU.ok.BB (aj.2.2.2.2.2.2.1.on bp.o).at_.t.holds b9.2.1 ad).mono ?_;intro e aQ br;obtain⟨az,aG,rfl,aA,ck,I,bt⟩:=br.open_ (n:=tn) (by rw[fD];exact bT.2.2.2.2.symm);have k:tn=(dD u.af s.table K t).length:=by rw[fD];exact bT.2.2.2.2
  have P:=ai I k;have aW:=ae (show Ext W aQ from bp.trans (Fr.of bt));have bK:=bt.size;generalize aR:dD u.af s.table K t=T at *;clear br ck I bt k aR a0 al af a7 am aE a6 aL aP;obtain⟨a7,am,aE⟩:=(aj.2.2.1.al aW.o).two;obtain⟨a6,aL,aP⟩:=(aj.2.2.2.1.al aW.o).two
  cases bL:heldBy u.af s.table K t with
  | true=>
   exact CW
  | false=>
   have bW:=ae (au.o bL);clear aa au;go_wp2_with (fail);refine(j5 s ⟨bI,bG,bq,TA,tn,tc,HA,hn,hc⟩ 3 aQ (aj.2.2.2.2.2.2.1.on aW.o) aU.sm).mono ?_;rintro e bJ ⟨⟨bc,bE,aN,a3,m,L,bF,o,a2⟩,rfl,ch,ay⟩;have cI:=ae ch;have b5:=(aj.2.2.2.2.1.al aW.o).al ay;have aZ:=ai b5 ((aj.1.trans aW.o).trans ay);clear ch ay a7 am aE a6 aL aP;obtain⟨bx,bd,be⟩:=b5.two;clear b5;go_wp2_with (fail);generalize ah:World.setCell _ _ _=Z;obtain⟨bm,a9,bn⟩:=cx (w:=w) [.slice bc bE aN,.slice a3 m L,.slice bF o a2,.int .i64 3] (by rfl) aZ.1 aZ.2 ad ah;have i:=ai a9 bn;clear ah a9 bn bx bd be;obtain⟨bx,bd,be⟩:=bm.two;refine GM (v:=.tuple #[.agg #[.slice bc bE aN,.slice a3 m L,.slice bF o a2,.int .i64 3],.bool true]) (by simp[results,Tryz.results52,go_sem,bx]) rfl ?_;rw[bW.o];show dE lp w {s with fault:=3} true _ _
   exact dT (Q:={s with fault:=3}) (q:=⟨bc,bE,aN,a3,m,L,bF,o,a2⟩) cI.o i.2 (fun b O=>ad) ad i.1
 ):p:=h
theorem sD(h:p:=by
 have cd:cT (bs u) bh.locals bh.av x.place:=by
  obtain⟨len,_,aJ⟩:=h.ok;rcases aJ with⟨ac,_⟩|⟨ac,_⟩|⟨_,_,ac⟩|⟨ac,_⟩|⟨ac,_⟩|⟨ac,_⟩<;>first|exact ac|omega
 have bi:tn=s.table.length:=by have:=hs.at_.t.1;simpa using this.symm
 have r:=h.hS.Bs;have b0:t≤1000:=ad;have f5:=h.hS.tok cj;have J:=jw (s:=s) (nl:=bh.locals) (nk:=f.av.length) h.hU.ok h.hF (Int.le_refl _) (by rw[h.hF.s9 h.hp];exact cd);have cX:=h.pc;have l:=ae (F5 (u:=u) (s:=s) (t:=t) (f:=f) (x:=x) ct);have aU:=ae h;have bT:=cA bU cV bu b2 bi;have b9:=bO cd f5 cX J;have cg:=aK hu hs bC;clear h bU cV ba bu b2 bi cd f5 J cX r hu hs bC;dsimp only[UV.val,SV.val,IV.val];go_enter func52,ntmps52;exact wY
 ):p:=h
end zp
open zp in
theorem E3(u:aF)(s:an)(t:Int)(f:aq)(bh:c5)(x:aC)(N:Nat)(w:World)(p:UV)(q:SV)(v:IV)(h:lN u s t f bh x N)(cj:N≤100000)(ct:x.op=4∨x.op=5)(hu:p.Ok w u)(hs:q.Ok w s)(bC:v.Ok w x) :
  Calls prog 52 #[.agg (p.val u),.agg (q.val s),.int .i64 t,.agg (v.val x)] w (dE lp w (cp u s t f x).1 (cp u s t f x).2):=by
 obtain⟨bU,cV,ba,fs,bu,b2⟩:=h.th;exact sC
end Go.Proofs.YtjhgbdckgkppnaaGreat

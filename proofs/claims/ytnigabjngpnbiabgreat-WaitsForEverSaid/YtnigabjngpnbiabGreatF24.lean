/- Part 24 of the proof. No condition of its own. -/
import Derived.Test.YtnigabjngpnbiabGreatF23
namespace Go.Proofs.YtnigabjngpnbiabGreat
open Go.RowKit Go.Proofs.Tryz
set_option maxRecDepth 1000000
set_option maxHeartbeats 25600000
set_option linter.unusedVariables false
variable{p:Prop}
namespace Df
theorem c4(h:p:=by
 generalize dp:World.setCell _ _ _=cN;clear bs am aK dZ ea eb ef;obtain⟨dT,dH⟩:=dw.o cN (by rw[<-dp];simp);have cy:=cn.cZ gh dH;have dx:=(cX.trans dH).trans (Mv.hJ (Fr.refl _ cN).drew);have eY:=(fV.trans dH).trans (Mv.hJ (Fr.refl _ cN).drew);have gY:=cy.2;have eS:=dT.aj (Fr.refl (λ_=>False) cN).drew;have ba:=cy.1.aj (Fr.refl (λ_=>False) cN).drew;have co:(gw (aV++[eu 0]) u.length ((aV.length+1:Nat):Int)).length=aV.length+1:=by rw[cA,M3];rfl
 have fv:=Sl.cZ (l:=dc el) bY.el eY;have fe:=bj.2.2.1.2.2.1;obtain⟨gz,gJ,gu,fF⟩:=jl dx eY eS ba;clear dT dH cy dx eY dp eS;generalize cN.drew=gP at *;obtain⟨a0,ak,af⟩:=ba.two;clear ba;have fN:=ee (U:=U) (nk:=nk) el cZ ag aU a9 eL (gw (aV++[eu 0]) u.length ((aV.length+1:Nat):Int)) fe (bj.2.2.2.1.mono a5);go_wp2_with(fail);refine((show l6 U nk F el from fG.2) G cZ ag aU a9 eL (ab+1+th.num) (gw (aV++[eu 0]) u.length ((aV.length+1:Nat):Int)) (aS++[(ab:Int)]) g B bn a8 cq (some ⟨ey,0,none⟩) eI eH eM cu n3 c3 gP fe (bj.2.2.2.1.mono a5) bj.2.2.2.2.1 eE.o gu.o (by rw[cA];exact fv) (by rw[co];omega) (by rw[co];simp only[M3,Nf];omega) ad ad ad).mono ?_;rintro e gU ⟨rfl,g7,fZ,fX,gq,eG,fd,dU,ez⟩;rw[cA] at ez;generalize dP el ag eL (gw (aV++[eu 0]) u.length ((aV.length+1:Nat):Int))=q at *;obtain⟨q1,gG⟩:=q;obtain⟨⟨ig,fR,go,_⟩,fz,fy⟩:=fN;simp only[] at fd dU ez fR fz fy dK;have fb:aV.length+1<=q1.length/\q1.length<=aV.length+1+2*el.num:=by rw[fR];simp only[M3,co];omega
 obtain⟨gZ,g0⟩:=fb;have fH:=ae (gz.trans ez);clear fR go ez a0 ak af fv;have fw:=dU;obtain⟨fY,f8,gb,gc,⟨hg,gd⟩,fc⟩:=fw.target (b:=aV.length) ad ((q1.length:Int));subst f8;obtain⟨ha,gS,gR,hc,g4,g3,g8,gQ,gO,eV,_⟩:=dU.blk
 try simp only[M3,Nf,cA] at eV
 have ge:((aV.length:Nat):Int)<(q1.length:Int):=ad;obtain⟨fJ,gK⟩:=aJ fc dU;clear fc fw;obtain⟨bs,am,aK⟩:=eV.two;clear eV;go_wp2;refine eJ (λ_=>False) [(0,3),(1,3),(2,3),(3,0),(4,3),(5,3),(6,3),(7,3),(8,0),(9,3),(10,3),(11,3),(12,2)] ?_
 iterate 3 refine pf ?_
 refine ph ?_
 iterate 4 refine pf ?_
 refine ph ?_
 iterate 3 refine pf ?_
 refine au rfl (λK hK=>?_);go_simp;refine dY hK ?_;clear hK K;refine aG ?_;generalize fx:World.setCell _ _ _=fK;clear bs am aK gb gc gd ge;obtain⟨f7,fl⟩:=fJ.o fK fx;have dx:=(fH.trans fl).trans (Mv.hJ (Fr.refl _ fK).drew);have ck:=ah (f7.aj NC.drew) (show Mv g (.slice S code.length bQ) (.slice bI sites.length bx) w (.slice (some ⟨fY,0,none⟩) (gw q1 aV.length (q1.length:Int)).length fZ) (.slice fX eG.length gq) fK.drew by rw[cA];exact dx);clear f7 fl dx fx;go_wp2;refine⟨?_,by simp[jH,intOf];omega⟩;unfold jj
 iterate 240 apply Exists.intro
 refine⟨?_,rfl⟩;unfold oY;obtain⟨_,aF,aN,hS,bf,bu,bS,cD,bK⟩:=bj.o;exact⟨k+1,rest,ag,aU,a9,gG,ab+1+th.num+el.num,gw q1 aV.length (q1.length:Int),eG,bn,a8,cq,some ⟨fY,0,none⟩,fZ,fX,gq,by go_num,ad,db.symm,dK,ad,aN.2.2.2,hS.mono ad,bf,by simp only[cA];omega,by simp only[cA];omega,ad,ad,ck.1,ck.2⟩
 ):p:=h
theorem fC(h:p:=by
 refine tf ?_;refine cj ?_;generalize fO:World.setCell _ _ _=gN;obtain⟨_,eW,_⟩:=qu b4 aC bd fO;have cz:=ae eW;clear fO c0 ch bz b4 aC bd cT;have gx:=cH.aj eW;obtain⟨a0,ak,af⟩:=gx.two;clear eW gx;go_wp2_with(fail);refine(gB ag ex aw g (ab:Int) _ _ _ _ _ _ _ (z.aj cz.o).L (D.on aP.1 (Fr.ext cz.o))).mono ?_;rintro e aO ⟨o1,q1,s1,fi,da,cU,rfl,cw,ar⟩;have bw:=ae (cz.trans ar);have fI:=ae cw;clear a0 ak af ar cw;go_upto_region 13 with(fail);generalize hV:World.alloc _ _=dq;have ai:=aX hV;have cx:=aL hV;have a7:=z.aj (bw.trans ai);obtain⟨h7,hD,hv,ib,hQ,hJ,h2,hp,hi,bM,_⟩:=a7.blk;have dk:=ae (bw.trans ai);have a3:(bo (bL ag ex)).rep dq (fresh X dq) [o1,q1,s1,.slice fi da cU]:=
  D.aM (λb O=>⟨Nl cz.size O.1,M0 O.2 ai.size⟩) _ _ (D.aO (λb O=>ai.block b O.2 λh=>h) _ _ fI.o)
 have gC:=ae a3;clear hV a3 a7;obtain⟨a0,ak,af⟩:=cx.two;obtain⟨bs,am,aK⟩:=bM.two;clear cx bM;go_wp2;refine eJ (λ_=>False) [(0,3),(1,3),(2,3),(3,3),(4,0),(5,0),(6,3),(7,3),(8,2)] ?_
 iterate 4 refine pf ?_
 iterate 2 refine ph ?_
 iterate 2 refine pf ?_
 refine au rfl (λK hK=>?_);go_simp;have a7:=z.aj dk.drew;refine(hq a7 (lV a6 false (bL ag ex)) (ab:Int) (lu (iC z.o (E8 gC.o NC.drew))) ad ad).mono ?_;rintro e dj ⟨rfl,cp,b1,c7,c9,ds,dN⟩;refine dY hK ?_;clear hK K;refine aG ?_;clear a0 ak af bs am aK a7;have fj:=ae ds;have cF:Mv g (.slice Y u.length ao) (.slice aH y.length aZ) dq.drew (.slice cp (u++[lV a6 false (bL ag ex)]).length b1) (.slice c7 (y++[(ab:Int)]).length c9) dj:=by rw[M3,M3];exact dN
 have gW:a8<=100000:=by have ac:=bj.2.2.2.2.2.2.2.2;rw[<-eD,M5];omega
 have cX:=ae (et.trans ((Mv.hJ dk.drew).trans cF));clear cF;have bX:=(cH.aj dk.drew).on dN.fr (by
  intro hm;rcases hm with hm|hm|hm
  .have:=HA.lt;omega
  .have:=(HA.rows.one.lt hm).2;omega
  .have:=(HA.rows.two.lt hm).2;omega)
 obtain⟨a0,ak,af⟩:=bX.two;obtain⟨h8,hE,hz,ie,hR,hL,h3,hr,hj,bm,_⟩:=ds.blk;obtain⟨bs,am,aK⟩:=bm.two;have dC:=ds.names.2.mono (λb (O:off _ dj b)=>(show av dj b from O.1));obtain⟨cV,dy⟩:∃N,N=dj.heap.size:=⟨_,rfl⟩
 have gE:¬cV<=g:=ad;have gF:¬cV<=wr:=ad;clear ds dN bX bm;go_wp2;refine sK (λb=>cV<=b) [15,18] (.free 0 (.free 2 (.free 3 (.free 4 (.held 5 (.free 7 (.held 8 (.free 9 (.free 10 (.free 11 (.held 12 (.free 13 (.pick [1,14] (λi=>bif i == 1 then .pick [6,14] (λi=>bif i == 6 then .pick [14] (λ_=>.pick [15] (λ_=>.free 16 (.free 17 (.pick [18] (λ_=>.stop))))) else .pick [6] (λ_=>.pick [15] (λ_=>.free 16 (.free 17 (.pick [18] (λ_=>.stop)))))) else .pick [1] (λ_=>.pick [6] (λ_=>.pick [15] (λ_=>.free 16 (.free 17 (.pick [18] (λ_=>.stop)))))))))))))))))))) ?_
 iterate 4 refine tf ?_
 refine pd ?_;refine tf ?_;refine pd ?_
 iterate 3 refine tf ?_
 refine pd ?_;refine tf ?_;clear a0 ak af;refine jg (P:=?pT) (ops:=?J1) (Q:=?J3) (R:=?J4) (tails:=?J8) (rest:=.pick [15] (λ_=>.free 16 (.free 17 (.pick [18] (λ_=>.stop))))) (aa:=?J0)
  (C:=λ(_:Nat) br A2 bR V=>Ext dj V/\Gr (λ_=>False) cV 128 3 V A2 a8 bR (ag.map b2)/\an V br 128 #[nm,(4:Int),a6]) (λkey=>?zU) ?zO
 case zU=>
  refine a2 ?_ ?_
  ·
   refine ep ?_;generalize hV:World.drew (World.alloc _ _)=bg;have e1:=hy hV;have c8:Gr (λ_=>False) cV 128 3 bg (some ⟨dj,0,none⟩) 0 0 []:=by rw[<-hV,dy];exact(Gr.lit (w:=dj) (n:=0) (l:=[]) rfl (by rfl) ad (by simp only[D.aQ])).aj NC.drew
   have eB:=kX (dC.on (Fr.ext e1));clear hV;refine a2 ?_ ?_
   ·
    refine aD rfl (λK hK=>?_) rfl;rw[if_pos (by rfl)];refine jG jz (.tmp 77) (.tmp 81) (by rfl) c8 (lv ag) eD eB (λh=>by subst h;exact Sl.none_ dC) (by rfl) (by rfl) ad ad (by rw[dy];exact e1.size) ?_;intro A2 bR cJ cd f1 o1 c1;refine dB hK (f1.mono λb O=>ad) ?_;clear hK K;refine aq ?_;refine ep ?_;have e2:Ext dj cJ:=Fr.low (M:=λb=>dj.heap.size<=b) ((e1.mono λ_ h=>h.elim).trans (f1.mono λb O=>ad)) λ_ h=>h;have F:Ext dj (cJ.alloc (.cells #[nm,(4:Int),a6] 128))/\Gr (λ_=>False) cV 128 3 (cJ.alloc (.cells #[nm,(4:Int),a6] 128)) A2 a8 bR (ag.map b2)/\
      an (cJ.alloc (.cells #[nm,(4:Int),a6] 128)) cJ 128 #[nm,(4:Int),a6]:=⟨e2.alloc _,cd.aj (NC.alloc _),ND⟩
    clear cd c8 f1 o1 e1 e2 eB;revert F;generalize cJ.heap.size=br;generalize dj.heap.size=fk;intro F;exact key fk br A2 bR _ F
   ·
    refine ep ?_;generalize hV:World.alloc _ _=eN;have e2:=aX hV;have cl:an eN bg 128 #[nm,(4:Int),a6]:=hV▸ND;have dD:=kX (dC.on (Fr.ext (e1.trans e2)));clear hV eB;have dJ:dj<bg.heap.size:=(c8.lt (g:=dj.heap.size) rfl).2;refine aq ?_;refine aD rfl (λK hK=>?_) rfl;rw[if_pos (by rfl)];refine jG jz (.tmp 77) (.tmp 81) (by rfl) (c8.aj e2) (lv ag) eD dD (λh=>by subst h;exact Sl.none_ dC) (by rfl) (by rfl) ad ad (by rw[dy];exact(e1.trans e2).size) ?_;intro A2 bR cJ cd f1 o1 c1;refine dB hK (f1.mono λb O=>ad) ?_;clear hK K;have e3:Ext dj cJ:=Fr.low (M:=λb=>dj.heap.size<=b) (((e1.trans e2).mono λ_ h=>h.elim).trans (f1.mono λb O=>ad)) λ_ h=>h;have F:Ext dj cJ/\Gr (λ_=>False) cV 128 3 cJ A2 a8 bR (ag.map b2)/\an cJ bg 128 #[nm,(4:Int),a6]:=⟨e3,cd,cl.on f1 ad⟩
    clear cd c8 f1 o1 e1 e2 e3 dD cl dJ;revert F;generalize bg.heap.size=br;generalize dj.heap.size=fk;intro F;exact key fk br A2 bR _ F
  ·
   refine ep ?_;generalize hV:World.drew (World.alloc _ _)=bg;have e1:=hy hV;have cl:an bg dj 128 #[nm,(4:Int),a6]:=hV▸ND;clear hV;refine aq ?_;refine ep ?_;generalize hV:World.alloc _ _=eN;have e2:=aX hV;have c8:Gr (λ_=>False) bg 128 3 eN (some ⟨bg,0,none⟩) 0 0 []:=hV▸Gr.lit (w:=bg) (n:=0) (l:=[]) rfl (by rfl) ad (by simp only[D.aQ]);have dl:=cl.aj e2;have dD:=kX (dC.on (Fr.ext (e1.trans e2)));have dJ:dj<bg.heap.size:=cl.lt;clear hV cl;refine aq ?_;refine aD rfl (λK hK=>?_) rfl;rw[if_pos (by rfl)];refine jG jz (.tmp 77) (.tmp 81) (by rfl) c8 (lv ag) eD dD (λh=>by subst h;exact Sl.none_ dC) (by rfl) (by rfl) ad ad e2.size ?_;intro A2 bR cJ cd f1 o1 c1;refine dB hK (f1.mono λb O=>ad) ?_;clear hK K;have e3:Ext dj cJ:=Fr.low (M:=λb=>dj.heap.size<=b) (((e1.trans e2).mono λ_ h=>h.elim).trans (f1.mono λb O=>ad)) λ_ h=>h;have F:Ext dj cJ/\Gr (λ_=>False) cV 128 3 cJ A2 a8 bR (ag.map b2)/\an cJ dj 128 #[nm,(4:Int),a6]:=⟨e3,cd.base ad,dl.on f1 ad⟩
   clear cd c8 f1 o1 e1 e2 e3 dD dl;revert F;generalize bg.heap.size=fk;generalize dj.heap.size=br;intro F;exact key fk br A2 bR _ F
 case zO=>
  rintro fk br A2 bR gL ⟨b3,c6,cl⟩;have fh:=b3.size;have f6:=fj.aj b3;obtain⟨hb,hF,hA,he,hT,hN,g9,hs,hk,bm,_⟩:=f6.blk;clear bs am aK f6;refine aq ?_;refine bP rfl (λK hK=>?_) rfl;rw[if_pos (by rfl)];refine fq jz (.tmp 82) (.tmp 90) (by rfl) c6 cl (ka ⟨nm,4,a6⟩) (by rfl) (by rfl) (by rfl) ad ad ad ?_;intro gt cS gP ff f5 gH gr;have co:Ext dj gP:=Fr.low (M:=λb=>dj.heap.size<=b) ((b3.mono λ_ h=>h.elim).trans (f5.mono λb O=>by have:=(c6.lt O).1;omega)) λ_ h=>h;have ba:=bm.on f5 (λO=>by have:=(c6.lt O).1;omega);have dv:=ah ff co;clear ff f5 gH c6 cl bm b3 co fh;obtain⟨bs,am,aK⟩:=ba.two;refine dY hK ?_;clear hK K
  iterate 2 refine tf ?_
  refine aq ?_;refine bP rfl (λK hK=>?_) rfl;go_simp;refine dY hK ?_;clear hK K;refine cj ?_;generalize ci:World.setCell _ _ _=gD;have eS:=fj.aj dv.2;have g2:=dv.2.size;obtain⟨dU,ez⟩:=eS.Fu (ag:=ag++[⟨nm,4,a6⟩]) ad (by
   rw[Na];refine dv.1.sl (λb _ h=>h.elim) λb ac az=>⟨ac,λhm=>?_⟩
   rcases hm with hm|hm|hm
   .omega
   .have:=(fj.rows.one.lt hm).2;omega
   .have:=(fj.rows.two.lt hm).2;omega) ci
  have gv:=ae dU;have fH:=ae (cX.trans ((Mv.hJ dv.2).trans ez));obtain⟨h5,hG,hB,MW,hW,hO,hZ,ht,hl,T,_⟩:=dU.blk;clear bs am aK ba ci eS dU ez dC;obtain⟨bs,am,aK⟩:=T.two;clear T;go_upto_region 3 with(fail);generalize e4:World.setCell _ _ _=hf;have hw:wrap64 (a6+1)=a6+1:=IntWalk.wrap64_in _ (by have h0:=bj.2.2.2.1.n0;have ac:=bj.2.2.2.2.2.2.2.1;omega);rw[hw] at e4;obtain⟨ft,fu⟩:=gv.locals e4;have ck:=ah ft (fH.trans fu);clear e4 ft fu bs am aK;go_wp2;refine⟨?_,by simp[jH,intOf];omega⟩;unfold jj
  iterate 240 apply Exists.intro
  refine⟨?_,rfl⟩;unfold oY;obtain⟨aQ,aF,aN,hS,bf,bu,bS,cD,bK⟩:=bj.o;have wf:=(show eX G d (aU++[nm]) (a9++[nm]) rest by cases d<;>exact aN.2.2.2)
  exact⟨k+1,rest,ag++[⟨nm,4,a6⟩],aU++[nm],a9++[nm],a6+1,ab+1,u++[lV a6 false (bL ag ex)],y++[(ab:Int)],gt,(a8+1),cS,cp,b1,c7,c9,by go_num,ad,db.symm,(show dP rest (ag++[⟨nm,4,a6⟩]) (a6+1) (u++[lV a6 false (bL ag ex)])=dP b l n code from aQ),by simp only[al.num] at aF;omega,wf,hS.add ek.1,bf.app _,by simp only[al.num] at bu;simp only[M3,Nf];omega,by simp only[M3,Nf];omega,by simp only[al.num] at cD;omega,by simp only[al.num] at bK;simp only[M3,Nf];omega,ck.1,ck.2⟩
 ):p:=h
theorem wQ(h:p:=by
 refine(eh bn a8 cq ag nm V.drew (cT.on (Fr.ext aC.drew)) du).mono ?_;rintro e aO ⟨rfl,ar⟩;rw[a1];simp only[jq];refine dY hK ?_;clear hK K
 iterate 3 refine tf ?_
 have cg:=aT.aj (Fr.aF ar);have aM:=aC.trans (Fr.aF ar);clear aT aC ar;exact key X aO ⟨aM,cg,MU _⟩
 ):p:=h
theorem BV(h:p:=by
 refine lP (P:=?LM) (ops:=?LY) (Q:=?LZ) (R:=?L0) (tails:=?L1) (rest:=.pick [11] (λ_=>.free 12 (.stop))) (aa:=?LN) (C:=λdd V=>Ext X V/\an V dd 128 #[NF,(0:Int),(0:Int)]/\X.heap.size<=dd) (λkey=>?KJ) ?KF
 case KJ=>
  refine a2 ?_ ?_
  ·
   refine bP rfl (λK hK=>?_) rfl;go_simp;refine(eh bn a8 cq ag nm X.drew (cT.on (Fr.ext NC.drew)) du).mono ?_;rintro e aO ⟨rfl,ar⟩;rw[a1];simp only[jq];refine dY hK ?_;clear hK K
   iterate 3 refine tf ?_
   refine aq ?_;refine ep ?_;generalize hV:World.alloc _ _=V;have aT:=aL hV;have aC:Ext X V:=hV▸(Fr.aF ar).alloc _;exact Ex
  ·
   exact wP
 case KF=>
  rintro dd V ⟨aC,b4,bd⟩;obtain⟨c0,ch,bz⟩:=b4.two;clear a0 ak af bs am aK;exact fQ
 ):p:=h
theorem wG(h:p:=by
 have gm:gs<wr:=gl.1;have bU:=M4 cf;have b8:bl.list=s::b.list.drop (k+1):=be▸(List.drop_eq_getElem?_toList_append▸(by rw[cf];rfl));obtain⟨bs,am,aK⟩:=aT.two;obtain⟨HA,dX,bY⟩:=eU bF hM eK;have fG:=ae (cC.o s bU);clear aT bF hM dQ gn Z gl eK f2;have c5:¬gs=wr:=ad;have cE:¬g=wr:=ad;go_wp2;refine eJ (λb=>b=wr.heap.size) [(0,3),(1,3),(2,3),(3,0),(4,3),(5,3),(6,3),(7,0),(8,1),(9,1),(10,3)] ?_
 iterate 3 refine pf ?_
 refine oP ?_
 iterate 3 refine pf ?_
 refine oP ?_;refine rS ?_;refine aE rfl (λK hK=>?_);go_simp;generalize hV:World.drew (World.alloc _ _)=V;have ai:=hy hV;have bN:an V wr 175 #[.int .i64 s.kind,.string s.name,eo,en,es,.slice EA em ec,rs,.slice cr b5 rc,.slice cR n1 c1,.slice A2 n2 c2,.slice cu n3 c3]:=hV▸(ND).drew;refine dB hK (Jm (NC.alloc _).drew ai (by simp) (by rw[<-hV];simp)) ?_;clear hK K;refine pf ?_;refine aG ?_;have fU:=ae bN;have fL:=HA.aj ai;have f9:=dX.trans (Mv.hJ ai);obtain⟨h4,bJ,b7,h9,eq,di,hY,hn,hU,b4,_⟩:=fL.blk;obtain⟨bO,gy,gA⟩:=eU ai fL f9;clear hV ai bs am aK d0 d1 d2 d3 d4 d5 d6 d7 d8 d9 d10 c5 cE gm fL f9 bN;obtain⟨bs,am,aK⟩:=b4.two;clear b4;go_upto_region 6 with(fail);generalize hX:World.setCell _ _ _=X;obtain⟨eT,dO⟩:=gy.stmt (X:=X) (by rw[<-hX,Int.natCast_add];rfl);have b9:=cP hX;have bE:=fU.on b9 (ax HA.lt);have bt:Ext wr V:=bO.o;have z:=ae eT;have et:=ae (gA.trans dO);have dG:=ae ((Mv.hJ bt).trans dO);have gT:u.length<=100000:=ad;have g1:=bS;have bj:=yl aQ aF aN hS bf bu bS cD bK;obtain⟨h6,hC,hu,ia,hP,hH,h1,ho,hh,cQ,_⟩:=eT.blk;have fg:=cQ.lt;clear hX b9 bs am aK eT dO bt aQ aF aN hS bf fU;obtain⟨bs,am,aK⟩:=cQ.two;clear cQ
 cases bl with
 | nil=>simp[al.list] at b8
 | set bv nm ex rest=>
  cases bv
  ·
   simp only[al.list,List.cons.injEq] at b8;obtain⟨rfl,db⟩:=b8;have aA:an X wr 175 #[(2:Int),nm,eo,en,es,.slice EA em ec,rs,.slice cr b5 rc,.slice cR n1 c1,.slice A2 n2 c2,.slice cu n3 c3]:=bE;clear bE;have cH:=ae aA;obtain⟨a0,ak,af⟩:=aA.two;clear aA;have ek:=(show nm∈aU/\ex.src aU 2 by have:=bj.2.2.1;cases d<;>exact⟨this.1,this.2.1⟩)
   obtain⟨v,J,ce⟩:=bj.2.2.2.1.vars nm ek.1;have cK:v.kind=1\/v.kind=4:=ce.imp (λh=>h.1) (λh=>h.1);have aw:=bj.2.2.2.1.gp 2 ex ek.2;have eA:jC ag nm=v.n:=by simp[jC,J]
   have fP:uS ag nm=v.kind:=by simp[uS,J]
   have bD:(bo ex).rep X (av X) [eo,en,es,.slice EA em ec]:=D.aM (λ_ h=>h.1) _ _ (D.cZ (d:=bo ex) bY.expr dG.o);have aP:=ah bD aw;clear bD ce;go_wp2_with(fail);refine(ny g ag nm v J cK (ab:Int) X z.L).mono ?_;rintro e aO ⟨rfl,ar⟩;simp only[rP];go_upto_region 18 with(fail);generalize hV:World.alloc _ _=dq;have ai:Ext X dq:=hV▸ar.alloc _;have cx:=aL hV;have bG:=cH.aj ai;have dk:=ae ai;clear hV a0 ak af bs am aK ar ai;obtain⟨a0,ak,af⟩:=bG.two;obtain⟨bs,am,aK⟩:=cx.two;clear cx bG;go_wp2;refine eJ (λ_=>False) [(0,3),(1,3),(2,0),(3,3),(4,0),(5,3),(6,3),(7,3),(8,0),(9,3),(12,3),(10,1),(11,3),(13,2)] ?_
   iterate 2 refine pf ?_
   refine ph ?_;refine pf ?_;refine ph ?_
   iterate 3 refine pf ?_
   refine ph ?_
   iterate 2 refine pf ?_
   refine aE rfl (λK hK=>?_);go_simp;refine(gB ag ex aw g (ab:Int) _ _ _ _ _ _ _ (z.aj dk.drew).L (D.on aP.1 (Fr.ext dk.drew))).mono ?_;rintro e b6 ⟨o1,q1,s1,fi,da,cU,rfl,cw,bZ⟩;refine dB hK (bZ) ?_;clear hK K;refine pf ?_;refine au rfl (λK hK=>?_);go_simp;have dt:Ext X b6:=dk.trans (Fr.aF bZ);have cL:=z.aj dt;refine(hq cL (lV v.n (v.kind == 1) (bL ag ex)) (ab:Int) (lu (iC z.o (xc cw dk.size))) ad ad).mono ?_;rintro e aW ⟨rfl,cp,b1,c7,c9,a7,bV⟩;refine dY hK ?_;clear hK K;refine aG ?_;have ck:=ah a7 ((et.trans (Mv.hJ dt)).trans bV);clear a7 bV a0 ak af bs am aK cL cw bZ dt;go_wp2;refine⟨?_,by simp[jH,intOf];omega⟩;unfold jj
   iterate 240 apply Exists.intro
   refine⟨?_,rfl⟩;unfold oY;obtain⟨aQ,aF,aN,hS,bf,bu,bS,cD,bK⟩:=bj.o;have wf:=(show eX G d aU a9 rest by cases d<;>exact aN.2.2)
   exact⟨k+1,rest,ag,aU,a9,a6,ab+1,u++[lV v.n (v.kind == 1) (bL ag ex)],y++[(ab:Int)],bn,a8,cq,cp,b1,c7,c9,by go_num,ad,db.symm,(by rw[<-eA,<-fP];exact aQ),by simp only[al.num] at aF;omega,wf,hS,bf,by simp only[al.num] at bu;simp only[M3,Nf];omega,by simp only[M3,Nf];omega,by simp only[al.num] at cD;omega,by simp only[al.num] at bK;omega,ck.1,by rw[M3,M3];exact ck.2⟩
  ·
   simp only[al.list,List.cons.injEq] at b8;obtain⟨rfl,db⟩:=b8;have aA:an X wr 175 #[(1:Int),nm,eo,en,es,.slice EA em ec,rs,.slice cr b5 rc,.slice cR n1 c1,.slice A2 n2 c2,.slice cu n3 c3]:=bE;clear bE;have cH:=ae aA;obtain⟨a0,ak,af⟩:=aA.two;clear aA;have ek:=(show nm∉a9/\ex.src aU 2 by have:=bj.2.2.1;cases d<;>exact⟨this.2.1,this.2.2.1⟩)
   have a1:dI ag nm=none:=kb λj x bi hx=>ek.1 (hx▸bj.2.2.2.1.taken x (M4 bi));have aw:=bj.2.2.2.1.gp 2 ex ek.2;have bD:(bo ex).rep X (av X) [eo,en,es,.slice EA em ec]:=D.aM (λ_ h=>h.1) _ _ (D.cZ (d:=bo ex) bY.expr dG.o);obtain⟨du,ei⟩:=z.names;have cT:=ei.mono (λb (O:off _ X b)=>(show av X b from O.1));have aP:=ay bD cT aw;have eD:(ag.map b2).length=a8:=cT.1;clear bD ei;go_upto_region 9 with(fail)
   exact BU
 | call bb nm aY rest=>
  cases bb
  case' false=>let bb:=false
  case' true=>let bb:=true
  all_goals
   simp only[al.list,List.cons.injEq] at b8;obtain⟨rfl,db⟩:=b8;have aA:an X wr 175 #[.int .i64 _,nm,eo,en,es,.slice EA em ec,rs,.slice cr b5 rc,.slice cR n1 c1,.slice A2 n2 c2,.slice cu n3 c3]:=bE;clear bE;have cH:=ae aA;obtain⟨a0,ak,af⟩:=aA.two;clear aA;have ek:=(show ∃ps,(nm,ps)∈G.funcs/\ix G aU ps aY by have:=bj.2.2.1;cases d<;>exact this.1)
   obtain⟨ps,cc,aI⟩:=ek;obtain⟨v,f,J,ed,h0,fM,rfl⟩:=bj.2.2.2.2.1 nm ps cc;have ga:=bj.2.2.2.1.jA _ _ aI;have eA:jC ag nm=v.n:=by simp[jC,J]
   have cM:=eE.o f (M4 fM);have dA:Sl X (av X) cR n1 (aY.map eP):=(Sl.cZ (l:=aY.map eP) bY.args dG.o).mono (λ_ h=>h.1);go_wp2_with(fail);refine(EL eg g ag U.af F bb nm aY v f J ed h0 fM ga cM eo en es EA em ec rs cr b5 rc cR n1 c1 A2 n2 c2 cu n3 c3 (ab:Int) _ z.L z.M_ z.F_ dA).mono ?_;rintro e aO ⟨IA,i,ic,KA,j,kc,rfl,cw,ar⟩;have df:=z.aj ar;have a3:=iC z.o cw;clear dA ga cw;go_wp2_with(fail);refine(hq df (lZ bb v.n (bW ag aY) (cG ag aY)) (ab:Int) (a3) ad ad).mono ?_;rintro e aW ⟨rfl,cp,b1,c7,c9,a7,bV⟩;have ck:=ah a7 ((et.trans (Mv.hJ ar)).trans bV);clear a7 bV a0 ak af bs am aK df a3 ar cc aI J ed h0 fM cM;go_wp2;refine⟨?_,by simp[jH,intOf];omega⟩;unfold jj
   iterate 240 apply Exists.intro
   refine⟨?_,rfl⟩;unfold oY;obtain⟨aQ,aF,aN,hS,bf,bu,bS,cD,bK⟩:=bj.o;have wf:=(show eX G d aU a9 rest by cases d<;>exact aN.2)
   exact⟨k+1,rest,ag,aU,a9,a6,ab+1,u++[lZ bb v.n (bW ag aY) (cG ag aY)],y++[(ab:Int)],bn,a8,cq,cp,b1,c7,c9,by go_num,ad,db.symm,(by rw[<-eA];exact aQ),by simp only[al.num] at aF;omega,wf,hS,bf,by simp only[al.num] at bu;simp only[M3,Nf];omega,by simp only[M3,Nf];omega,by simp only[al.num] at cD;omega,by simp only[al.num] at bK;omega,ck.1,by rw[M3,M3];exact ck.2⟩
 | lock bb r rest=>
  cases bb
  case' false=>let bb:=false
  case' true=>let bb:=true
  all_goals
   simp only[al.list,List.cons.injEq] at b8;obtain⟨rfl,db⟩:=b8;have aA:an X wr 175 #[.int .i64 _,NF,eo,en,es,.slice EA em ec,rs,.slice cr b5 rc,.slice cR n1 c1,.slice A2 n2 c2,.slice cu n3 c3]:=bE;clear bE;have cH:=ae aA;obtain⟨a0,ak,af⟩:=aA.two;clear aA;have eF:=(show rI G aU r by have:=bj.2.2.1;cases d<;>exact this.1)
   have gk:=bj.2.2.2.1.q2 r eF;have bD:(kW r).rep X (av X) [rs,.slice cr b5 rc]:=D.aM (λ_ h=>h.1) _ _ (D.cZ (d:=kW r) bY.ref dG.o);go_wp2_with(fail);refine(eg g ag U.af r gk (ab:Int) rs cr b5 rc _ z.L z.M_ bD).mono ?_;rintro e aO ⟨g6,eO,cW,bh,cY,rfl,cw,ar⟩;have df:=z.aj ar;have a3:=iC z.o cw;clear bD gk cw;go_wp2_with(fail);refine(hq df (qA bb (mG ag r)) (ab:Int) (w9 a3) ad ad).mono ?_;rintro e aW ⟨rfl,cp,b1,c7,c9,a7,bV⟩;have ck:=ah a7 ((et.trans (Mv.hJ ar)).trans bV);clear a7 bV a0 ak af bs am aK df a3 ar eF;go_wp2;refine⟨?_,by simp[jH,intOf];omega⟩;unfold jj
   iterate 240 apply Exists.intro
   refine⟨?_,rfl⟩;unfold oY;obtain⟨aQ,aF,aN,hS,bf,bu,bS,cD,bK⟩:=bj.o;have wf:=(show eX G d aU a9 rest by cases d<;>exact aN.2)
   exact⟨k+1,rest,ag,aU,a9,a6,ab+1,u++[qA bb (mG ag r)],y++[(ab:Int)],bn,a8,cq,cp,b1,c7,c9,by go_num,ad,db.symm,aQ,by simp only[al.num] at aF;omega,wf,hS,bf,by simp only[al.num] at bu;simp only[M3,Nf];omega,by simp only[M3,Nf];omega,by simp only[al.num] at cD;omega,by simp only[al.num] at bK;omega,ck.1,by rw[M3,M3];exact ck.2⟩
 | ite ex th el rest=>
  simp only[al.list,List.cons.injEq] at b8;obtain⟨rfl,db⟩:=b8;have aA:an X wr 175 #[(7:Int),NF,eo,en,es,.slice EA em ec,rs,.slice cr b5 rc,.slice cR n1 c1,.slice A2 n2 c2,.slice cu n3 c3]:=bE;clear bE;have cH:=ae aA;obtain⟨a0,ak,af⟩:=aA.two;clear aA;have hd:∃cZ,d=cZ+1:=by
   exact AW
  obtain⟨cZ,hd⟩:=hd;subst hd;have dE:=bj.2.2.1;have aw:=bj.2.2.2.1.gp 2 ex dE.1;have bq:=dE.2.1;have dm:=ee (U:=U) (nk:=nk) th cZ ag aU a9 a6 (u++[kM (bL ag ex) 0]) bq bj.2.2.2.1;have e5:=bj.2.2.2.2.2.1;have e7:=bj.2.2.2.2.2.2.2.1;have e6:=bj.2.2.2.2.2.2.2.2;have dL:=bj.2.1;simp only[al.num] at e5 e7 e6 dL;have bD:(bo ex).rep X (av X) [eo,en,es,.slice EA em ec]:=D.aM (λ_ h=>h.1) _ _ (D.cZ (d:=bo ex) bY.expr dG.o);go_wp2_with(fail);refine(gB ag ex aw g (ab:Int) _ _ _ _ _ _ _ z.L bD).mono ?_;rintro e aO ⟨o1,q1,s1,fi,da,cU,rfl,cw,ar⟩;have df:=z.aj ar;have a3:=iC z.o cw;clear bD cw;go_wp2_with(fail);refine(hq df (kM (bL ag ex) 0) (ab:Int) (lu a3) ad ad).mono ?_;rintro e aW ⟨rfl,cp,b1,c7,c9,a7,bV⟩;have dW:Mv g (.slice Y u.length ao) (.slice aH y.length aZ) aO (.slice cp (u++[kM (bL ag ex) 0]).length b1) (.slice c7 (y++[(ab:Int)]).length c9) aW:=by rw[M3,M3];exact bV
  have bB:=(Mv.hJ (g:=g) (cv:=.slice Y u.length ao) (sv:=.slice aH y.length aZ) ar).trans dW;have e8:¬Ms g (.slice Y u.length ao) (.slice aH y.length aZ) wr:=by
   exact AD
  obtain⟨bG,e9⟩:=cH.cZ e8 bB;have eZ:=Sl.cZ (l:=dc th) bY.th (dG.trans bB);have eQ:=ae (et.trans bB);have eR:=ae (dG.trans bB);obtain⟨ca,cb⟩:=aJ a7 bG;clear bV dW bB a0 ak af bs am aK df a3 ar a7;obtain⟨a0,ak,af⟩:=bG.two;clear bG;go_wp2_with(fail);refine((show l6 U nk F th from fG.1) G cZ ag aU a9 a6 (ab+1) (u++[kM (bL ag ex) 0]) (y++[(ab:Int)]) g B bn a8 cq cp b1 c7 c9 A2 n2 c2 aW bq bj.2.2.2.1 bj.2.2.2.2.1 eE.o ca.o eZ (by simp only[M3,Nf];omega) (by simp only[M3,Nf];omega) ad ad ad).mono ?_;rintro e b6 ⟨rfl,dF,dr,dM,dR,aS,cI,cL,dg⟩;have dK:=bj.1;rw[dP] at dK;generalize dP th ag a6 (u++[kM (bL ag ex) 0])=p at *;obtain⟨aV,eL⟩:=p;obtain⟨⟨gI,de,ej,_⟩,a5,dh⟩:=dm;simp only[] at cI cL dg de a5 dh dK;have fa:u.length+1<=aV.length/\aV.length<=u.length+1+2*th.num:=by rw[de];simp only[M3,Nf];omega
  obtain⟨gi,gj⟩:=fa;clear de ej;have er:=ae (eQ.trans dg);have fm:=ae (eR.trans dg);obtain⟨b0,fA⟩:=cb.cZ e9 dg;obtain⟨cm,dS⟩:=aJ b0 cL;clear dg cL a0 ak af;obtain⟨a0,ak,af⟩:=b0.two;clear b0;cases aR:el.isNil
  ·
   rw[if_neg (by rw[aR];simp)] at dK;have gg:0<n3:=by have:=bY.el.1;rw[uN,show aB.el (.ite ex th el)=el from rfl] at this;rw[qD] at aR;simp at aR;rw[<-this];exact Nat.pos_of_ne_zero (by simpa using aR)
   have gX:decide ((n3:Int) > 0)=true:=by simpa using gg
   go_wp2_with(fail);refine(hq dS.o (eu 0) (ab:Int) (jP (is:=[]) (ps:=[]) (Sl.bY _) (Sl.bY _) (MU _) (MU _)) ad ad).mono ?_;rintro e cO ⟨rfl,fE,eI,eH,eM,ds,dN⟩;have cF:Mv g (.slice dF aV.length dr) (.slice dM aS.length dR) b6 (.slice fE (aV++[eu 0]).length eI) (.slice eH (aS++[(ab:Int)]).length eM) cO:=by rw[M3,M3];exact dN
   have cX:=ae (er.trans cF);have fV:=ae (fm.trans cF);obtain⟨bX,gh⟩:=cm.cZ fA cF;have cn:=ae bX;clear dN cF a0 ak af bX;have dn:=ds;obtain⟨ey,dV,dZ,ea,⟨f3,eb⟩,bT⟩:=dn.target (b:=u.length) (by simp only[M3,Nf];omega) (((aV.length+1:Nat):Int));subst dV;obtain⟨fT,fs,fr,fW,fD,fB,fS,fp,fo,bA,_⟩:=ds.blk
   try simp only[M3,Nf] at bA
   have ef:((u.length:Nat):Int)<(aV.length:Int)+1:=ad;obtain⟨dw,fn⟩:=aJ bT ds;clear bT dn;obtain⟨bs,am,aK⟩:=bA.two;clear bA;go_wp2;refine eJ (λ_=>False) [(0,3),(1,3),(2,3),(3,0),(4,3),(5,3),(6,3),(7,3),(8,0),(9,3),(10,3),(11,3),(12,2)] ?_
   iterate 3 refine pf ?_
   refine ph ?_
   iterate 4 refine pf ?_
   refine ph ?_
   iterate 3 refine pf ?_
   exact ew
  ·
   rw[if_pos aR] at dK;have gf:n3=0:=by have:=bY.el.1;rw[uN,show aB.el (.ite ex th el)=el from rfl] at this;rw[qD] at aR;simp at aR;rw[<-this,aR];rfl
   subst gf;have dn:=dS.o;obtain⟨ey,dV,dZ,ea,⟨f3,eb⟩,bT⟩:=dn.target (b:=u.length) ad ((aV.length:Int));subst dV;obtain⟨fT,fs,fr,fW,fD,fB,fS,fp,fo,bA,_⟩:=dS.blk
   try simp only[M3,Nf,cA] at bA
   have ef:((u.length:Nat):Int)<(aV.length:Int):=ad;obtain⟨dw,fn⟩:=aJ bT dS.o;clear bT dn;obtain⟨bs,am,aK⟩:=bA.two;clear bA;go_wp2;refine eJ (λ_=>False) [(0,3),(1,3),(2,3),(3,0),(4,3),(5,3),(6,3),(7,3),(8,0),(9,3),(10,3),(11,3),(12,2)] ?_
   iterate 3 refine pf ?_
   refine ph ?_
   iterate 4 refine pf ?_
   refine ph ?_
   iterate 3 refine pf ?_
   refine au rfl (λK hK=>?_);go_simp;refine dY hK ?_;clear hK K;refine aG ?_;generalize dp:World.setCell _ _ _=cN;clear bs am aK dZ ea eb ef;obtain⟨dT,dH⟩:=dw.o cN dp;have dx:=(er.trans dH).trans (Mv.hJ (Fr.refl _ cN).drew);have ck:=ah (dT.aj NC.drew) (show Mv g (.slice S code.length bQ) (.slice bI sites.length bx) w (.slice (some ⟨ey,0,none⟩) (gw aV u.length (aV.length:Int)).length dr) (.slice dM aS.length dR) cN.drew by rw[cA];exact dx);clear dT dH dx dp;have gV:el.num=0:=by cases el<;>simp_all [al.isNil,al.num]
   go_wp2;refine⟨?_,by simp[jH,intOf];omega⟩;unfold jj
   iterate 240 apply Exists.intro
   refine⟨?_,rfl⟩;unfold oY;obtain⟨_,aF,aN,hS,bf,bu,bS,cD,bK⟩:=bj.o
   exact⟨k+1,rest,ag,aU,a9,eL,ab+1+th.num,gw aV u.length (aV.length:Int),aS,bn,a8,cq,some ⟨ey,0,none⟩,dr,dM,dR,by go_num,ad,db.symm,dK,ad,aN.2.2.2,hS.mono a5,bf,by simp only[cA];omega,by simp only[cA];omega,ad,ad,ck.1,ck.2⟩
 | gM ex th rest=>
  simp only[al.list,List.cons.injEq] at b8;obtain⟨rfl,db⟩:=b8;have aA:an X wr 175 #[(8:Int),NF,eo,en,es,.slice EA em ec,rs,.slice cr b5 rc,.slice cR n1 c1,.slice A2 n2 c2,.slice cu n3 c3]:=bE;clear bE;have cH:=ae aA;obtain⟨a0,ak,af⟩:=aA.two;clear aA;have hd:∃cZ,d=cZ+1:=by
   exact AW
  obtain⟨cZ,hd⟩:=hd;subst hd;have dE:=bj.2.2.1;have aw:=bj.2.2.2.1.gp 2 ex dE.1;have bq:=dE.2.1;have dm:=ee (U:=U) (nk:=nk) th cZ ag aU a9 a6 (u++[kM (bL ag ex) 0]) bq bj.2.2.2.1;have e5:=bj.2.2.2.2.2.1;have e7:=bj.2.2.2.2.2.2.2.1;have e6:=bj.2.2.2.2.2.2.2.2;have dL:=bj.2.1;simp only[al.num] at e5 e7 e6 dL;have bD:(bo ex).rep X (av X) [eo,en,es,.slice EA em ec]:=D.aM (λ_ h=>h.1) _ _ (D.cZ (d:=bo ex) bY.expr dG.o);go_wp2_with(fail);refine(gB ag ex aw g (ab:Int) _ _ _ _ _ _ _ z.L bD).mono ?_;rintro e aO ⟨o1,q1,s1,fi,da,cU,rfl,cw,ar⟩;have df:=z.aj ar;have a3:=iC z.o cw;clear bD cw;go_wp2_with(fail);refine(hq df (kM (bL ag ex) 0) (ab:Int) (lu a3) ad ad).mono ?_;rintro e aW ⟨rfl,cp,b1,c7,c9,a7,bV⟩;have dW:Mv g (.slice Y u.length ao) (.slice aH y.length aZ) aO (.slice cp (u++[kM (bL ag ex) 0]).length b1) (.slice c7 (y++[(ab:Int)]).length c9) aW:=by rw[M3,M3];exact bV
  have bB:=(Mv.hJ (g:=g) (cv:=.slice Y u.length ao) (sv:=.slice aH y.length aZ) ar).trans dW;have e8:¬Ms g (.slice Y u.length ao) (.slice aH y.length aZ) wr:=by
   exact AD
  obtain⟨bG,e9⟩:=cH.cZ e8 bB;have eZ:=Sl.cZ (l:=dc th) bY.th (dG.trans bB);have eQ:=ae (et.trans bB);have eR:=ae (dG.trans bB);obtain⟨ca,cb⟩:=aJ a7 bG;clear bV dW bB a0 ak af bs am aK df a3 ar a7;obtain⟨a0,ak,af⟩:=bG.two;clear bG;go_wp2_with(fail);refine((show l6 U nk F th from fG.1) G cZ ag aU a9 a6 (ab+1) (u++[kM (bL ag ex) 0]) (y++[(ab:Int)]) g B bn a8 cq cp b1 c7 c9 A2 n2 c2 aW bq bj.2.2.2.1 bj.2.2.2.2.1 eE.o ca.o eZ (by simp only[M3,Nf];omega) (by simp only[M3,Nf];omega) ad ad ad).mono ?_;rintro e b6 ⟨rfl,dF,dr,dM,dR,aS,cI,cL,dg⟩;have dK:dP rest ag (dP th ag a6 (u++[kM (bL ag ex) 0])).2 (gw ((dP th ag a6 (u++[kM (bL ag ex) 0])).1++[eu (u.length:Int)]) u.length (((dP th ag a6 (u++[kM (bL ag ex) 0])).1.length+1:Nat):Int))=dP b l n code:=bj.1;generalize dP th ag a6 (u++[kM (bL ag ex) 0])=p at *;obtain⟨aV,eL⟩:=p;obtain⟨⟨gI,de,ej,_⟩,a5,dh⟩:=dm;simp only[] at cI cL dg de a5 dh dK;have fa:u.length+1<=aV.length/\aV.length<=u.length+1+2*th.num:=by rw[de];simp only[M3,Nf];omega
  obtain⟨gi,gj⟩:=fa;clear de ej;have er:=ae (eQ.trans dg);have fm:=ae (eR.trans dg);obtain⟨b0,fA⟩:=cb.cZ e9 dg;obtain⟨cm,dS⟩:=aJ b0 cL;clear dg cL a0 ak af;obtain⟨a0,ak,af⟩:=b0.two;clear b0;go_wp2_with(fail);refine(hq dS.o (eu (u.length:Int)) (ab:Int) (jP (is:=[]) (ps:=[]) (Sl.bY _) (Sl.bY _) (MU _) (MU _)) ad ad).mono ?_;rintro e cO ⟨rfl,fE,eI,eH,eM,ds,dN⟩;have cF:Mv g (.slice dF aV.length dr) (.slice dM aS.length dR) b6 (.slice fE (aV++[eu (u.length:Int)]).length eI) (.slice eH (aS++[(ab:Int)]).length eM) cO:=by rw[M3,M3];exact dN
  have cX:=ae (er.trans cF);clear dN cF a0 ak af;have dn:=ds;obtain⟨ey,dV,dZ,ea,⟨f3,eb⟩,bT⟩:=dn.target (b:=u.length) (by simp only[M3,Nf];omega) (((aV.length+1:Nat):Int));subst dV;obtain⟨fT,fs,fr,fW,fD,fB,fS,fp,fo,bA,_⟩:=ds.blk
  try simp only[M3,Nf] at bA
  have ef:((u.length:Nat):Int)<(aV.length:Int)+1:=ad;obtain⟨dw,fn⟩:=aJ bT ds;clear bT dn;obtain⟨bs,am,aK⟩:=bA.two;clear bA;go_wp2;refine eJ (λ_=>False) [(0,3),(1,3),(2,3),(3,0),(4,3),(5,3),(6,3),(7,3),(8,0),(9,3),(10,3),(11,3),(12,2)] ?_
  iterate 3 refine pf ?_
  refine ph ?_
  iterate 4 refine pf ?_
  refine ph ?_
  iterate 3 refine pf ?_
  refine au rfl (λK hK=>?_);go_simp;refine dY hK ?_;clear hK K;refine aG ?_;generalize dp:World.setCell _ _ _=cN;clear bs am aK dZ ea eb ef;obtain⟨dT,dH⟩:=dw.o cN (by rw[<-dp];simp);have dx:=(cX.trans dH).trans (Mv.hJ (Fr.refl _ cN).drew);have ck:=ah (dT.aj NC.drew) (show Mv g (.slice S code.length bQ) (.slice bI sites.length bx) w (.slice (some ⟨ey,0,none⟩) (gw (aV++[eu (u.length:Int)]) u.length ((aV.length+1:Nat):Int)).length eI) (.slice eH (aS++[(ab:Int)]).length eM) cN.drew by rw[cA];exact dx);clear dT dH dx dp;go_wp2;refine⟨?_,by simp[jH,intOf];omega⟩;unfold jj
  iterate 240 apply Exists.intro
  refine⟨?_,rfl⟩;unfold oY;obtain⟨_,aF,aN,hS,bf,bu,bS,cD,bK⟩:=bj.o
  exact⟨k+1,rest,ag,aU,a9,eL,ab+1+th.num,gw (aV++[eu (u.length:Int)]) u.length ((aV.length+1:Nat):Int),aS++[(ab:Int)],bn,a8,cq,some ⟨ey,0,none⟩,eI,eH,eM,by go_num,ad,db.symm,dK,ad,aN.2.2,hS.mono a5,bf,by simp only[cA,M3,Nf];omega,by simp only[cA,M3,Nf];omega,ad,ad,ck.1,ck.2⟩
 | ret rest=>
  simp only[al.list,List.cons.injEq] at b8;obtain⟨rfl,db⟩:=b8;have aA:an X wr 175 #[(9:Int),NF,eo,en,es,.slice EA em ec,rs,.slice cr b5 rc,.slice cR n1 c1,.slice A2 n2 c2,.slice cu n3 c3]:=bE;clear bE;have cH:=ae aA;obtain⟨a0,ak,af⟩:=aA.two;clear aA;go_wp2_with(fail);refine(hq z.o (nS) (ab:Int) (jP (is:=[]) (ps:=[]) (Sl.bY _) (Sl.bY _) (MU _) (MU _)) ad ad).mono ?_;rintro e aO ⟨rfl,cp,b1,c7,c9,a7,bV⟩;have ck:=ah a7 (et.trans bV);clear a7 bV a0 ak af bs am aK;go_wp2;refine⟨?_,by simp[jH,intOf];omega⟩;unfold jj
  iterate 240 apply Exists.intro
  refine⟨?_,rfl⟩;unfold oY;obtain⟨aQ,aF,aN,hS,bf,bu,bS,cD,bK⟩:=bj.o;have wf:=(show eX G d aU a9 rest by cases d<;>exact aN)
  exact⟨k+1,rest,ag,aU,a9,a6,ab+1,u++[nS],y++[(ab:Int)],bn,a8,cq,cp,b1,c7,c9,by go_num,ad,db.symm,aQ,by simp only[al.num] at aF;omega,wf,hS,bf,by simp only[al.num] at bu;simp only[M3,Nf];omega,by simp only[M3,Nf];omega,by simp only[al.num] at cD;omega,by simp only[al.num] at bK;omega,ck.1,by rw[M3,M3];exact ck.2⟩
 ):p:=h
end Df
open Df in
theorem Jg(bl:al):BK bl:=by
 intro eg U nk F b G d l n st code sites g B bC ln lc S bQ bI bx A m c w bH cC eE bp f0 e0 k ag aU a9 a6 ab u y bn a8 cq Y ao aH aZ wr ap be aQ aF aN hS bf bu bS cD bK bF hM dz hQ0;intros
 conv=>arg 2;whnf
 have aj:k<=m:=ad;obtain⟨bc,ct,L,ev,gp,eC,cB,f4,a4,aT,_⟩:=bF.blk;obtain⟨gs,g5,s,cs,rfl,gl,cf,dQ,f2,Z⟩:=(bH.cZ hM).g1 nR ap;have gn:(bk s).rep wr (av wr) cs:=D.aM (λ_ h=>h.1) _ _ dQ;obtain⟨eo,en,es,EA,em,ec,rs,cr,b5,rc,cR,n1,c1,A2,n2,c2,cu,n3,c3,rfl,eK⟩:=lN dQ;exact wF
end Go.Proofs.YtnigabjngpnbiabGreat

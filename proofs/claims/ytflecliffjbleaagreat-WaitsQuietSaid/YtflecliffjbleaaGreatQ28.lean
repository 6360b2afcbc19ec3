/- Part 28 of the proof. No condition of its own. -/
import Derived.Test.YtflecliffjbleaaGreatQ27
namespace Go.Proofs.YtflecliffjbleaaGreat
open Go.RowKit Go.Proofs.Tryz
set_option maxRecDepth 1000000
set_option maxHeartbeats 25600000
set_option linter.unusedVariables false
variable{p:Prop}
namespace Cf
theorem fW(h:p:=by
 generalize di:World.setCell _ _ _=cf;clear a3 am aJ dV dW dY dZ;obtain⟨dM,dC⟩:=ds.o cf (by rw[<-di];simp);have a6:=T.cM gf dC;have dt:=(cW.trans dC).trans (Mv.g4 (Fr.refl _ cf).drew);have eR:=(fQ.trans dC).trans (Mv.g4 (Fr.refl _ cf).drew);have gY:=a6.2;have eN:=dM.aj (Fr.refl (λ_=>False) cf).drew;have aQ:=a6.1.aj (Fr.refl (λ_=>False) cf).drew;have cN:(fR (ag++[dX 0]) u.length ((ag.length+1:Nat):Int)).length=ag.length+1:=by rw[cp,Ld];rfl
 have fs:=Sl.cM (l:=cY el) bY.el eR;have fb:=bc.2.2.1.2.2.1;obtain⟨gw,gG,gt,fB⟩:=iR dt eR eN aQ;clear dM dC a6 dt eR di eN;generalize cf.drew=gL at *;obtain⟨a0,ap,aj⟩:=aQ.two;clear aQ;have fJ:=dN (U:=U) (nk:=nk) el cE aW az a7 eE (fR (ag++[dX 0]) u.length ((ag.length+1:Nat):Int)) fb (bc.2.2.2.1.mono bh);go_wp2_with(fail);refine((show lX U nk F el from fC.2) G cE aW az a7 eE (ac+1+th.num) (fR (ag++[dX 0]) u.length ((ag.length+1:Nat):Int)) (aK++[(ac:Int)]) g B a8 aY bn (some ⟨ek,0,none⟩) eB eA eF ck n3 c3 gL fb (bc.2.2.2.1.mono bh) bc.2.2.2.2.1 eJ.o gt.o (by rw[cp];exact fs) (by rw[cN];omega) (by rw[cN];simp only[Ld,Lm];omega) ab ab ab).mono ?_;rintro e gR ⟨rfl,g8,fX,fT,gq,ey,e8,dQ,ep⟩;rw[cp] at ep;generalize dD el aW eE (fR (ag++[dX 0]) u.length ((ag.length+1:Nat):Int))=q at *;obtain⟨q1,gD⟩:=q;obtain⟨⟨ii,fM,gn,_⟩,fw,fv⟩:=fJ;simp only[] at e8 dQ ep fM fw fv dE;have e7:ag.length+1<=q1.length/\q1.length<=ag.length+1+2*el.num:=by rw[fM];simp only[Ld,cN];omega
 obtain⟨gZ,g0⟩:=e7;have fD:=ad (gw.trans ep);clear fM gn ep a0 ap aj fs;have ft:=dQ;obtain⟨fU,f6,f9,ga,⟨hh,gb⟩,e9⟩:=ft.target (b:=ag.length) ab ((q1.length:Int));subst f6;obtain⟨hb,gQ,gP,he,g4,g3,g9,gO,gN,eP,_⟩:=dQ.blk
 try simp only[Ld,Lm,cp] at eP
 have gc:((ag.length:Nat):Int)<(q1.length:Int):=ab;obtain⟨fF,gH⟩:=aM e9 dQ;clear e9 ft;obtain⟨a3,am,aJ⟩:=eP.two;clear eP;go_wp2;refine eU (λ_=>False) [(0,3),(1,3),(2,3),(3,0),(4,3),(5,3),(6,3),(7,3),(8,0),(9,3),(10,3),(11,3),(12,2)] ?_
 iterate 3 refine pf ?_
 refine ph ?_
 iterate 4 refine pf ?_
 refine ph ?_
 iterate 3 refine pf ?_
 refine aq rfl (λK hK=>?_);go_simp;refine eL hK ?_;clear hK K;refine aB ?_;generalize fu:World.setCell _ _ _=fG;clear a3 am aJ f9 ga gb gc;obtain⟨f4,fh⟩:=fF.o fG fu;have dt:=(fD.trans fh).trans (Mv.g4 (Fr.refl _ fG).drew);have cb:=ah (f4.aj LL.drew) (show Mv g (.slice bQ code.length bT) (.slice bM sites.length bo) w (.slice (some ⟨fU,0,none⟩) (fR q1 ag.length (q1.length:Int)).length fX) (.slice fT ey.length gq) fG.drew by rw[cp];exact dt);clear f4 fh dt fu;go_wp2;refine⟨?_,by simp[jt,intOf];omega⟩;unfold iP
 iterate 240 apply Exists.intro
 refine⟨?_,rfl⟩;unfold oD;obtain⟨_,aE,a1,hS,bx,bi,bZ,bj,bg⟩:=bc.o;exact⟨k+1,rest,aW,az,a7,gD,ac+1+th.num+el.num,fR q1 ag.length (q1.length:Int),ey,a8,aY,bn,some ⟨fU,0,none⟩,fX,fT,gq,by go_num,ab,c7.symm,dE,ab,a1.2.2.2,hS.mono ab,bx,by simp only[cp];omega,by simp only[cp];omega,ab,ab,cb.1,cb.2⟩
 ):p:=h
theorem gA(h:p:=by
 refine tf ?_;refine cB ?_;generalize fK:World.setCell _ _ _=gM;obtain⟨_,eQ,_⟩:=p5 bV bm a4 fK;have ez:=ad eQ;clear fK c0 cK cI bV bm a4 c9;have gm:=cm.aj eQ;obtain⟨a0,ap,aj⟩:=gm.two;clear eQ gm;go_wp2_with(fail);refine(fZ aW ex av g (ac:Int) _ _ _ _ _ _ _ (z.aj ez.o).L (D.on aR.1 (Fr.ext ez.o))).mono ?_;rintro e aP ⟨o1,q1,s1,fe,c4,cS,rfl,aU,ar⟩;have bs:=ad (ez.trans ar);have fE:=ad aU;clear a0 ap aj ar aU;go_upto_region 13 with(fail);generalize hV:World.alloc _ _=dH;have L:=bb hV;have cJ:=aT hV;have bu:=z.aj (bs.trans L);obtain⟨h9,hD,hy,ig,hQ,hJ,h3,hr,hj,bz,_⟩:=bu.blk;have dd:=ad (bs.trans L);have be:(bf (bC aW ex)).rep dH (fresh X dH) [.int .i64 o1,.int .i64 q1,.string s1,.slice fe c4 cS]:=
  D.aE (λb O=>⟨Ls ez.size O.1,Lc O.2 L.size⟩) _ _ (D.aP (λb O=>L.block b O.2 λh=>h) _ _ fE.o)
 have gy:=ad be;clear hV be bu;obtain⟨a0,ap,aj⟩:=cJ.two;obtain⟨a3,am,aJ⟩:=bz.two;clear cJ bz;go_wp2;refine eU (λ_=>False) [(0,3),(1,3),(2,3),(3,3),(4,0),(5,0),(6,3),(7,3),(8,2)] ?_
 iterate 4 refine pf ?_
 iterate 2 refine ph ?_
 iterate 2 refine pf ?_
 refine aq rfl (λK hK=>?_);go_simp;have bu:=z.aj dd.drew;refine(gU bu (lK a5 false (bC aW ex)) (ac:Int) (ld (h6 z.o (Dv gy.o LL.drew))) ab ab).mono ?_;rintro e db ⟨rfl,cM,cG,cO,cQ,dl,dG⟩;refine eL hK ?_;clear hK K;refine aB ?_;clear a0 ap aj a3 am aJ bu;have ff:=ad dl;have b5:Mv g (.slice Y u.length af) (.slice al y.length aH) dH.drew (.slice cM (u++[lK a5 false (bC aW ex)]).length cG) (.slice cO (y++[(ac:Int)]).length cQ) db:=by rw[Ld,Ld];exact dG
 have gV:aY<=100000:=by have ae:=bc.2.2.2.2.2.2.2.2;rw[<-ev,Lf];omega
 have cW:=ad (eg.trans ((Mv.g4 dd.drew).trans b5));clear b5;have bK:=(cm.aj dd.drew).on dG.fr (by
  intro hm;rcases hm with hm|hm|hm
  .have:=HA.lt;omega
  .have:=(HA.rows.one.lt hm).2;omega
  .have:=(HA.rows.two.lt hm).2;omega)
 obtain⟨a0,ap,aj⟩:=bK.two;obtain⟨ia,hE,hz,ih,hT,hL,h4,hs,hl,bH,_⟩:=dl.blk;obtain⟨a3,am,aJ⟩:=bH.two;have dx:=dl.names.2.mono (λb (O:off _ db b)=>(show au db b from O.1));obtain⟨cR,du⟩:∃N,N=db.heap.size:=⟨_,rfl⟩
 have gB:¬cR<=g:=ab;have gC:¬cR<=wr.heap.size:=ab;clear dl dG bK bH;go_wp2;refine uP (λb=>cR<=b) [15,18] (.free 0 (.free 2 (.free 3 (.free 4 (.held 5 (.free 7 (.held 8 (.free 9 (.free 10 (.free 11 (.held 12 (.free 13 (.pick [1,14] (λi=>bif i == 1 then .pick [6,14] (λi=>bif i == 6 then .pick [14] (λ_=>.pick [15] (λ_=>.free 16 (.free 17 (.pick [18] (λ_=>.stop))))) else .pick [6] (λ_=>.pick [15] (λ_=>.free 16 (.free 17 (.pick [18] (λ_=>.stop)))))) else .pick [1] (λ_=>.pick [6] (λ_=>.pick [15] (λ_=>.free 16 (.free 17 (.pick [18] (λ_=>.stop)))))))))))))))))))) ?_
 iterate 4 refine tf ?_
 refine oJ ?_;refine tf ?_;refine oJ ?_
 iterate 3 refine tf ?_
 refine oJ ?_;refine tf ?_;clear a0 ap aj;refine iL (P:=?pw) (ops:=?H2) (Q:=?H4) (R:=?H6) (tails:=?H9) (rest:=.pick [15] (λ_=>.free 16 (.free 17 (.pick [18] (λ_=>.stop))))) (aa:=?H0)
  (C:=λ(_:Nat) bE A2 bJ V=>Ext db V/\Gr (λ_=>False) cR 147 3 V A2 aY bJ (aW.map bS)/\an V bE 147 #[.string nm,.int .i64 4,.int .i64 a5]) (λkey=>?yV) ?yO
 case yV=>
  refine bt ?_ ?_
  ·
   refine fj ?_;generalize hV:World.drew (World.alloc _ _)=br;have e1:=gX hV;have ch:Gr (λ_=>False) cR 147 3 br (some ⟨db.heap.size,0,none⟩) 0 0 []:=by rw[<-hV,du];exact(Gr.lit (w:=db) (n:=0) (l:=[]) rfl (by rfl) ab (by simp only[D.aJ])).aj LL.drew
   have et:=kK (dx.on (Fr.ext e1));clear hV;refine bt ?_ ?_
   ·
    refine aG rfl (λK hK=>?_) rfl;rw[if_pos (by rfl)];refine jr ji (.tmp 77) (.tmp 81) (by rfl) ch (lg aW) ev et (λh=>by subst h;exact Sl.none_ dx) (by rfl) (by rfl) ab ab (by rw[du];exact e1.size) ?_;intro A2 bJ cx b9 f1 o1 c1;refine ei hK (f1.mono λb O=>ab) ?_;clear hK K;refine ao ?_;refine fj ?_;have e2:Ext db cx:=Fr.low (M:=λb=>db.heap.size<=b) ((e1.mono λ_ h=>h.elim).trans (f1.mono λb O=>ab)) λ_ h=>h;have F:Ext db (cx.alloc (.cells #[.string nm,.int .i64 4,.int .i64 a5] 147))/\Gr (λ_=>False) cR 147 3 (cx.alloc (.cells #[.string nm,.int .i64 4,.int .i64 a5] 147)) A2 aY bJ (aW.map bS)/\
      an (cx.alloc (.cells #[.string nm,.int .i64 4,.int .i64 a5] 147)) cx.heap.size 147 #[.string nm,.int .i64 4,.int .i64 a5]:=⟨e2.alloc _,b9.aj (LL.alloc _),LM⟩
    clear b9 ch f1 o1 e1 e2 et;revert F;generalize cx.heap.size=bE;generalize db.heap.size=eT;intro F;exact key eT bE A2 bJ _ F
   ·
    refine fj ?_;generalize hV:World.alloc _ _=eH;have e2:=bb hV;have b7:an eH br.heap.size 147 #[.string nm,.int .i64 4,.int .i64 a5]:=hV▸LM;have dy:=kK (dx.on (Fr.ext (e1.trans e2)));clear hV et;have dB:db.heap.size<br.heap.size:=(ch.lt (g:=db.heap.size) rfl).2;refine ao ?_;refine aG rfl (λK hK=>?_) rfl;rw[if_pos (by rfl)];refine jr ji (.tmp 77) (.tmp 81) (by rfl) (ch.aj e2) (lg aW) ev dy (λh=>by subst h;exact Sl.none_ dx) (by rfl) (by rfl) ab ab (by rw[du];exact(e1.trans e2).size) ?_;intro A2 bJ cx b9 f1 o1 c1;refine ei hK (f1.mono λb O=>ab) ?_;clear hK K;have e3:Ext db cx:=Fr.low (M:=λb=>db.heap.size<=b) (((e1.trans e2).mono λ_ h=>h.elim).trans (f1.mono λb O=>ab)) λ_ h=>h;have F:Ext db cx/\Gr (λ_=>False) cR 147 3 cx A2 aY bJ (aW.map bS)/\an cx br.heap.size 147 #[.string nm,.int .i64 4,.int .i64 a5]:=⟨e3,b9,b7.on f1 ab⟩
    clear b9 ch f1 o1 e1 e2 e3 dy b7 dB;revert F;generalize br.heap.size=bE;generalize db.heap.size=eT;intro F;exact key eT bE A2 bJ _ F
  ·
   refine fj ?_;generalize hV:World.drew (World.alloc _ _)=br;have e1:=gX hV;have b7:an br db.heap.size 147 #[.string nm,.int .i64 4,.int .i64 a5]:=hV▸LM;clear hV;refine ao ?_;refine fj ?_;generalize hV:World.alloc _ _=eH;have e2:=bb hV;have ch:Gr (λ_=>False) br.heap.size 147 3 eH (some ⟨br.heap.size,0,none⟩) 0 0 []:=hV▸Gr.lit (w:=br) (n:=0) (l:=[]) rfl (by rfl) ab (by simp only[D.aJ]);have dg:=b7.aj e2;have dy:=kK (dx.on (Fr.ext (e1.trans e2)));have dB:db.heap.size<br.heap.size:=b7.lt;clear hV b7;refine ao ?_;refine aG rfl (λK hK=>?_) rfl;rw[if_pos (by rfl)];refine jr ji (.tmp 77) (.tmp 81) (by rfl) ch (lg aW) ev dy (λh=>by subst h;exact Sl.none_ dx) (by rfl) (by rfl) ab ab e2.size ?_;intro A2 bJ cx b9 f1 o1 c1;refine ei hK (f1.mono λb O=>ab) ?_;clear hK K;have e3:Ext db cx:=Fr.low (M:=λb=>db.heap.size<=b) (((e1.trans e2).mono λ_ h=>h.elim).trans (f1.mono λb O=>ab)) λ_ h=>h;have F:Ext db cx/\Gr (λ_=>False) cR 147 3 cx A2 aY bJ (aW.map bS)/\an cx db.heap.size 147 #[.string nm,.int .i64 4,.int .i64 a5]:=⟨e3,b9.base ab,dg.on f1 ab⟩
   clear b9 ch f1 o1 e1 e2 e3 dy dg;revert F;generalize br.heap.size=eT;generalize db.heap.size=bE;intro F;exact key eT bE A2 bJ _ F
 case yO=>
  rintro eT bE A2 bJ gI ⟨cF,cL,b7⟩;have fd:=cF.size;have f3:=ff.aj cF;obtain⟨hc,hF,hA,hf,hU,hN,ha,ht,hn,bH,_⟩:=f3.blk;clear a3 am aJ f3;refine ao ?_;refine cj rfl (λK hK=>?_) rfl;rw[if_pos (by rfl)];refine eX ji (.tmp 82) (.tmp 90) (by rfl) cL b7 (jW ⟨nm,4,a5⟩) (by rfl) (by rfl) (by rfl) ab ab ab ?_;intro gs aZ gL fc f5 gF gK;have cN:Ext db gL:=Fr.low (M:=λb=>db.heap.size<=b) ((cF.mono λ_ h=>h.elim).trans (f5.mono λb O=>by have:=(cL.lt O).1;omega)) λ_ h=>h;have aQ:=bH.on f5 (λO=>by have:=(cL.lt O).1;omega);have dr:=ah fc cN;clear fc f5 gF cL b7 bH cF cN fd;obtain⟨a3,am,aJ⟩:=aQ.two;refine eL hK ?_;clear hK K
  iterate 2 refine tf ?_
  refine ao ?_;refine cj rfl (λK hK=>?_) rfl;go_simp;refine eL hK ?_;clear hK K;refine cB ?_;generalize fn:World.setCell _ _ _=gz;have eN:=ff.aj dr.2;have g2:=dr.2.size;obtain⟨dQ,ep⟩:=eN.DO (aW:=aW++[⟨nm,4,a5⟩]) ab (by
   rw[Li];refine dr.1.sl (λb _ h=>h.elim) λb ae aD=>⟨ae,λhm=>?_⟩
   rcases hm with hm|hm|hm
   .omega
   .have:=(ff.rows.one.lt hm).2;omega
   .have:=(ff.rows.two.lt hm).2;omega) fn
  have gu:=ad dQ;have fD:=ad (cW.trans ((Mv.g4 dr.2).trans ep));obtain⟨h7,hG,hB,MW,hW,hO,hZ,hu,ho,cg,_⟩:=dQ.blk;clear a3 am aJ aQ fn eN dQ ep dx;obtain⟨a3,am,aJ⟩:=cg.two;clear cg;go_upto_region 3 with(fail);generalize eV:World.setCell _ _ _=hg;have hw:wrap64 (a5+1)=a5+1:=IntWalk.wrap64_in _ (by have h0:=bc.2.2.2.1.n0;have ae:=bc.2.2.2.2.2.2.2.1;omega);rw[hw] at eV;obtain⟨fq,fr⟩:=gu.locals eV;have cb:=ah fq (fD.trans fr);clear eV fq fr a3 am aJ;go_wp2;refine⟨?_,by simp[jt,intOf];omega⟩;unfold iP
  iterate 240 apply Exists.intro
  refine⟨?_,rfl⟩;unfold oD;obtain⟨aX,aE,a1,hS,bx,bi,bZ,bj,bg⟩:=bc.o;have wf:=(show eM G d (az++[nm]) (a7++[nm]) rest by cases d<;>exact a1.2.2.2)
  exact⟨k+1,rest,aW++[⟨nm,4,a5⟩],az++[nm],a7++[nm],a5+1,ac+1,u++[lK a5 false (bC aW ex)],y++[(ac:Int)],gs,(aY+1),aZ,cM,cG,cO,cQ,by go_num,ab,c7.symm,(show dD rest (aW++[⟨nm,4,a5⟩]) (a5+1) (u++[lK a5 false (bC aW ex)])=dD b l n code from aX),by simp only[ak.num] at aE;omega,wf,hS.add ed.1,bx.app _,by simp only[ak.num] at bi;simp only[Ld,Lm];omega,by simp only[Ld,Lm];omega,by simp only[ak.num] at bj;omega,by simp only[ak.num] at bg;simp only[Ld,Lm];omega,cb.1,cb.2⟩
 ):p:=h
theorem vP(h:p:=by
 refine(dS a8 aY bn aW nm V.drew (c9.on (Fr.ext bm.drew)) dn).mono ?_;rintro e aP ⟨rfl,ar⟩;rw[a2];simp only[iU];refine eL hK ?_;clear hK K
 iterate 3 refine tf ?_
 have ca:=aN.aj (Fr.aQ ar);have aF:=bm.trans (Fr.aQ ar);clear aN bm ar;exact key X.heap.size aP ⟨aF,ca,Lb _⟩
 ):p:=h
theorem AB(h:p:=by
 refine lE (P:=?JV) (ops:=?J4) (Q:=?J5) (R:=?J6) (tails:=?J7) (rest:=.pick [11] (λ_=>.free 12 (.stop))) (aa:=?JW) (C:=λdf V=>Ext X V/\an V df 147 #[.string ⟨#[]⟩,.int .i64 0,.int .i64 0]/\X.heap.size<=df) (λkey=>?IT) ?IQ
 case IT=>
  refine bt ?_ ?_
  ·
   refine cj rfl (λK hK=>?_) rfl;go_simp;refine(dS a8 aY bn aW nm X.drew (c9.on (Fr.ext LL.drew)) dn).mono ?_;rintro e aP ⟨rfl,ar⟩;rw[a2];simp only[iU];refine eL hK ?_;clear hK K
   iterate 3 refine tf ?_
   refine ao ?_;refine fj ?_;generalize hV:World.alloc _ _=V;have aN:=aT hV;have bm:Ext X V:=hV▸(Fr.aQ ar).alloc _;exact CU
  ·
   exact vO
 case IQ=>
  rintro df V ⟨bm,bV,a4⟩;obtain⟨c0,cK,cI⟩:=bV.two;clear a0 ap aj a3 am aJ;exact hk
 ):p:=h
theorem vF(h:p:=by
 have gk:gr<wr.heap.size:=gj.1;have b2:=Le bk;have bR:bl.list=s::b.list.drop (k+1):=bD▸(List.drop_eq_getElem?_toList_append▸(by rw[bk];rfl));obtain⟨a3,am,aJ⟩:=aN.two;obtain⟨HA,dL,bY⟩:=eG bp hM eC;have fC:=ad (ct.o s b2);clear aN bp hM dJ gl Z gj eC f2;have cP:¬gr=wr.heap.size:=ab;have cl:¬g=wr.heap.size:=ab;go_wp2;refine eU (λb=>b=wr.heap.size) [(0,3),(1,3),(2,3),(3,0),(4,3),(5,3),(6,3),(7,0),(8,1),(9,1),(10,3)] ?_
 iterate 3 refine pf ?_
 refine qF ?_
 iterate 3 refine pf ?_
 refine qF ?_;refine r9 ?_;refine aO rfl (λK hK=>?_);go_simp;generalize hV:World.drew (World.alloc _ _)=V;have L:=gX hV;have ba:an V wr.heap.size 188 #[.int .i64 s.kind,.string s.name,.int .i64 eo,.int .i64 en,.string es,.slice EA em ec,.string rs,.slice cn cU rc,.slice cy n1 c1,.slice A2 n2 c2,.slice ck n3 c3]:=hV▸(LM).drew;refine ei hK (Ht (LL.alloc _).drew L (by simp) (by rw[<-hV];simp)) ?_;clear hK K;refine pf ?_;refine aB ?_;have fP:=ad ba;have fH:=HA.aj L;have f7:=dL.trans (Mv.g4 L);obtain⟨h5,bI,bX,ib,ef,da,hY,hp,hR,bV,_⟩:=fH.blk;obtain⟨b4,gv,gx⟩:=eG L fH f7;clear hV L a3 am aJ d0 d1 d2 d3 d4 d5 d6 d7 d8 d9 d10 cP cl gk fH f7 ba;obtain⟨a3,am,aJ⟩:=bV.two;clear bV;go_upto_region 6 with(fail);generalize hX:World.setCell _ _ _=X;obtain⟨eO,dI⟩:=gv.stmt (X:=X) (by rw[<-hX,Int.natCast_add];rfl);have b1:=dj hX;have bw:=fP.on b1 (aC HA.lt);have bq:Ext wr V:=b4.o;have z:=ad eO;have eg:=ad (gx.trans dI);have dA:=ad ((Mv.g4 bq).trans dI);have gS:u.length<=100000:=ab;have g1:=bZ;have bc:=xv aX aE a1 hS bx bi bZ bj bg;obtain⟨h8,hC,hv,ie,hP,hH,h1,hq,hi,cX,_⟩:=eO.blk;have gE:=cX.lt;clear hX b1 a3 am aJ eO dI bq aX aE a1 hS bx fP;obtain⟨a3,am,aJ⟩:=cX.two;clear cX
 cases bl with
 | nil=>simp[ak.list] at bR
 | set bv nm ex rest=>
  cases bv
  ·
   simp only[ak.list,List.cons.injEq] at bR;obtain⟨rfl,c7⟩:=bR;have ay:an X wr.heap.size 188 #[.int .i64 2,.string nm,.int .i64 eo,.int .i64 en,.string es,.slice EA em ec,.string rs,.slice cn cU rc,.slice cy n1 c1,.slice A2 n2 c2,.slice ck n3 c3]:=bw;clear bw;have cm:=ad ay;obtain⟨a0,ap,aj⟩:=ay.two;clear ay;have ed:=(show nm∈az/\ex.src az 2 by have:=bc.2.2.1;cases d<;>exact⟨this.1,this.2.1⟩)
   obtain⟨v,J,ci⟩:=bc.2.2.2.1.vars nm ed.1;have co:v.kind=1\/v.kind=4:=ci.imp (λh=>h.1) (λh=>h.1);have av:=bc.2.2.2.1.fO 2 ex ed.2;have eq:jl aW nm=v.n:=by simp[jl,J]
   have fL:ub aW nm=v.kind:=by simp[ub,J]
   have bO:(bf ex).rep X (au X) [.int .i64 eo,.int .i64 en,.string es,.slice EA em ec]:=D.aE (λ_ h=>h.1) _ _ (D.cM (d:=bf ex) bY.expr dA.o);have aR:=ah bO av;clear bO ci;go_wp2_with(fail);refine(nj g aW nm v J co (ac:Int) X z.L).mono ?_;rintro e aP ⟨rfl,ar⟩;simp only[rp];go_upto_region 18 with(fail);generalize hV:World.alloc _ _=dH;have L:Ext X dH:=hV▸ar.alloc _;have cJ:=aT hV;have bF:=cm.aj L;have dd:=ad L;clear hV a0 ap aj a3 am aJ ar L;obtain⟨a0,ap,aj⟩:=bF.two;obtain⟨a3,am,aJ⟩:=cJ.two;clear cJ bF;go_wp2;refine eU (λ_=>False) [(0,3),(1,3),(2,0),(3,3),(4,0),(5,3),(6,3),(7,3),(8,0),(9,3),(12,3),(10,1),(11,3),(13,2)] ?_
   iterate 2 refine pf ?_
   refine ph ?_;refine pf ?_;refine ph ?_
   iterate 3 refine pf ?_
   refine ph ?_
   iterate 2 refine pf ?_
   refine aO rfl (λK hK=>?_);go_simp;refine(fZ aW ex av g (ac:Int) _ _ _ _ _ _ _ (z.aj dd.drew).L (D.on aR.1 (Fr.ext dd.drew))).mono ?_;rintro e b3 ⟨o1,q1,s1,fe,c4,cS,rfl,aU,b0⟩;refine ei hK (b0) ?_;clear hK K;refine pf ?_;refine aq rfl (λK hK=>?_);go_simp;have dm:Ext X b3:=dd.trans (Fr.aQ b0);have cT:=z.aj dm;refine(gU cT (lK v.n (v.kind == 1) (bC aW ex)) (ac:Int) (ld (h6 z.o (wg aU dd.size))) ab ab).mono ?_;rintro e aV ⟨rfl,cM,cG,cO,cQ,bu,cc⟩;refine eL hK ?_;clear hK K;refine aB ?_;have cb:=ah bu ((eg.trans (Mv.g4 dm)).trans cc);clear bu cc a0 ap aj a3 am aJ cT aU b0 dm;go_wp2;refine⟨?_,by simp[jt,intOf];omega⟩;unfold iP
   iterate 240 apply Exists.intro
   refine⟨?_,rfl⟩;unfold oD;obtain⟨aX,aE,a1,hS,bx,bi,bZ,bj,bg⟩:=bc.o;have wf:=(show eM G d az a7 rest by cases d<;>exact a1.2.2)
   exact⟨k+1,rest,aW,az,a7,a5,ac+1,u++[lK v.n (v.kind == 1) (bC aW ex)],y++[(ac:Int)],a8,aY,bn,cM,cG,cO,cQ,by go_num,ab,c7.symm,(by rw[<-eq,<-fL];exact aX),by simp only[ak.num] at aE;omega,wf,hS,bx,by simp only[ak.num] at bi;simp only[Ld,Lm];omega,by simp only[Ld,Lm];omega,by simp only[ak.num] at bj;omega,by simp only[ak.num] at bg;omega,cb.1,by rw[Ld,Ld];exact cb.2⟩
  ·
   simp only[ak.list,List.cons.injEq] at bR;obtain⟨rfl,c7⟩:=bR;have ay:an X wr.heap.size 188 #[.int .i64 1,.string nm,.int .i64 eo,.int .i64 en,.string es,.slice EA em ec,.string rs,.slice cn cU rc,.slice cy n1 c1,.slice A2 n2 c2,.slice ck n3 c3]:=bw;clear bw;have cm:=ad ay;obtain⟨a0,ap,aj⟩:=ay.two;clear ay;have ed:=(show nm∉a7/\ex.src az 2 by have:=bc.2.2.1;cases d<;>exact⟨this.2.1,this.2.2.1⟩)
   have a2:dv aW nm=none:=jX λj x bd hx=>ed.1 (hx▸bc.2.2.2.1.taken x (Le bd));have av:=bc.2.2.2.1.fO 2 ex ed.2;have bO:(bf ex).rep X (au X) [.int .i64 eo,.int .i64 en,.string es,.slice EA em ec]:=D.aE (λ_ h=>h.1) _ _ (D.cM (d:=bf ex) bY.expr dA.o);obtain⟨dn,ea⟩:=z.names;have c9:=ea.mono (λb (O:off _ X b)=>(show au X b from O.1));have aR:=aL bO c9 av;have ev:(aW.map bS).length=aY:=c9.1;clear bO ea;go_upto_region 9 with(fail)
   exact AA
 | call dc nm aI rest=>
  cases dc
  case' false=>let dc:=false
  case' true=>let dc:=true
  all_goals
   simp only[ak.list,List.cons.injEq] at bR;obtain⟨rfl,c7⟩:=bR;have ay:an X wr.heap.size 188 #[.int .i64 _,.string nm,.int .i64 eo,.int .i64 en,.string es,.slice EA em ec,.string rs,.slice cn cU rc,.slice cy n1 c1,.slice A2 n2 c2,.slice ck n3 c3]:=bw;clear bw;have cm:=ad ay;obtain⟨a0,ap,aj⟩:=ay.two;clear ay;have ed:=(show ∃ps,(nm,ps)∈G.funcs/\h2 G az ps aI by have:=bc.2.2.1;cases d<;>exact this.1)
   obtain⟨ps,cq,aA⟩:=ed;obtain⟨v,f,J,er,h0,fI,rfl⟩:=bc.2.2.2.2.1 nm ps cq;have f8:=bc.2.2.2.1.jj _ _ aA;have eq:jl aW nm=v.n:=by simp[jl,J]
   have cA:=eJ.o f (Le fI);have dw:Sl X (au X) cy n1 (aI.map eD):=(Sl.cM (l:=aI.map eD) bY.args dA.o).mono (λ_ h=>h.1);go_wp2_with(fail);refine(C8 dq g aW U.ae F dc nm aI v f J er h0 fI f8 cA eo en es EA em ec rs cn cU rc cy n1 c1 A2 n2 c2 ck n3 c3 (ac:Int) _ z.L z.M_ z.F_ dw).mono ?_;rintro e aP ⟨IA,i,ic,KA,j,kc,rfl,aU,ar⟩;have c5:=z.aj ar;have be:=h6 z.o aU;clear dw f8 aU;go_wp2_with(fail);refine(gU c5 (lQ dc v.n (bL aW aI) (cw aW aI)) (ac:Int) (be) ab ab).mono ?_;rintro e aV ⟨rfl,cM,cG,cO,cQ,bu,cc⟩;have cb:=ah bu ((eg.trans (Mv.g4 ar)).trans cc);clear bu cc a0 ap aj a3 am aJ c5 be ar cq aA J er h0 fI cA;go_wp2;refine⟨?_,by simp[jt,intOf];omega⟩;unfold iP
   iterate 240 apply Exists.intro
   refine⟨?_,rfl⟩;unfold oD;obtain⟨aX,aE,a1,hS,bx,bi,bZ,bj,bg⟩:=bc.o;have wf:=(show eM G d az a7 rest by cases d<;>exact a1.2)
   exact⟨k+1,rest,aW,az,a7,a5,ac+1,u++[lQ dc v.n (bL aW aI) (cw aW aI)],y++[(ac:Int)],a8,aY,bn,cM,cG,cO,cQ,by go_num,ab,c7.symm,(by rw[<-eq];exact aX),by simp only[ak.num] at aE;omega,wf,hS,bx,by simp only[ak.num] at bi;simp only[Ld,Lm];omega,by simp only[Ld,Lm];omega,by simp only[ak.num] at bj;omega,by simp only[ak.num] at bg;omega,cb.1,by rw[Ld,Ld];exact cb.2⟩
 | lock dc r rest=>
  cases dc
  case' false=>let dc:=false
  case' true=>let dc:=true
  all_goals
   simp only[ak.list,List.cons.injEq] at bR;obtain⟨rfl,c7⟩:=bR;have ay:an X wr.heap.size 188 #[.int .i64 _,.string ⟨#[]⟩,.int .i64 eo,.int .i64 en,.string es,.slice EA em ec,.string rs,.slice cn cU rc,.slice cy n1 c1,.slice A2 n2 c2,.slice ck n3 c3]:=bw;clear bw;have cm:=ad ay;obtain⟨a0,ap,aj⟩:=ay.two;clear ay;have ew:=(show rf G az r by have:=bc.2.2.1;cases d<;>exact this.1)
   have gi:=bc.2.2.2.1.qL r ew;have bO:(kJ r).rep X (au X) [.string rs,.slice cn cU rc]:=D.aE (λ_ h=>h.1) _ _ (D.cM (d:=kJ r) bY.ref dA.o);go_wp2_with(fail);refine(dq g aW U.ae r gi (ac:Int) rs cn cU rc _ z.L z.M_ bO).mono ?_;rintro e aP ⟨g6,g7,cu,cr,cD,rfl,aU,ar⟩;have c5:=z.aj ar;have be:=h6 z.o aU;clear bO gi aU;go_wp2_with(fail);refine(gU c5 (qi dc (mv aW r)) (ac:Int) (wa be) ab ab).mono ?_;rintro e aV ⟨rfl,cM,cG,cO,cQ,bu,cc⟩;have cb:=ah bu ((eg.trans (Mv.g4 ar)).trans cc);clear bu cc a0 ap aj a3 am aJ c5 be ar ew;go_wp2;refine⟨?_,by simp[jt,intOf];omega⟩;unfold iP
   iterate 240 apply Exists.intro
   refine⟨?_,rfl⟩;unfold oD;obtain⟨aX,aE,a1,hS,bx,bi,bZ,bj,bg⟩:=bc.o;have wf:=(show eM G d az a7 rest by cases d<;>exact a1.2)
   exact⟨k+1,rest,aW,az,a7,a5,ac+1,u++[qi dc (mv aW r)],y++[(ac:Int)],a8,aY,bn,cM,cG,cO,cQ,by go_num,ab,c7.symm,aX,by simp only[ak.num] at aE;omega,wf,hS,bx,by simp only[ak.num] at bi;simp only[Ld,Lm];omega,by simp only[Ld,Lm];omega,by simp only[ak.num] at bj;omega,by simp only[ak.num] at bg;omega,cb.1,by rw[Ld,Ld];exact cb.2⟩
 | ite ex th el rest=>
  simp only[ak.list,List.cons.injEq] at bR;obtain⟨rfl,c7⟩:=bR;have ay:an X wr.heap.size 188 #[.int .i64 7,.string ⟨#[]⟩,.int .i64 eo,.int .i64 en,.string es,.slice EA em ec,.string rs,.slice cn cU rc,.slice cy n1 c1,.slice A2 n2 c2,.slice ck n3 c3]:=bw;clear bw;have cm:=ad ay;obtain⟨a0,ap,aj⟩:=ay.two;clear ay;have hd:∃cE,d=cE+1:=by
   exact zT
  obtain⟨cE,hd⟩:=hd;subst hd;have dK:=bc.2.2.1;have av:=bc.2.2.2.1.fO 2 ex dK.1;have aS:=dK.2.1;have de:=dN (U:=U) (nk:=nk) th cE aW az a7 a5 (u++[kt (bC aW ex) 0]) aS bc.2.2.2.1;have eW:=bc.2.2.2.2.2.1;have eZ:=bc.2.2.2.2.2.2.2.1;have eY:=bc.2.2.2.2.2.2.2.2;have fa:=bc.2.1;simp only[ak.num] at eW eZ eY fa;have bO:(bf ex).rep X (au X) [.int .i64 eo,.int .i64 en,.string es,.slice EA em ec]:=D.aE (λ_ h=>h.1) _ _ (D.cM (d:=bf ex) bY.expr dA.o);go_wp2_with(fail);refine(fZ aW ex av g (ac:Int) _ _ _ _ _ _ _ z.L bO).mono ?_;rintro e aP ⟨o1,q1,s1,fe,c4,cS,rfl,aU,ar⟩;have c5:=z.aj ar;have be:=h6 z.o aU;clear bO aU;go_wp2_with(fail);refine(gU c5 (kt (bC aW ex) 0) (ac:Int) (ld be) ab ab).mono ?_;rintro e aV ⟨rfl,cM,cG,cO,cQ,bu,cc⟩;have dU:Mv g (.slice Y u.length af) (.slice al y.length aH) aP (.slice cM (u++[kt (bC aW ex) 0]).length cG) (.slice cO (y++[(ac:Int)]).length cQ) aV:=by rw[Ld,Ld];exact cc
  have bP:=(Mv.g4 (g:=g) (cv:=.slice Y u.length af) (sv:=.slice al y.length aH) ar).trans dU;have e4:¬Ms g (.slice Y u.length af) (.slice al y.length aH) wr.heap.size:=by
   exact zB
  obtain⟨bF,e5⟩:=cm.cM e4 bP;have eS:=Sl.cM (l:=cY th) bY.th (dA.trans bP);have eI:=ad (eg.trans bP);have eK:=ad (dA.trans bP);obtain⟨bA,b8⟩:=aM bu bF;clear cc dU bP a0 ap aj a3 am aJ c5 be ar bu;obtain⟨a0,ap,aj⟩:=bF.two;clear bF;go_wp2_with(fail);refine((show lX U nk F th from fC.1) G cE aW az a7 a5 (ac+1) (u++[kt (bC aW ex) 0]) (y++[(ac:Int)]) g B a8 aY bn cM cG cO cQ A2 n2 c2 aV aS bc.2.2.2.1 bc.2.2.2.2.1 eJ.o bA.o eS (by simp only[Ld,Lm];omega) (by simp only[Ld,Lm];omega) ab ab ab).mono ?_;rintro e b3 ⟨rfl,dz,dk,dF,dO,aK,cC,cT,c6⟩;have dE:=bc.1;rw[dD] at dE;generalize dD th aW a5 (u++[kt (bC aW ex) 0])=p at *;obtain⟨ag,eE⟩:=p;obtain⟨⟨gJ,cZ,eb,_⟩,bh,c8⟩:=de;simp only[] at cC cT c6 cZ bh c8 dE;have e6:u.length+1<=ag.length/\ag.length<=u.length+1+2*th.num:=by rw[cZ];simp only[Ld,Lm];omega
  obtain⟨gg,gh⟩:=e6;clear cZ eb;have eh:=ad (eI.trans c6);have fi:=ad (eK.trans c6);obtain⟨bW,fx⟩:=b8.cM e5 c6;obtain⟨b6,dP⟩:=aM bW cT;clear c6 cT a0 ap aj;obtain⟨a0,ap,aj⟩:=bW.two;clear bW;cases ce:el.isNil
  ·
   rw[if_neg (by rw[ce];simp)] at dE;have ge:0<n3:=by have:=bY.el.1;rw[tW,show ax.el (.ite ex th el)=el from rfl] at this;rw[qj] at ce;simp at ce;rw[<-this];exact Nat.pos_of_ne_zero (by simpa using ce)
   have gW:decide ((n3:Int) > 0)=true:=by simpa using ge
   go_wp2_with(fail);refine(gU dP.o (dX 0) (ac:Int) (jA (is:=[]) (ps:=[]) (Sl.bN _) (Sl.bN _) (Lb _) (Lb _)) ab ab).mono ?_;rintro e cz ⟨rfl,fA,eB,eA,eF,dl,dG⟩;have b5:Mv g (.slice dz ag.length dk) (.slice dF aK.length dO) b3 (.slice fA (ag++[dX 0]).length eB) (.slice eA (aK++[(ac:Int)]).length eF) cz:=by rw[Ld,Ld];exact dG
   have cW:=ad (eh.trans b5);have fQ:=ad (fi.trans b5);obtain⟨bK,gf⟩:=b6.cM fx b5;have T:=ad bK;clear dG b5 a0 ap aj bK;have dh:=dl;obtain⟨ek,dT,dV,dW,⟨fY,dY⟩,bU⟩:=dh.target (b:=u.length) (by simp only[Ld,Lm];omega) (((ag.length+1:Nat):Int));subst dT;obtain⟨fO,fp,fo,fS,fz,fy,fN,fm,fl,bN,_⟩:=dl.blk
   try simp only[Ld,Lm] at bN
   have dZ:((u.length:Nat):Int)<(ag.length:Int)+1:=ab;obtain⟨ds,fk⟩:=aM bU dl;clear bU dh;obtain⟨a3,am,aJ⟩:=bN.two;clear bN;go_wp2;refine eU (λ_=>False) [(0,3),(1,3),(2,3),(3,0),(4,3),(5,3),(6,3),(7,3),(8,0),(9,3),(10,3),(11,3),(12,2)] ?_
   iterate 3 refine pf ?_
   refine ph ?_
   iterate 4 refine pf ?_
   refine ph ?_
   iterate 3 refine pf ?_
   exact fV
  ·
   rw[if_pos ce] at dE;have gd:n3=0:=by have:=bY.el.1;rw[tW,show ax.el (.ite ex th el)=el from rfl] at this;rw[qj] at ce;simp at ce;rw[<-this,ce];rfl
   subst gd;have dh:=dP.o;obtain⟨ek,dT,dV,dW,⟨fY,dY⟩,bU⟩:=dh.target (b:=u.length) ab ((ag.length:Int));subst dT;obtain⟨fO,fp,fo,fS,fz,fy,fN,fm,fl,bN,_⟩:=dP.blk
   try simp only[Ld,Lm,cp] at bN
   have dZ:((u.length:Nat):Int)<(ag.length:Int):=ab;obtain⟨ds,fk⟩:=aM bU dP.o;clear bU dh;obtain⟨a3,am,aJ⟩:=bN.two;clear bN;go_wp2;refine eU (λ_=>False) [(0,3),(1,3),(2,3),(3,0),(4,3),(5,3),(6,3),(7,3),(8,0),(9,3),(10,3),(11,3),(12,2)] ?_
   iterate 3 refine pf ?_
   refine ph ?_
   iterate 4 refine pf ?_
   refine ph ?_
   iterate 3 refine pf ?_
   refine aq rfl (λK hK=>?_);go_simp;refine eL hK ?_;clear hK K;refine aB ?_;generalize di:World.setCell _ _ _=cf;clear a3 am aJ dV dW dY dZ;obtain⟨dM,dC⟩:=ds.o cf di;have dt:=(eh.trans dC).trans (Mv.g4 (Fr.refl _ cf).drew);have cb:=ah (dM.aj LL.drew) (show Mv g (.slice bQ code.length bT) (.slice bM sites.length bo) w (.slice (some ⟨ek,0,none⟩) (fR ag u.length (ag.length:Int)).length dk) (.slice dF aK.length dO) cf.drew by rw[cp];exact dt);clear dM dC dt di;have gT:el.num=0:=by cases el<;>simp_all [ak.isNil,ak.num]
   go_wp2;refine⟨?_,by simp[jt,intOf];omega⟩;unfold iP
   iterate 240 apply Exists.intro
   refine⟨?_,rfl⟩;unfold oD;obtain⟨_,aE,a1,hS,bx,bi,bZ,bj,bg⟩:=bc.o
   exact⟨k+1,rest,aW,az,a7,eE,ac+1+th.num,fR ag u.length (ag.length:Int),aK,a8,aY,bn,some ⟨ek,0,none⟩,dk,dF,dO,by go_num,ab,c7.symm,dE,ab,a1.2.2.2,hS.mono bh,bx,by simp only[cp];omega,by simp only[cp];omega,ab,ab,cb.1,cb.2⟩
 | gp ex th rest=>
  simp only[ak.list,List.cons.injEq] at bR;obtain⟨rfl,c7⟩:=bR;have ay:an X wr.heap.size 188 #[.int .i64 8,.string ⟨#[]⟩,.int .i64 eo,.int .i64 en,.string es,.slice EA em ec,.string rs,.slice cn cU rc,.slice cy n1 c1,.slice A2 n2 c2,.slice ck n3 c3]:=bw;clear bw;have cm:=ad ay;obtain⟨a0,ap,aj⟩:=ay.two;clear ay;have hd:∃cE,d=cE+1:=by
   exact zT
  obtain⟨cE,hd⟩:=hd;subst hd;have dK:=bc.2.2.1;have av:=bc.2.2.2.1.fO 2 ex dK.1;have aS:=dK.2.1;have de:=dN (U:=U) (nk:=nk) th cE aW az a7 a5 (u++[kt (bC aW ex) 0]) aS bc.2.2.2.1;have eW:=bc.2.2.2.2.2.1;have eZ:=bc.2.2.2.2.2.2.2.1;have eY:=bc.2.2.2.2.2.2.2.2;have fa:=bc.2.1;simp only[ak.num] at eW eZ eY fa;have bO:(bf ex).rep X (au X) [.int .i64 eo,.int .i64 en,.string es,.slice EA em ec]:=D.aE (λ_ h=>h.1) _ _ (D.cM (d:=bf ex) bY.expr dA.o);go_wp2_with(fail);refine(fZ aW ex av g (ac:Int) _ _ _ _ _ _ _ z.L bO).mono ?_;rintro e aP ⟨o1,q1,s1,fe,c4,cS,rfl,aU,ar⟩;have c5:=z.aj ar;have be:=h6 z.o aU;clear bO aU;go_wp2_with(fail);refine(gU c5 (kt (bC aW ex) 0) (ac:Int) (ld be) ab ab).mono ?_;rintro e aV ⟨rfl,cM,cG,cO,cQ,bu,cc⟩;have dU:Mv g (.slice Y u.length af) (.slice al y.length aH) aP (.slice cM (u++[kt (bC aW ex) 0]).length cG) (.slice cO (y++[(ac:Int)]).length cQ) aV:=by rw[Ld,Ld];exact cc
  have bP:=(Mv.g4 (g:=g) (cv:=.slice Y u.length af) (sv:=.slice al y.length aH) ar).trans dU;have e4:¬Ms g (.slice Y u.length af) (.slice al y.length aH) wr.heap.size:=by
   exact zB
  obtain⟨bF,e5⟩:=cm.cM e4 bP;have eS:=Sl.cM (l:=cY th) bY.th (dA.trans bP);have eI:=ad (eg.trans bP);have eK:=ad (dA.trans bP);obtain⟨bA,b8⟩:=aM bu bF;clear cc dU bP a0 ap aj a3 am aJ c5 be ar bu;obtain⟨a0,ap,aj⟩:=bF.two;clear bF;go_wp2_with(fail);refine((show lX U nk F th from fC.1) G cE aW az a7 a5 (ac+1) (u++[kt (bC aW ex) 0]) (y++[(ac:Int)]) g B a8 aY bn cM cG cO cQ A2 n2 c2 aV aS bc.2.2.2.1 bc.2.2.2.2.1 eJ.o bA.o eS (by simp only[Ld,Lm];omega) (by simp only[Ld,Lm];omega) ab ab ab).mono ?_;rintro e b3 ⟨rfl,dz,dk,dF,dO,aK,cC,cT,c6⟩;have dE:dD rest aW (dD th aW a5 (u++[kt (bC aW ex) 0])).2 (fR ((dD th aW a5 (u++[kt (bC aW ex) 0])).1++[dX (u.length:Int)]) u.length (((dD th aW a5 (u++[kt (bC aW ex) 0])).1.length+1:Nat):Int))=dD b l n code:=bc.1;generalize dD th aW a5 (u++[kt (bC aW ex) 0])=p at *;obtain⟨ag,eE⟩:=p;obtain⟨⟨gJ,cZ,eb,_⟩,bh,c8⟩:=de;simp only[] at cC cT c6 cZ bh c8 dE;have e6:u.length+1<=ag.length/\ag.length<=u.length+1+2*th.num:=by rw[cZ];simp only[Ld,Lm];omega
  obtain⟨gg,gh⟩:=e6;clear cZ eb;have eh:=ad (eI.trans c6);have fi:=ad (eK.trans c6);obtain⟨bW,fx⟩:=b8.cM e5 c6;obtain⟨b6,dP⟩:=aM bW cT;clear c6 cT a0 ap aj;obtain⟨a0,ap,aj⟩:=bW.two;clear bW;go_wp2_with(fail);refine(gU dP.o (dX (u.length:Int)) (ac:Int) (jA (is:=[]) (ps:=[]) (Sl.bN _) (Sl.bN _) (Lb _) (Lb _)) ab ab).mono ?_;rintro e cz ⟨rfl,fA,eB,eA,eF,dl,dG⟩;have b5:Mv g (.slice dz ag.length dk) (.slice dF aK.length dO) b3 (.slice fA (ag++[dX (u.length:Int)]).length eB) (.slice eA (aK++[(ac:Int)]).length eF) cz:=by rw[Ld,Ld];exact dG
  have cW:=ad (eh.trans b5);clear dG b5 a0 ap aj;have dh:=dl;obtain⟨ek,dT,dV,dW,⟨fY,dY⟩,bU⟩:=dh.target (b:=u.length) (by simp only[Ld,Lm];omega) (((ag.length+1:Nat):Int));subst dT;obtain⟨fO,fp,fo,fS,fz,fy,fN,fm,fl,bN,_⟩:=dl.blk
  try simp only[Ld,Lm] at bN
  have dZ:((u.length:Nat):Int)<(ag.length:Int)+1:=ab;obtain⟨ds,fk⟩:=aM bU dl;clear bU dh;obtain⟨a3,am,aJ⟩:=bN.two;clear bN;go_wp2;refine eU (λ_=>False) [(0,3),(1,3),(2,3),(3,0),(4,3),(5,3),(6,3),(7,3),(8,0),(9,3),(10,3),(11,3),(12,2)] ?_
  iterate 3 refine pf ?_
  refine ph ?_
  iterate 4 refine pf ?_
  refine ph ?_
  iterate 3 refine pf ?_
  refine aq rfl (λK hK=>?_);go_simp;refine eL hK ?_;clear hK K;refine aB ?_;generalize di:World.setCell _ _ _=cf;clear a3 am aJ dV dW dY dZ;obtain⟨dM,dC⟩:=ds.o cf (by rw[<-di];simp);have dt:=(cW.trans dC).trans (Mv.g4 (Fr.refl _ cf).drew);have cb:=ah (dM.aj LL.drew) (show Mv g (.slice bQ code.length bT) (.slice bM sites.length bo) w (.slice (some ⟨ek,0,none⟩) (fR (ag++[dX (u.length:Int)]) u.length ((ag.length+1:Nat):Int)).length eB) (.slice eA (aK++[(ac:Int)]).length eF) cf.drew by rw[cp];exact dt);clear dM dC dt di;go_wp2;refine⟨?_,by simp[jt,intOf];omega⟩;unfold iP
  iterate 240 apply Exists.intro
  refine⟨?_,rfl⟩;unfold oD;obtain⟨_,aE,a1,hS,bx,bi,bZ,bj,bg⟩:=bc.o
  exact⟨k+1,rest,aW,az,a7,eE,ac+1+th.num,fR (ag++[dX (u.length:Int)]) u.length ((ag.length+1:Nat):Int),aK++[(ac:Int)],a8,aY,bn,some ⟨ek,0,none⟩,eB,eA,eF,by go_num,ab,c7.symm,dE,ab,a1.2.2,hS.mono bh,bx,by simp only[cp,Ld,Lm];omega,by simp only[cp,Ld,Lm];omega,ab,ab,cb.1,cb.2⟩
 | ret rest=>
  simp only[ak.list,List.cons.injEq] at bR;obtain⟨rfl,c7⟩:=bR;have ay:an X wr.heap.size 188 #[.int .i64 9,.string ⟨#[]⟩,.int .i64 eo,.int .i64 en,.string es,.slice EA em ec,.string rs,.slice cn cU rc,.slice cy n1 c1,.slice A2 n2 c2,.slice ck n3 c3]:=bw;clear bw;have cm:=ad ay;obtain⟨a0,ap,aj⟩:=ay.two;clear ay;go_wp2_with(fail);refine(gU z.o (nD) (ac:Int) (jA (is:=[]) (ps:=[]) (Sl.bN _) (Sl.bN _) (Lb _) (Lb _)) ab ab).mono ?_;rintro e aP ⟨rfl,cM,cG,cO,cQ,bu,cc⟩;have cb:=ah bu (eg.trans cc);clear bu cc a0 ap aj a3 am aJ;go_wp2;refine⟨?_,by simp[jt,intOf];omega⟩;unfold iP
  iterate 240 apply Exists.intro
  refine⟨?_,rfl⟩;unfold oD;obtain⟨aX,aE,a1,hS,bx,bi,bZ,bj,bg⟩:=bc.o;have wf:=(show eM G d az a7 rest by cases d<;>exact a1)
  exact⟨k+1,rest,aW,az,a7,a5,ac+1,u++[nD],y++[(ac:Int)],a8,aY,bn,cM,cG,cO,cQ,by go_num,ab,c7.symm,aX,by simp only[ak.num] at aE;omega,wf,hS,bx,by simp only[ak.num] at bi;simp only[Ld,Lm];omega,by simp only[Ld,Lm];omega,by simp only[ak.num] at bj;omega,by simp only[ak.num] at bg;omega,cb.1,by rw[Ld,Ld];exact cb.2⟩
 ):p:=h
end Cf
open Cf in
theorem Hm(bl:ak):BK bl:=by
 intro dq U nk F b G d l n st code sites g B S ln lc bQ bT bM bo A m c w bB ct eJ dp fg e0 k aW az a7 a5 ac u y a8 aY bn Y af al aH wr aw bD aX aE a1 hS bx bi bZ bj bg bp hM dR hQ0;intros
 conv=>arg 2;whnf
 have ai:k<=m:=ab;obtain⟨ee,cH,bG,ej,go,eu,cV,f0,cd,aN,_⟩:=bp.blk;obtain⟨gr,g5,s,cs,rfl,gj,bk,dJ,f2,Z⟩:=(bB.cM hM).gZ nB aw;have gl:(a9 s).rep wr (au wr) cs:=D.aE (λ_ h=>h.1) _ _ dJ;obtain⟨eo,en,es,EA,em,ec,rs,cn,cU,rc,cy,n1,c1,A2,n2,c2,ck,n3,c3,rfl,eC⟩:=lC dJ;exact vE
theorem C4(dq:vt)(U:hi)(nk:Int)(F:List aA)(b:ak)(G:Env)(d:Nat)(l:List dG)(n:Int)(st:Nat)(code:List ay)(sites:List Int)(g B:Nat)(S:LP)(ln lc:Nat)(bQ:LP)(bT:Nat)(bM:LP)(bo:Nat)(A:LP)(m c:Nat)(w:World)(bB:LR (Sl w (off (Ms g (.slice bQ code.length bT) (.slice bM sites.length bo)) w) A m (b.list.map a9)))(ct:LR (∀s∈b.list,lX U nk F s.th/\lX U nk F s.el))(eJ:LR (∀f∈F,f.params.length<=1000))(dp:LR (b.list.length=m))(fg:m<=100000)(e0:st+b.num<=100000)(dR:Exit->Act->World->Prop)(hQ0:∀c a d v w,dR (.panic c) (a.put d v) w->dR (.panic c) a w)(x:∀r j,EJ U nk F b G d l n st code sites g B S ln lc bQ bT bM bo A m c w r j->dR (.exit 0) r j)
  (a:Act) (wr:World) (hI:iP U nk F b G d l n st code sites g B S ln lc bQ bT bM bo A m c w a wr):Code.wp prog sM (Exit.then (λr j=>iP U nk F b G d l n st code sites g B S ln lc bQ bT bM bo A m c w r j/\jt m r j<jt m a wr) dR) a wr:=by
 unfold iP at hI
 iterate 240 obtain⟨_,hI⟩:=hI
 obtain⟨hI,rfl⟩:=hI;have e:=hI;obtain⟨k,rest,aW,az,a7,a5,ac,u,y,a8,aY,bn,Y,af,al,aH,rfl,ai,bD,aX,aE,a1,hS,bx,bi,bZ,bj,bg,bp,hM⟩:=hI;by_cases aw:k<m
 .suffices aN:BK rest from aN dq U nk F b G d l n st code sites g B S ln lc bQ bT bM bo A m c w bB ct eJ dp fg e0 k aW az a7 a5 ac u y a8 aY bn Y af al aH wr aw bD aX aE a1 hS bx bi bZ bj bg bp hM dR hQ0
  exact Hm rest
 .obtain rfl:m=k:=ab;have aK:=ad e;clear e bD aX aE a1 hS bx bi bZ bj bg bp hM;conv=>arg 2;whnf
  go_wp2;unfold EJ
  iterate 240 apply Exists.intro
  exact⟨aK.o,rfl,rfl⟩
theorem EW(dq:vt)(U:hi)(nk:Int)(F:List aA)(b:ak)(G:Env)(d:Nat)(l:List dG)(n:Int)(st:Nat)(code:List ay)(sites:List Int)(g B:Nat)(S:LP)(ln lc:Nat)(bQ:LP)(bT:Nat)(bM:LP)(bo:Nat)(A:LP)(m c:Nat)(w:World)(bB:LR (Sl w (off (Ms g (.slice bQ code.length bT) (.slice bM sites.length bo)) w) A m (b.list.map a9)))(ct:LR (∀s∈b.list,lX U nk F s.th/\lX U nk F s.el))(eJ:LR (∀f∈F,f.params.length<=1000))(dp:LR (b.list.length=m))(fg:m<=100000)(e0:st+b.num<=100000)(dR:Exit->Act->World->Prop)(hQ0:∀c a d v w,dR (.panic c) (a.put d v) w->dR (.panic c) a w)(x:∀r j,EJ U nk F b G d l n st code sites g B S ln lc bQ bT bM bo A m c w r j->dR (.exit 0) r j)
  (wr:World) {gD gJ o u8 gF eK br gl ch aK eN eO eP eQ eR eS eV eW eY eZ e3 e4 e5 u32 e6 e7 e8 e9 fa fb fd fe ff fh fi fl fm fo fp fq fr fs ft fu fv fw fx fy fz fA fB fC fD fE fF u64 fG fH fI fJ fK fL fM fN fO fP fQ fR fS fT fU fX fY fZ f3 f4 f5 f6 f7 f8 f9 ga gb gd ge gf gg gh gi gj gk H am aF aI aJ aS a3 bb be bq bw bC bN bO bW bX b1 b2 b5 b6 ca ci cl cm co cq cr cu cv cw cx cA cC cD cE cF cG cH cI cK cL cM cN cO cP cQ cR cS cT cU cV cW cX cY cZ c4 c5 c6 c7 c8 c9 da db dc dd de df dg dh di dk dl dm dn dr ds dt du dv dw dx dy dz dA dB dC dE dF dH dI dJ dK dM dN dO dP dQ dS dT dU dV dW dX dY dZ d0 d1 d2 d3 d4 d5 d6 d7 d8 d9 ea eb ec ed ee ef eg eh ej ek el em en eo ep eq er es et eu ev ew ex ey ez eA eB eC eD eE eF eG eH eI:Value} (hI:oD U nk F b G d l n st code sites g B S ln lc bQ bT bM bo A m c w gD wr):Code.wp prog (Code.loop sM) dR ⟨#[.pointer (some ⟨g,0,none⟩),.slice A m c,undef,undef,.slice S ln lc,gD,gJ,o,u8,gF,eK,br,gl,ch,aK,.pointer (some ⟨g,0,none⟩),.pointer (some ⟨g,0,none⟩),.pointer (some ⟨g,3,none⟩),.slice S ln lc,eN,eO,eP,eQ,eR,eS,eV,eW,eY,eZ,e3,e4,e5,u32,e6,e7,e8,e9,fa,fb,fd,fe,ff,fh,fi,fl,fm,fo,fp,fq,fr,fs,ft,fu,fv,fw,fx,fy,fz,fA,fB,fC,fD,fE,fF,u64,fG,fH,fI,fJ,fK,fL,fM,fN,fO,fP,fQ,fR,fS,fT,fU,fX,fY,fZ,f3,f4,f5,f6,f7,f8,f9,ga,gb,gd,ge,gf,gg,gh,gi,gj,gk,H,am,aF,aI,aJ,aS,a3,bb,be,bq,bw,bC,bN,bO,bW,bX,b1,b2,b5,b6,ca,ci,cl,cm,co,cq,cr,cu,cv,cw,cx,cA,cC,cD,cE,cF,cG,cH,cI,cK,cL,cM,cN,cO,cP,cQ,cR,cS,cT,cU,cV,cW,cX,cY,cZ,c4,c5,c6,c7,c8,c9,da,db,dc,dd,de,df,dg,dh,di,dk,dl,dm,dn,dr,ds,dt,du,dv,dw,dx,dy,dz,dA,dB,dC,dE,dF,dH,dI,dJ,dK,dM,dN,dO,dP,dQ,dS,dT,dU,dV,dW,dX,dY,dZ,d0,d1,d2,d3,d4,d5,d6,d7,d8,d9,ea,eb,ec,ed,ee,ef,eg,eh,ej,ek,el,em,en,eo,ep,eq,er,es,et,eu,ev,ew,ex,ey,ez,eA,eB,eC,eD,eE,eF,eG,eH,eI,undef,undef,undef,undef],[]⟩ wr:=by
 refine wp_loop (iP U nk F b G d l n st code sites g B S ln lc bQ bT bM bo A m c w) (jt m) ?_ (λa j hI=>C4 dq U nk F b G d l n st code sites g B S ln lc bQ bT bM bo A m c w bB ct eJ dp fg e0 dR hQ0 x a j hI);unfold iP
 iterate 240 apply Exists.intro
 exact⟨hI,rfl⟩
theorem vZ(dq:vt)(U:hi)(nk:Int)(F:List aA)(b:ak)(ao:∀s∈b.list,lX U nk F s.th/\lX U nk F s.el):lX U nk F b:=by
 intro G d l V T n st code sites g B S ln lc bQ bT bM bo A m c w a1 hS bx f h hs bi bZ bj e0 bg;have cf:b.list.length=m:=by rw[<-hs.1,cC,Lf]
 have fg:m<=100000:=by have:=gD b;omega
 rw[cC] at hs;obtain⟨GA,gn,gc,MA,mn,mc,FA,fn,fc,aN,_⟩:=h.blk;obtain⟨bB,ct,eJ,dp⟩:=iR hs ao f cf;obtain⟨a3,am,aJ⟩:=aN.two;have aZ:=ad (show oD U nk F b G d l n st code sites g B S ln lc bQ bT bM bo A m c w (.int .i64 0) w from
  ⟨0,b,l,V,T,n,st,code,sites,S,ln,lc,bQ,bT,bM,bo,rfl,ab,rfl,rfl,rfl,a1,hS,bx,bi,bZ,bj,bg,h,Mv.refl _ _ _ _⟩)
 have bN:=ah h.names.1 h.names.2;clear hs ao a1 hS bx f h bi bZ bj bg aN cf;go_enter func111,ntmps111;go_wp2;clear a3 am aJ;refine EW dq U nk F b G d l n st code sites g B S ln lc bQ bT bM bo A m c w bB ct eJ dp fg e0 _ ?hQ ?hX _ aZ.o
 case hQ=>exact λ_ _ d _ _ h=>by cases d<;>exact h
 case hX=>
  intro r wr e;unfold EJ at e
  iterate 240 obtain⟨_,e⟩:=e
  obtain⟨hI,i,rfl⟩:=e;obtain⟨k,rest,aW,az,a7,a5,ac,u,y,a8,aY,bn,Y,af,al,aH,j,ai,bD,aX,aE,a1,hS,bx,bi,bZ,bj,bg,bp,hM⟩:=hI;have H:m=k:=by
   rw[j] at i;injection i with _ ae;omega
  subst H;clear aZ j i;obtain⟨ee,cH,bG,ej,go,eu,cV,f0,cd,aN,_⟩:=bp.blk;have bR:rest.list=[]:=bD▸LH (by rw[dp.o];exact Lb _);obtain rfl:rest=.nil:=by cases rest<;>simp_all [ak.list]
  have dX:dD b l n code=(u,a5):=aX.symm;obtain⟨a3,am,aJ⟩:=aN.two;obtain⟨HA,dL⟩:=aM bp hM;clear bp hM aN;go_wp2;generalize hX:World.setCell _ _ _=X;obtain⟨eO,dI⟩:=HA.DO bN.1 (bN.2.cM dL.o) hX;have fh:=dL.trans dI;clear a3 am aJ hX dI;rw[dX];refine bodyPost_end (v:=.tuple #[]) (by simp[results,Tryz.results111,go_sem]) rfl ?_;obtain rfl:ac=st+b.num:=by simp only[ak.num] at aE;omega
  exact⟨rfl,Y,af,al,aH,y,bZ,eO,fh⟩
theorem yw(dq:vt)(U:hi)(nk:Int)(F:List aA):∀b:ak,lX U nk F b:=ak.C5 (C:=lX U nk F) λb ao=>vZ dq U nk F b ao
end Go.Proofs.YtflecliffjbleaaGreat

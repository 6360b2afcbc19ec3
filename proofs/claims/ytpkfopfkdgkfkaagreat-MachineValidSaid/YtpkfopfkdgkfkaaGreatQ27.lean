/- Part 27 of the proof. No condition of its own. -/
import Derived.Test.YtpkfopfkdgkfkaaGreatQ22
import Derived.Test.YtpkfopfkdgkfkaaGreatQ25
namespace Go.Proofs.YtpkfopfkdgkfkaaGreat
open Go.RowKit Go.Proofs.Tryz
set_option maxRecDepth 1000000
set_option maxHeartbeats 25600000
set_option linter.unusedVariables false
variable{i:Nat}{p:Prop}{e:dQ}
namespace Dd
theorem dC(h:p:=by
 generalize dr:World.setCell _ _ _=cP;clear bq am aG ed ee eg eh;obtain⟨dV,dL⟩:=dy.o cP (by rw[<-dr];simp);have cH:=T.cT gh dL;have dz:=(c4.trans dL).trans (Mv.hq (Fr.refl _ cP).drew);have e4:=(fV.trans dL).trans (Mv.hq (Fr.refl _ cP).drew);have gY:=cH.2;have eW:=dV.aj (Fr.refl (λ_=>False) cP).drew;have a5:=cH.1.aj (Fr.refl (λ_=>False) cP).drew;have co:(gm (a1++[eA 0]) u.length ((a1.length+1:Nat):Int)).length=a1.length+1:=by rw[cB,LM];rfl
 have fu:=Sl.cT (l:=dc el) cx.el e4;have ff:=bk.2.2.1.2.2.1;obtain⟨gy,gJ,gu,fE⟩:=iY dz e4 eW a5;clear dV dL cH dz e4 dr eW;generalize cP.drew=gT at *;obtain⟨a0,ai,af⟩:=a5.two;clear a5;have fN:=dZ (U:=U) (nk:=nk) el dg aP bc ba eP (gm (a1++[eA 0]) u.length ((a1.length+1:Nat):Int)) ff (bk.2.2.2.1.mono ca);go_wp2_with(fail);refine((show lN U nk F el from fF.2) G dg aP bc ba eP (ab+1+th.num) (gm (a1++[eA 0]) u.length ((a1.length+1:Nat):Int)) (aK++[(ab:Int)]) g B bi aR bQ (some ⟨ew,0,none⟩) eM eL eQ cC n3 c3 gT ff (bk.2.2.2.1.mono ca) bk.2.2.2.2.1 dW.o gu.o (by rw[cB];exact fu) (by rw[co];omega) (by rw[co];simp only[LM,LX];omega) ad ad ad).mono ?_;rintro e bU ⟨rfl,g8,fZ,fX,gr,eI,eO,dY,ez⟩;rw[cB] at ez;generalize dN el aP eP (gm (a1++[eA 0]) u.length ((a1.length+1:Nat):Int))=q at *;obtain⟨q1,gF⟩:=q;obtain⟨⟨ig,fR,gp,_⟩,fz,fx⟩:=fN;simp only[] at eO dY ez fR fz fx dM;have ep:a1.length+1<=q1.length/\q1.length<=a1.length+1+2*el.num:=by rw[fR];simp only[LM,co];omega
 obtain⟨gZ,g0⟩:=ep;have fG:=ae (gy.trans ez);clear fR gp ez a0 ai af fu;have fv:=dY;obtain⟨fY,f8,gb,gc,⟨hi,gd⟩,fd⟩:=fv.target (b:=a1.length) ad ((q1.length:Int));subst f8;obtain⟨hb,gS,gR,he,g4,g3,g9,gP,gO,eY,_⟩:=dY.blk
 try simp only[LM,LX,cB] at eY
 have ge:((a1.length:Nat):Int)<(q1.length:Int):=ad;obtain⟨fJ,gK⟩:=aJ fd dY;clear fd fv;obtain⟨bq,am,aG⟩:=eY.two;clear eY;go_wp2;refine eJ (λ_=>False) [(0,3),(1,3),(2,3),(3,0),(4,3),(5,3),(6,3),(7,3),(8,0),(9,3),(10,3),(11,3),(12,2)] ?_
 iterate 3 refine pf ?_
 refine ph ?_
 iterate 4 refine pf ?_
 refine ph ?_
 iterate 3 refine pf ?_
 refine ax rfl (λK hK=>?_);go_simp;refine dX hK ?_;clear hK K;refine aF ?_;generalize fw:World.setCell _ _ _=fK;clear bq am aG gb gc gd ge;obtain⟨f6,fj⟩:=fJ.o fK fw;have dz:=(fG.trans fj).trans (Mv.hq (Fr.refl _ fK).drew);have ct:=ag (f6.aj Mo.drew) (show Mv g (.slice S code.length b2) (.slice bV sites.length bD) w (.slice (some ⟨fY,0,none⟩) (gm q1 a1.length (q1.length:Int)).length fZ) (.slice fX eI.length gr) fK.drew by rw[cB];exact dz);clear f6 fj dz fw;go_wp2;refine⟨?_,by simp[jv,intOf];omega⟩;unfold iW
 iterate 240 apply Exists.intro
 refine⟨?_,rfl⟩;unfold oy;obtain⟨_,aw,a8,hS,bx,bh,cf,cg,bE⟩:=bk.o;exact⟨k+1,rest,aP,bc,ba,gF,ab+1+th.num+el.num,gm q1 a1.length (q1.length:Int),eI,bi,aR,bQ,some ⟨fY,0,none⟩,fZ,fX,gr,by go_num,ad,cE.symm,dM,ad,a8.2.2.2,hS.mono ad,bx,by simp only[cB];omega,by simp only[cB];omega,ad,ad,ct.1,ct.2⟩
 ):p:=h
theorem fy(h:p:=by
 refine tf ?_;refine ch ?_;generalize fO:World.setCell _ _ _=gM;obtain⟨_,eZ,_⟩:=pX b8 bo ak fO;have eK:=ae eZ;clear fO c0 cl b1 b8 bo ak c7;have f2:=cI.aj eZ;obtain⟨a0,ai,af⟩:=f2.two;clear eZ f2;go_wp2_with(fail);refine(gx aP ex aA g (ab:Int) _ _ _ _ _ _ _ (z.aj eK.o).L (D.on aN.1 (Fr.ext eK.o))).mono ?_;rintro e aS ⟨o1,q1,s1,fh,c5,cq,rfl,aV,ar⟩;have bB:=ae (eK.trans ar);have fI:=ae aV;clear a0 ai af ar aV;go_upto_region 13 with(fail);generalize hV:World.alloc _ _=dk;have L:=aU hV;have du:=aI hV;have Z:=z.aj (bB.trans L);obtain⟨h7,hE,hz,ib,hR,hL,h2,hs,hl,bH,_⟩:=Z.blk;have dj:=ae (bB.trans L);have a3:(bm (bP aP ex)).rep dk (fresh X dk) [o1,q1,s1,.slice fh c5 cq]:=
  D.aK (λb O=>⟨L6 eK.size O.1,LL O.2 L.size⟩) _ _ (D.aS (λb O=>L.block b O.2 λh=>h) _ _ fI.o)
 have gB:=ae a3;clear hV a3 Z;obtain⟨a0,ai,af⟩:=du.two;obtain⟨bq,am,aG⟩:=bH.two;clear du bH;go_wp2;refine eJ (λ_=>False) [(0,3),(1,3),(2,3),(3,3),(4,0),(5,0),(6,3),(7,3),(8,2)] ?_
 iterate 4 refine pf ?_
 iterate 2 refine ph ?_
 iterate 2 refine pf ?_
 refine ax rfl (λK hK=>?_);go_simp;have Z:=z.aj dj.drew;refine(hh Z (lE a6 false (bP aP ex)) (ab:Int) (k6 (ir z.o (EB gB.o Mo.drew))) ad ad).mono ?_;rintro e da ⟨rfl,cr,cm,cw,cy,dt,dP⟩;refine dX hK ?_;clear hK K;refine aF ?_;clear a0 ai af bq am aG Z;have fi:=ae dt;have cA:Mv g (.slice Y u.length ah) (.slice al y.length aH) dk.drew (.slice cr (u++[lE a6 false (bP aP ex)]).length cm) (.slice cw (y++[(ab:Int)]).length cy) da:=by rw[LM,LM];exact dP
 have gW:aR<=100000:=by have ac:=bk.2.2.2.2.2.2.2.2;rw[<-eG,LO];omega
 have c4:=ae (ev.trans ((Mv.hq dj.drew).trans cA));clear cA;have bZ:=(cI.aj dj.drew).on dP.fr (by
  intro hm;rcases hm with hm|hm|hm
  .have:=HA.lt;omega
  .have:=(HA.rows.one.lt hm).2;omega
  .have:=(HA.rows.two.lt hm).2;omega)
 obtain⟨a0,ai,af⟩:=bZ.two;obtain⟨h8,hF,hA,ie,hT,hN,h3,ht,hn,bs,_⟩:=dt.blk;obtain⟨bq,am,aG⟩:=bs.two;have dE:=dt.names.2.mono (λb (O:off _ da b)=>(show aq da b from O.1));obtain⟨cN,dA⟩:∃N,N=da.heap.size:=⟨_,rfl⟩
 have gD:¬cN<=g:=ad;have gE:¬cN<=wr:=ad;clear dt dP bZ bs;go_wp2;refine r0 (λb=>cN<=b) [15,18] (.free 0 (.free 2 (.free 3 (.free 4 (.held 5 (.free 7 (.held 8 (.free 9 (.free 10 (.free 11 (.held 12 (.free 13 (.pick [1,14] (λi=>bif i == 1 then .pick [6,14] (λi=>bif i == 6 then .pick [14] (λ_=>.pick [15] (λ_=>.free 16 (.free 17 (.pick [18] (λ_=>.stop))))) else .pick [6] (λ_=>.pick [15] (λ_=>.free 16 (.free 17 (.pick [18] (λ_=>.stop)))))) else .pick [1] (λ_=>.pick [6] (λ_=>.pick [15] (λ_=>.free 16 (.free 17 (.pick [18] (λ_=>.stop)))))))))))))))))))) ?_
 iterate 4 refine tf ?_
 refine oI ?_;refine tf ?_;refine oI ?_
 iterate 3 refine tf ?_
 refine oI ?_;refine tf ?_;clear a0 ai af;refine iT (P:=?oM) (ops:=?IH) (Q:=?FN) (R:=?IJ) (tails:=?IW) (rest:=.pick [15] (λ_=>.free 16 (.free 17 (.pick [18] (λ_=>.stop))))) (aa:=?Ih)
  (C:=λ(_:Nat) bA A2 bY V=>Ext da V/\Gr (λ_=>False) cN 105 3 V A2 aR bY (aP.map b0)/\au V bA 105 #[nm,(4:Int),a6]) (λkey=>?wI) ?wz
 case wI=>
  refine a2 ?_ ?_
  ·
   refine eu ?_;generalize hV:World.drew (World.alloc _ _)=cc;have e1:=gQ hV;have dd:Gr (λ_=>False) cN 105 3 cc (some ⟨da,0,none⟩) 0 0 []:=by rw[<-hV,dA];exact(Gr.lit (w:=da) (n:=0) (l:=[]) rfl (by rfl) ad (by simp only[D.aM])).aj Mo.drew
   have eD:=kM (dE.on (Fr.ext e1));clear hV;refine a2 ?_ ?_
   ·
    refine aE rfl (λK hK=>?_) rfl;rw[if_pos (by rfl)];refine ju jk (.tmp 77) (.tmp 81) (by rfl) dd (k7 aP) eG eD (λh=>by subst h;exact Sl.none_ dE) (by rfl) (by rfl) ad ad (by rw[dA];exact e1.size) ?_;intro A2 bY cV bT f1 o1 c1;refine dq hK (f1.mono λb O=>ad) ?_;clear hK K;refine av ?_;refine eu ?_;have e2:Ext da cV:=Fr.low (M:=λb=>da.heap.size<=b) ((e1.mono λ_ h=>h.elim).trans (f1.mono λb O=>ad)) λ_ h=>h;have F:Ext da (cV.alloc (.cells #[nm,(4:Int),a6] 105))/\Gr (λ_=>False) cN 105 3 (cV.alloc (.cells #[nm,(4:Int),a6] 105)) A2 aR bY (aP.map b0)/\
      au (cV.alloc (.cells #[nm,(4:Int),a6] 105)) cV 105 #[nm,(4:Int),a6]:=⟨e2.alloc _,bT.aj (Mo.alloc _),Mp⟩
    clear bT dd f1 o1 e1 e2 eD;revert F;generalize cV.heap.size=bA;generalize da.heap.size=cZ;intro F;exact key cZ bA A2 bY _ F
   ·
    refine eu ?_;generalize hV:World.alloc _ _=eR;have e2:=aU hV;have a7:au eR cc 105 #[nm,(4:Int),a6]:=hV▸Mp;have dF:=kM (dE.on (Fr.ext (e1.trans e2)));clear hV eD;have dK:da<cc.heap.size:=(dd.lt (g:=da.heap.size) rfl).2;refine av ?_;refine aE rfl (λK hK=>?_) rfl;rw[if_pos (by rfl)];refine ju jk (.tmp 77) (.tmp 81) (by rfl) (dd.aj e2) (k7 aP) eG dF (λh=>by subst h;exact Sl.none_ dE) (by rfl) (by rfl) ad ad (by rw[dA];exact(e1.trans e2).size) ?_;intro A2 bY cV bT f1 o1 c1;refine dq hK (f1.mono λb O=>ad) ?_;clear hK K;have e3:Ext da cV:=Fr.low (M:=λb=>da.heap.size<=b) (((e1.trans e2).mono λ_ h=>h.elim).trans (f1.mono λb O=>ad)) λ_ h=>h;have F:Ext da cV/\Gr (λ_=>False) cN 105 3 cV A2 aR bY (aP.map b0)/\au cV cc 105 #[nm,(4:Int),a6]:=⟨e3,bT,a7.on f1 ad⟩
    clear bT dd f1 o1 e1 e2 e3 dF a7 dK;revert F;generalize cc.heap.size=bA;generalize da.heap.size=cZ;intro F;exact key cZ bA A2 bY _ F
  ·
   refine eu ?_;generalize hV:World.drew (World.alloc _ _)=cc;have e1:=gQ hV;have a7:au cc da 105 #[nm,(4:Int),a6]:=hV▸Mp;clear hV;refine av ?_;refine eu ?_;generalize hV:World.alloc _ _=eR;have e2:=aU hV;have dd:Gr (λ_=>False) cc 105 3 eR (some ⟨cc,0,none⟩) 0 0 []:=hV▸Gr.lit (w:=cc) (n:=0) (l:=[]) rfl (by rfl) ad (by simp only[D.aM]);have dn:=a7.aj e2;have dF:=kM (dE.on (Fr.ext (e1.trans e2)));have dK:da<cc.heap.size:=a7.lt;clear hV a7;refine av ?_;refine aE rfl (λK hK=>?_) rfl;rw[if_pos (by rfl)];refine ju jk (.tmp 77) (.tmp 81) (by rfl) dd (k7 aP) eG dF (λh=>by subst h;exact Sl.none_ dE) (by rfl) (by rfl) ad ad e2.size ?_;intro A2 bY cV bT f1 o1 c1;refine dq hK (f1.mono λb O=>ad) ?_;clear hK K;have e3:Ext da cV:=Fr.low (M:=λb=>da.heap.size<=b) (((e1.trans e2).mono λ_ h=>h.elim).trans (f1.mono λb O=>ad)) λ_ h=>h;have F:Ext da cV/\Gr (λ_=>False) cN 105 3 cV A2 aR bY (aP.map b0)/\au cV da 105 #[nm,(4:Int),a6]:=⟨e3,bT.base ad,dn.on f1 ad⟩
   clear bT dd f1 o1 e1 e2 e3 dF dn;revert F;generalize cc.heap.size=cZ;generalize da.heap.size=bA;intro F;exact key cZ bA A2 bY _ F
 case wz=>
  rintro cZ bA A2 bY gL ⟨be,db,a7⟩;have eF:=be.size;have f4:=fi.aj be;obtain⟨hc,hG,hB,hf,hU,hO,ha,hu,ho,bs,_⟩:=f4.blk;clear bq am aG f4;refine av ?_;refine bR rfl (λK hK=>?_) rfl;rw[if_pos (by rfl)];refine fo jk (.tmp 82) (.tmp 90) (by rfl) db a7 (jY ⟨nm,4,a6⟩) (by rfl) (by rfl) (by rfl) ad ad ad ?_;intro gt b9 gT dU f5 gG gN;have co:Ext da gT:=Fr.low (M:=λb=>da.heap.size<=b) ((be.mono λ_ h=>h.elim).trans (f5.mono λb O=>by have:=(db.lt O).1;omega)) λ_ h=>h;have a5:=bs.on f5 (λO=>by have:=(db.lt O).1;omega);have dx:=ag dU co;clear dU f5 gG db a7 bs be co eF;obtain⟨bq,am,aG⟩:=a5.two;refine dX hK ?_;clear hK K
  iterate 2 refine tf ?_
  refine av ?_;refine bR rfl (λK hK=>?_) rfl;go_simp;refine dX hK ?_;clear hK K;refine ch ?_;generalize cb:World.setCell _ _ _=gC;have eW:=fi.aj dx.2;have g2:=dx.2.size;obtain⟨dY,ez⟩:=eW.EZ (aP:=aP++[⟨nm,4,a6⟩]) ad (by
   rw[LR];refine dx.1.sl (λb _ h=>h.elim) λb ac ap=>⟨ac,λhm=>?_⟩
   rcases hm with hm|hm|hm
   .omega
   .have:=(fi.rows.one.lt hm).2;omega
   .have:=(fi.rows.two.lt hm).2;omega) cb
  have gv:=ae dY;have fG:=ae (c4.trans ((Mv.hq dx.2).trans ez));obtain⟨h5,hH,hC,MW,hW,hP,hZ,hv,hp,cJ,_⟩:=dY.blk;clear bq am aG a5 cb eW dY ez dE;obtain⟨bq,am,aG⟩:=cJ.two;clear cJ;go_upto_region 3 with(fail);generalize e6:World.setCell _ _ _=hg;have hw:wrap64 (a6+1)=a6+1:=IntWalk.wrap64_in _ (by have h0:=bk.2.2.2.1.n0;have ac:=bk.2.2.2.2.2.2.2.1;omega);rw[hw] at e6;obtain⟨fs,ft⟩:=gv.locals e6;have ct:=ag fs (fG.trans ft);clear e6 fs ft bq am aG;go_wp2;refine⟨?_,by simp[jv,intOf];omega⟩;unfold iW
  iterate 240 apply Exists.intro
  refine⟨?_,rfl⟩;unfold oy;obtain⟨bC,aw,a8,hS,bx,bh,cf,cg,bE⟩:=bk.o;have wf:=(show fm G d (bc++[nm]) (ba++[nm]) rest by cases d<;>exact a8.2.2.2)
  exact⟨k+1,rest,aP++[⟨nm,4,a6⟩],bc++[nm],ba++[nm],a6+1,ab+1,u++[lE a6 false (bP aP ex)],y++[(ab:Int)],gt,(aR+1),b9,cr,cm,cw,cy,by go_num,ad,cE.symm,(show dN rest (aP++[⟨nm,4,a6⟩]) (a6+1) (u++[lE a6 false (bP aP ex)])=dN b l n code from bC),by simp only[ao.num] at aw;omega,wf,hS.add er.1,bx.app _,by simp only[ao.num] at bh;simp only[LM,LX];omega,by simp only[LM,LX];omega,by simp only[ao.num] at cg;omega,by simp only[ao.num] at bE;simp only[LM,LX];omega,ct.1,ct.2⟩
 ):p:=h
theorem vO(h:p:=by
 refine(ej bi aR bQ aP nm V.drew (c7.on (Fr.ext bo.drew)) dw).mono ?_;rintro e aS ⟨rfl,ar⟩;rw[a9];simp only[jb];refine dX hK ?_;clear hK K
 iterate 3 refine tf ?_
 have cK:=aQ.aj (Fr.aG ar);have aO:=bo.trans (Fr.aG ar);clear aQ bo ar;exact key X aS ⟨aO,cK,LK _⟩
 ):p:=h
theorem A4(h:p:=by
 refine lz (P:=?KH) (ops:=?KQ) (Q:=?KR) (R:=?KS) (tails:=?KT) (rest:=.pick [11] (λ_=>.free 12 (.stop))) (aa:=?KI) (C:=λdh V=>Ext X V/\au V dh 105 #[Mq,(0:Int),(0:Int)]/\X.heap.size<=dh) (λkey=>?JD) ?Jz
 case JD=>
  refine a2 ?_ ?_
  ·
   refine bR rfl (λK hK=>?_) rfl;go_simp;refine(ej bi aR bQ aP nm X.drew (c7.on (Fr.ext Mo.drew)) dw).mono ?_;rintro e aS ⟨rfl,ar⟩;rw[a9];simp only[jb];refine dX hK ?_;clear hK K
   iterate 3 refine tf ?_
   refine av ?_;refine eu ?_;generalize hV:World.alloc _ _=V;have aQ:=aI hV;have bo:Ext X V:=hV▸(Fr.aG ar).alloc _;exact vq
  ·
   exact vN
 case Jz=>
  rintro dh V ⟨bo,b8,ak⟩;obtain⟨c0,cl,b1⟩:=b8.two;clear a0 ai af bq am aG;exact fQ
 ):p:=h
theorem vE(h:p:=by
 have gn:gs<wr:=gl.1;have cn:=LN cz;have cd:bl.list=s::b.list.drop (k+1):=br▸(List.drop_eq_getElem?_toList_append▸(by rw[cz];rfl));obtain⟨bq,am,aG⟩:=aQ.two;obtain⟨HA,cU,cx⟩:=ef bG hM eN;have fF:=ae (b5.o s cn);clear aQ bG hM dQ go a4 gl eN fH;have c8:¬gs=wr:=ad;have aZ:¬g=wr:=ad;go_wp2;refine eJ (λb=>b=wr.heap.size) [(0,3),(1,3),(2,3),(3,0),(4,3),(5,3),(6,3),(7,0),(8,1),(9,1),(10,3)] ?_
 iterate 3 refine pf ?_
 refine oH ?_
 iterate 3 refine pf ?_
 refine oH ?_;refine rb ?_;refine aB rfl (λK hK=>?_);go_simp;generalize hV:World.drew (World.alloc _ _)=V;have L:=gQ hV;have f7:au V wr 151 #[.int .i64 s.kind,.string s.name,eo,en,es,.slice EA em ec,rs,.slice cM di rc,.slice cR n1 c1,.slice A2 n2 c2,.slice cC n3 c3]:=hV▸(Mp).drew;refine dq hK (Ix (Mo.alloc _).drew L (by simp) (by rw[<-hV];simp)) ?_;clear hK K;refine pf ?_;refine aF ?_;have fU:=ae f7;have fL:=HA.aj L;have f9:=cU.trans (Mv.hq L);obtain⟨h4,bL,bX,h9,dl,cj,hY,hq,hk,b8,_⟩:=fL.blk;obtain⟨bS,gw,gA⟩:=ef L fL f9;clear hV L bq am aG d0 d1 d2 d3 d4 d5 d6 d7 d8 d9 d10 c8 aZ gn fL f9 f7;obtain⟨bq,am,aG⟩:=b8.two;clear b8;go_upto_region 6 with(fail);generalize hX:World.setCell _ _ _=X;obtain⟨eX,dR⟩:=gw.stmt (X:=X) (by rw[<-hX,Int.natCast_add];rfl);have b4:=cp hX;have bp:=fU.on b4 (ay HA.lt);have bu:Ext wr V:=bS.o;have z:=ae eX;have ev:=ae (gA.trans dR);have dI:=ae ((Mv.hq bu).trans dR);have gU:u.length<=100000:=ad;have g1:=cf;have bk:=tI bC aw a8 hS bx bh cf cg bE;obtain⟨h6,hD,hy,ia,hQ,hJ,h1,hr,hj,cF,_⟩:=eX.blk;have gz:=cF.lt;clear hX b4 bq am aG eX dR bu bC aw a8 hS bx fU;obtain⟨bq,am,aG⟩:=cF.two;clear cF
 cases bl with
 | nil=>simp[ao.list] at cd
 | set bv nm ex rest=>
  cases bv
  ·
   simp only[ao.list,List.cons.injEq] at cd;obtain⟨rfl,cE⟩:=cd;have aC:au X wr 151 #[(2:Int),nm,eo,en,es,.slice EA em ec,rs,.slice cM di rc,.slice cR n1 c1,.slice A2 n2 c2,.slice cC n3 c3]:=bp;clear bp;have cI:=ae aC;obtain⟨a0,ai,af⟩:=aC.two;clear aC;have er:=(show nm∈bc/\ex.src bc 2 by have:=bk.2.2.1;cases d<;>exact⟨this.1,this.2.1⟩)
   obtain⟨v,J,ce⟩:=bk.2.2.2.1.vars nm er.1;have cu:v.kind=1\/v.kind=4:=ce.imp (λh=>h.1) (λh=>h.1);have aA:=bk.2.2.2.1.gh 2 ex er.2;have eB:jo aP nm=v.n:=by simp[jo,J]
   have fP:tX aP nm=v.kind:=by simp[tX,J]
   have aX:(bm ex).rep X (aq X) [eo,en,es,.slice EA em ec]:=D.aK (λ_ h=>h.1) _ _ (D.cT (d:=bm ex) cx.expr dI.o);have aN:=ag aX aA;clear aX ce;go_wp2_with(fail);refine(m6 g aP nm v J cu (ab:Int) X z.L).mono ?_;rintro e aS ⟨rfl,ar⟩;simp only[q9];go_upto_region 18 with(fail);generalize hV:World.alloc _ _=dk;have L:Ext X dk:=hV▸ar.alloc _;have du:=aI hV;have bM:=cI.aj L;have dj:=ae L;clear hV a0 ai af bq am aG ar L;obtain⟨a0,ai,af⟩:=bM.two;obtain⟨bq,am,aG⟩:=du.two;clear du bM;go_wp2;refine eJ (λ_=>False) [(0,3),(1,3),(2,0),(3,3),(4,0),(5,3),(6,3),(7,3),(8,0),(9,3),(12,3),(10,1),(11,3),(13,2)] ?_
   iterate 2 refine pf ?_
   refine ph ?_;refine pf ?_;refine ph ?_
   iterate 3 refine pf ?_
   refine ph ?_
   iterate 2 refine pf ?_
   refine aB rfl (λK hK=>?_);go_simp;refine(gx aP ex aA g (ab:Int) _ _ _ _ _ _ _ (z.aj dj.drew).L (D.on aN.1 (Fr.ext dj.drew))).mono ?_;rintro e b7 ⟨o1,q1,s1,fh,c5,cq,rfl,aV,bK⟩;refine dq hK (bK) ?_;clear hK K;refine pf ?_;refine ax rfl (λK hK=>?_);go_simp;have dv:Ext X b7:=dj.trans (Fr.aG bK);have cL:=z.aj dv;refine(hh cL (lE v.n (v.kind == 1) (bP aP ex)) (ab:Int) (k6 (ir z.o (wj aV dj.size))) ad ad).mono ?_;rintro e aT ⟨rfl,cr,cm,cw,cy,Z,ci⟩;refine dX hK ?_;clear hK K;refine aF ?_;have ct:=ag Z ((ev.trans (Mv.hq dv)).trans ci);clear Z ci a0 ai af bq am aG cL aV bK dv;go_wp2;refine⟨?_,by simp[jv,intOf];omega⟩;unfold iW
   iterate 240 apply Exists.intro
   refine⟨?_,rfl⟩;unfold oy;obtain⟨bC,aw,a8,hS,bx,bh,cf,cg,bE⟩:=bk.o;have wf:=(show fm G d bc ba rest by cases d<;>exact a8.2.2)
   exact⟨k+1,rest,aP,bc,ba,a6,ab+1,u++[lE v.n (v.kind == 1) (bP aP ex)],y++[(ab:Int)],bi,aR,bQ,cr,cm,cw,cy,by go_num,ad,cE.symm,(by rw[<-eB,<-fP];exact bC),by simp only[ao.num] at aw;omega,wf,hS,bx,by simp only[ao.num] at bh;simp only[LM,LX];omega,by simp only[LM,LX];omega,by simp only[ao.num] at cg;omega,by simp only[ao.num] at bE;omega,ct.1,by rw[LM,LM];exact ct.2⟩
  ·
   simp only[ao.list,List.cons.injEq] at cd;obtain⟨rfl,cE⟩:=cd;have aC:au X wr 151 #[(1:Int),nm,eo,en,es,.slice EA em ec,rs,.slice cM di rc,.slice cR n1 c1,.slice A2 n2 c2,.slice cC n3 c3]:=bp;clear bp;have cI:=ae aC;obtain⟨a0,ai,af⟩:=aC.two;clear aC;have er:=(show nm∉ba/\ex.src bc 2 by have:=bk.2.2.1;cases d<;>exact⟨this.2.1,this.2.2.1⟩)
   have a9:dJ aP nm=none:=jZ λj x bd hx=>er.1 (hx▸bk.2.2.2.1.taken x (LN bd));have aA:=bk.2.2.2.1.gh 2 ex er.2;have aX:(bm ex).rep X (aq X) [eo,en,es,.slice EA em ec]:=D.aK (λ_ h=>h.1) _ _ (D.cT (d:=bm ex) cx.expr dI.o);obtain⟨dw,ek⟩:=z.names;have c7:=ek.mono (λb (O:off _ X b)=>(show aq X b from O.1));have aN:=az aX c7 aA;have eG:(aP.map b0).length=aR:=c7.1;clear aX ek;go_upto_region 9 with(fail)
   exact A3
 | call bb nm aW rest=>
  cases bb
  case' false=>let bb:=false
  case' true=>let bb:=true
  all_goals
   simp only[ao.list,List.cons.injEq] at cd;obtain⟨rfl,cE⟩:=cd;have aC:au X wr 151 #[.int .i64 _,nm,eo,en,es,.slice EA em ec,rs,.slice cM di rc,.slice cR n1 c1,.slice A2 n2 c2,.slice cC n3 c3]:=bp;clear bp;have cI:=ae aC;obtain⟨a0,ai,af⟩:=aC.two;clear aC;have er:=(show ∃ps,(nm,ps)∈G.funcs/\iU G bc ps aW by have:=bk.2.2.1;cases d<;>exact this.1)
   obtain⟨ps,bO,aL⟩:=er;obtain⟨v,f,J,eC,h0,fM,rfl⟩:=bk.2.2.2.2.1 nm ps bO;have ga:=bk.2.2.2.1.jl _ _ aL;have eB:jo aP nm=v.n:=by simp[jo,J]
   have cW:=dW.o f (LN fM);have dD:Sl X (aq X) cR n1 (aW.map eU):=(Sl.cT (l:=aW.map eU) cx.args dI.o).mono (λ_ h=>h.1);go_wp2_with(fail);refine(Ef ei g aP U.af F bb nm aW v f J eC h0 fM ga cW eo en es EA em ec rs cM di rc cR n1 c1 A2 n2 c2 cC n3 c3 (ab:Int) _ z.L z.M_ z.F_ dD).mono ?_;rintro e aS ⟨IA,i,ic,KA,j,kc,rfl,aV,ar⟩;have c6:=z.aj ar;have a3:=ir z.o aV;clear dD ga aV;go_wp2_with(fail);refine(hh c6 (lJ bb v.n (bW aP aW) (cG aP aW)) (ab:Int) (a3) ad ad).mono ?_;rintro e aT ⟨rfl,cr,cm,cw,cy,Z,ci⟩;have ct:=ag Z ((ev.trans (Mv.hq ar)).trans ci);clear Z ci a0 ai af bq am aG c6 a3 ar bO aL J eC h0 fM cW;go_wp2;refine⟨?_,by simp[jv,intOf];omega⟩;unfold iW
   iterate 240 apply Exists.intro
   refine⟨?_,rfl⟩;unfold oy;obtain⟨bC,aw,a8,hS,bx,bh,cf,cg,bE⟩:=bk.o;have wf:=(show fm G d bc ba rest by cases d<;>exact a8.2)
   exact⟨k+1,rest,aP,bc,ba,a6,ab+1,u++[lJ bb v.n (bW aP aW) (cG aP aW)],y++[(ab:Int)],bi,aR,bQ,cr,cm,cw,cy,by go_num,ad,cE.symm,(by rw[<-eB];exact bC),by simp only[ao.num] at aw;omega,wf,hS,bx,by simp only[ao.num] at bh;simp only[LM,LX];omega,by simp only[LM,LX];omega,by simp only[ao.num] at cg;omega,by simp only[ao.num] at bE;omega,ct.1,by rw[LM,LM];exact ct.2⟩
 | lock bb r rest=>
  cases bb
  case' false=>let bb:=false
  case' true=>let bb:=true
  all_goals
   simp only[ao.list,List.cons.injEq] at cd;obtain⟨rfl,cE⟩:=cd;have aC:au X wr 151 #[.int .i64 _,Mq,eo,en,es,.slice EA em ec,rs,.slice cM di rc,.slice cR n1 c1,.slice A2 n2 c2,.slice cC n3 c3]:=bp;clear bp;have cI:=ae aC;obtain⟨a0,ai,af⟩:=aC.two;clear aC;have eH:=(show sc G bc r by have:=bk.2.2.1;cases d<;>exact this.1)
   have gk:=bk.2.2.2.1.qy r eH;have aX:(kL r).rep X (aq X) [rs,.slice cM di rc]:=D.aK (λ_ h=>h.1) _ _ (D.cT (d:=kL r) cx.ref dI.o);go_wp2_with(fail);refine(ei g aP U.af r gk (ab:Int) rs cM di rc _ z.L z.M_ aX).mono ?_;rintro e aS ⟨g6,g7,cX,cO,cY,rfl,aV,ar⟩;have c6:=z.aj ar;have a3:=ir z.o aV;clear aX gk aV;go_wp2_with(fail);refine(hh c6 (p5 bb (mh aP r)) (ab:Int) (wc a3) ad ad).mono ?_;rintro e aT ⟨rfl,cr,cm,cw,cy,Z,ci⟩;have ct:=ag Z ((ev.trans (Mv.hq ar)).trans ci);clear Z ci a0 ai af bq am aG c6 a3 ar eH;go_wp2;refine⟨?_,by simp[jv,intOf];omega⟩;unfold iW
   iterate 240 apply Exists.intro
   refine⟨?_,rfl⟩;unfold oy;obtain⟨bC,aw,a8,hS,bx,bh,cf,cg,bE⟩:=bk.o;have wf:=(show fm G d bc ba rest by cases d<;>exact a8.2)
   exact⟨k+1,rest,aP,bc,ba,a6,ab+1,u++[p5 bb (mh aP r)],y++[(ab:Int)],bi,aR,bQ,cr,cm,cw,cy,by go_num,ad,cE.symm,bC,by simp only[ao.num] at aw;omega,wf,hS,bx,by simp only[ao.num] at bh;simp only[LM,LX];omega,by simp only[LM,LX];omega,by simp only[ao.num] at cg;omega,by simp only[ao.num] at bE;omega,ct.1,by rw[LM,LM];exact ct.2⟩
 | ite ex th el rest=>
  simp only[ao.list,List.cons.injEq] at cd;obtain⟨rfl,cE⟩:=cd;have aC:au X wr 151 #[(7:Int),Mq,eo,en,es,.slice EA em ec,rs,.slice cM di rc,.slice cR n1 c1,.slice A2 n2 c2,.slice cC n3 c3]:=bp;clear bp;have cI:=ae aC;obtain⟨a0,ai,af⟩:=aC.two;clear aC;have hd:∃dg,d=dg+1:=by
   exact Aa
  obtain⟨dg,hd⟩:=hd;subst hd;have dG:=bk.2.2.1;have aA:=bk.2.2.2.1.gh 2 ex dG.1;have aM:=dG.2.1;have dm:=dZ (U:=U) (nk:=nk) th dg aP bc ba a6 (u++[kA (bP aP ex) 0]) aM bk.2.2.2.1;have e7:=bk.2.2.2.2.2.1;have e9:=bk.2.2.2.2.2.2.2.1;have e8:=bk.2.2.2.2.2.2.2.2;have fe:=bk.2.1;simp only[ao.num] at e7 e9 e8 fe;have aX:(bm ex).rep X (aq X) [eo,en,es,.slice EA em ec]:=D.aK (λ_ h=>h.1) _ _ (D.cT (d:=bm ex) cx.expr dI.o);go_wp2_with(fail);refine(gx aP ex aA g (ab:Int) _ _ _ _ _ _ _ z.L aX).mono ?_;rintro e aS ⟨o1,q1,s1,fh,c5,cq,rfl,aV,ar⟩;have c6:=z.aj ar;have a3:=ir z.o aV;clear aX aV;go_wp2_with(fail);refine(hh c6 (kA (bP aP ex) 0) (ab:Int) (k6 a3) ad ad).mono ?_;rintro e aT ⟨rfl,cr,cm,cw,cy,Z,ci⟩;have eb:Mv g (.slice Y u.length ah) (.slice al y.length aH) aS (.slice cr (u++[kA (bP aP ex) 0]).length cm) (.slice cw (y++[(ab:Int)]).length cy) aT:=by rw[LM,LM];exact ci
  have b3:=(Mv.hq (g:=g) (cv:=.slice Y u.length ah) (sv:=.slice al y.length aH) ar).trans eb;have fa:¬Ms g (.slice Y u.length ah) (.slice al y.length aH) wr:=by
   exact zP
  obtain⟨bM,fb⟩:=cI.cT fa b3;have e5:=Sl.cT (l:=dc th) cx.th (dI.trans b3);have eT:=ae (ev.trans b3);have eV:=ae (dI.trans b3);obtain⟨cT,bz⟩:=aJ Z bM;clear ci eb b3 a0 ai af bq am aG c6 a3 ar Z;obtain⟨a0,ai,af⟩:=bM.two;clear bM;go_wp2_with(fail);refine((show lN U nk F th from fF.1) G dg aP bc ba a6 (ab+1) (u++[kA (bP aP ex) 0]) (y++[(ab:Int)]) g B bi aR bQ cr cm cw cy A2 n2 c2 aT aM bk.2.2.2.1 bk.2.2.2.2.1 dW.o cT.o e5 (by simp only[LM,LX];omega) (by simp only[LM,LX];omega) ad ad ad).mono ?_;rintro e b7 ⟨rfl,dH,ds,dO,dS,aK,cQ,cL,de⟩;have dM:=bk.1;rw[dN] at dM;generalize dN th aP a6 (u++[kA (bP aP ex) 0])=p at *;obtain⟨a1,eP⟩:=p;obtain⟨⟨gH,c9,eq,_⟩,ca,df⟩:=dm;simp only[] at cQ cL de c9 ca df dM;have fc:u.length+1<=a1.length/\a1.length<=u.length+1+2*th.num:=by rw[c9];simp only[LM,LX];omega
  obtain⟨gi,gj⟩:=fc;clear c9 eq;have et:=ae (eT.trans de);have fk:=ae (eV.trans de);obtain⟨bI,fA⟩:=bz.cT fb de;obtain⟨bf,dT⟩:=aJ bI cL;clear de cL a0 ai af;obtain⟨a0,ai,af⟩:=bI.two;clear bI;cases bn:el.isNil
  ·
   rw[if_neg (by rw[bn];simp)] at dM;have gg:0<n3:=by have:=cx.el.1;rw[tS,show aD.el (.ite ex th el)=el from rfl] at this;rw[qb] at bn;simp at bn;rw[<-this];exact Nat.pos_of_ne_zero (by simpa using bn)
   have gX:decide ((n3:Int) > 0)=true:=by simpa using gg
   go_wp2_with(fail);refine(hh dT.o (eA 0) (ab:Int) (jC (is:=[]) (ps:=[]) (Sl.bS _) (Sl.bS _) (LK _) (LK _)) ad ad).mono ?_;rintro e cS ⟨rfl,fD,eM,eL,eQ,dt,dP⟩;have cA:Mv g (.slice dH a1.length ds) (.slice dO aK.length dS) b7 (.slice fD (a1++[eA 0]).length eM) (.slice eL (aK++[(ab:Int)]).length eQ) cS:=by rw[LM,LM];exact dP
   have c4:=ae (et.trans cA);have fV:=ae (fk.trans cA);obtain⟨bZ,gh⟩:=bf.cT fA cA;have T:=ae bZ;clear dP cA a0 ai af bZ;have dp:=dt;obtain⟨ew,ea,ed,ee,⟨f0,eg⟩,b6⟩:=dp.target (b:=u.length) (by simp only[LM,LX];omega) (((a1.length+1:Nat):Int));subst ea;obtain⟨fT,fr,fq,fW,fC,fB,fS,fp,fn,bN,_⟩:=dt.blk
   try simp only[LM,LX] at bN
   have eh:((u.length:Nat):Int)<(a1.length:Int)+1:=ad;obtain⟨dy,fl⟩:=aJ b6 dt;clear b6 dp;obtain⟨bq,am,aG⟩:=bN.two;clear bN;go_wp2;refine eJ (λ_=>False) [(0,3),(1,3),(2,3),(3,0),(4,3),(5,3),(6,3),(7,3),(8,0),(9,3),(10,3),(11,3),(12,2)] ?_
   iterate 3 refine pf ?_
   refine ph ?_
   iterate 4 refine pf ?_
   refine ph ?_
   iterate 3 refine pf ?_
   exact eS
  ·
   rw[if_pos bn] at dM;have gf:n3=0:=by have:=cx.el.1;rw[tS,show aD.el (.ite ex th el)=el from rfl] at this;rw[qb] at bn;simp at bn;rw[<-this,bn];rfl
   subst gf;have dp:=dT.o;obtain⟨ew,ea,ed,ee,⟨f0,eg⟩,b6⟩:=dp.target (b:=u.length) ad ((a1.length:Int));subst ea;obtain⟨fT,fr,fq,fW,fC,fB,fS,fp,fn,bN,_⟩:=dT.blk
   try simp only[LM,LX,cB] at bN
   have eh:((u.length:Nat):Int)<(a1.length:Int):=ad;obtain⟨dy,fl⟩:=aJ b6 dT.o;clear b6 dp;obtain⟨bq,am,aG⟩:=bN.two;clear bN;go_wp2;refine eJ (λ_=>False) [(0,3),(1,3),(2,3),(3,0),(4,3),(5,3),(6,3),(7,3),(8,0),(9,3),(10,3),(11,3),(12,2)] ?_
   iterate 3 refine pf ?_
   refine ph ?_
   iterate 4 refine pf ?_
   refine ph ?_
   iterate 3 refine pf ?_
   refine ax rfl (λK hK=>?_);go_simp;refine dX hK ?_;clear hK K;refine aF ?_;generalize dr:World.setCell _ _ _=cP;clear bq am aG ed ee eg eh;obtain⟨dV,dL⟩:=dy.o cP dr;have dz:=(et.trans dL).trans (Mv.hq (Fr.refl _ cP).drew);have ct:=ag (dV.aj Mo.drew) (show Mv g (.slice S code.length b2) (.slice bV sites.length bD) w (.slice (some ⟨ew,0,none⟩) (gm a1 u.length (a1.length:Int)).length ds) (.slice dO aK.length dS) cP.drew by rw[cB];exact dz);clear dV dL dz dr;have gV:el.num=0:=by cases el<;>simp_all [ao.isNil,ao.num]
   go_wp2;refine⟨?_,by simp[jv,intOf];omega⟩;unfold iW
   iterate 240 apply Exists.intro
   refine⟨?_,rfl⟩;unfold oy;obtain⟨_,aw,a8,hS,bx,bh,cf,cg,bE⟩:=bk.o
   exact⟨k+1,rest,aP,bc,ba,eP,ab+1+th.num,gm a1 u.length (a1.length:Int),aK,bi,aR,bQ,some ⟨ew,0,none⟩,ds,dO,dS,by go_num,ad,cE.symm,dM,ad,a8.2.2.2,hS.mono ca,bx,by simp only[cB];omega,by simp only[cB];omega,ad,ad,ct.1,ct.2⟩
 | gI ex th rest=>
  simp only[ao.list,List.cons.injEq] at cd;obtain⟨rfl,cE⟩:=cd;have aC:au X wr 151 #[(8:Int),Mq,eo,en,es,.slice EA em ec,rs,.slice cM di rc,.slice cR n1 c1,.slice A2 n2 c2,.slice cC n3 c3]:=bp;clear bp;have cI:=ae aC;obtain⟨a0,ai,af⟩:=aC.two;clear aC;have hd:∃dg,d=dg+1:=by
   exact Aa
  obtain⟨dg,hd⟩:=hd;subst hd;have dG:=bk.2.2.1;have aA:=bk.2.2.2.1.gh 2 ex dG.1;have aM:=dG.2.1;have dm:=dZ (U:=U) (nk:=nk) th dg aP bc ba a6 (u++[kA (bP aP ex) 0]) aM bk.2.2.2.1;have e7:=bk.2.2.2.2.2.1;have e9:=bk.2.2.2.2.2.2.2.1;have e8:=bk.2.2.2.2.2.2.2.2;have fe:=bk.2.1;simp only[ao.num] at e7 e9 e8 fe;have aX:(bm ex).rep X (aq X) [eo,en,es,.slice EA em ec]:=D.aK (λ_ h=>h.1) _ _ (D.cT (d:=bm ex) cx.expr dI.o);go_wp2_with(fail);refine(gx aP ex aA g (ab:Int) _ _ _ _ _ _ _ z.L aX).mono ?_;rintro e aS ⟨o1,q1,s1,fh,c5,cq,rfl,aV,ar⟩;have c6:=z.aj ar;have a3:=ir z.o aV;clear aX aV;go_wp2_with(fail);refine(hh c6 (kA (bP aP ex) 0) (ab:Int) (k6 a3) ad ad).mono ?_;rintro e aT ⟨rfl,cr,cm,cw,cy,Z,ci⟩;have eb:Mv g (.slice Y u.length ah) (.slice al y.length aH) aS (.slice cr (u++[kA (bP aP ex) 0]).length cm) (.slice cw (y++[(ab:Int)]).length cy) aT:=by rw[LM,LM];exact ci
  have b3:=(Mv.hq (g:=g) (cv:=.slice Y u.length ah) (sv:=.slice al y.length aH) ar).trans eb;have fa:¬Ms g (.slice Y u.length ah) (.slice al y.length aH) wr:=by
   exact zP
  obtain⟨bM,fb⟩:=cI.cT fa b3;have e5:=Sl.cT (l:=dc th) cx.th (dI.trans b3);have eT:=ae (ev.trans b3);have eV:=ae (dI.trans b3);obtain⟨cT,bz⟩:=aJ Z bM;clear ci eb b3 a0 ai af bq am aG c6 a3 ar Z;obtain⟨a0,ai,af⟩:=bM.two;clear bM;go_wp2_with(fail);refine((show lN U nk F th from fF.1) G dg aP bc ba a6 (ab+1) (u++[kA (bP aP ex) 0]) (y++[(ab:Int)]) g B bi aR bQ cr cm cw cy A2 n2 c2 aT aM bk.2.2.2.1 bk.2.2.2.2.1 dW.o cT.o e5 (by simp only[LM,LX];omega) (by simp only[LM,LX];omega) ad ad ad).mono ?_;rintro e b7 ⟨rfl,dH,ds,dO,dS,aK,cQ,cL,de⟩;have dM:dN rest aP (dN th aP a6 (u++[kA (bP aP ex) 0])).2 (gm ((dN th aP a6 (u++[kA (bP aP ex) 0])).1++[eA (u.length:Int)]) u.length (((dN th aP a6 (u++[kA (bP aP ex) 0])).1.length+1:Nat):Int))=dN b l n code:=bk.1;generalize dN th aP a6 (u++[kA (bP aP ex) 0])=p at *;obtain⟨a1,eP⟩:=p;obtain⟨⟨gH,c9,eq,_⟩,ca,df⟩:=dm;simp only[] at cQ cL de c9 ca df dM;have fc:u.length+1<=a1.length/\a1.length<=u.length+1+2*th.num:=by rw[c9];simp only[LM,LX];omega
  obtain⟨gi,gj⟩:=fc;clear c9 eq;have et:=ae (eT.trans de);have fk:=ae (eV.trans de);obtain⟨bI,fA⟩:=bz.cT fb de;obtain⟨bf,dT⟩:=aJ bI cL;clear de cL a0 ai af;obtain⟨a0,ai,af⟩:=bI.two;clear bI;go_wp2_with(fail);refine(hh dT.o (eA (u.length:Int)) (ab:Int) (jC (is:=[]) (ps:=[]) (Sl.bS _) (Sl.bS _) (LK _) (LK _)) ad ad).mono ?_;rintro e cS ⟨rfl,fD,eM,eL,eQ,dt,dP⟩;have cA:Mv g (.slice dH a1.length ds) (.slice dO aK.length dS) b7 (.slice fD (a1++[eA (u.length:Int)]).length eM) (.slice eL (aK++[(ab:Int)]).length eQ) cS:=by rw[LM,LM];exact dP
  have c4:=ae (et.trans cA);clear dP cA a0 ai af;have dp:=dt;obtain⟨ew,ea,ed,ee,⟨f0,eg⟩,b6⟩:=dp.target (b:=u.length) (by simp only[LM,LX];omega) (((a1.length+1:Nat):Int));subst ea;obtain⟨fT,fr,fq,fW,fC,fB,fS,fp,fn,bN,_⟩:=dt.blk
  try simp only[LM,LX] at bN
  have eh:((u.length:Nat):Int)<(a1.length:Int)+1:=ad;obtain⟨dy,fl⟩:=aJ b6 dt;clear b6 dp;obtain⟨bq,am,aG⟩:=bN.two;clear bN;go_wp2;refine eJ (λ_=>False) [(0,3),(1,3),(2,3),(3,0),(4,3),(5,3),(6,3),(7,3),(8,0),(9,3),(10,3),(11,3),(12,2)] ?_
  iterate 3 refine pf ?_
  refine ph ?_
  iterate 4 refine pf ?_
  refine ph ?_
  iterate 3 refine pf ?_
  refine ax rfl (λK hK=>?_);go_simp;refine dX hK ?_;clear hK K;refine aF ?_;generalize dr:World.setCell _ _ _=cP;clear bq am aG ed ee eg eh;obtain⟨dV,dL⟩:=dy.o cP (by rw[<-dr];simp);have dz:=(c4.trans dL).trans (Mv.hq (Fr.refl _ cP).drew);have ct:=ag (dV.aj Mo.drew) (show Mv g (.slice S code.length b2) (.slice bV sites.length bD) w (.slice (some ⟨ew,0,none⟩) (gm (a1++[eA (u.length:Int)]) u.length ((a1.length+1:Nat):Int)).length eM) (.slice eL (aK++[(ab:Int)]).length eQ) cP.drew by rw[cB];exact dz);clear dV dL dz dr;go_wp2;refine⟨?_,by simp[jv,intOf];omega⟩;unfold iW
  iterate 240 apply Exists.intro
  refine⟨?_,rfl⟩;unfold oy;obtain⟨_,aw,a8,hS,bx,bh,cf,cg,bE⟩:=bk.o
  exact⟨k+1,rest,aP,bc,ba,eP,ab+1+th.num,gm (a1++[eA (u.length:Int)]) u.length ((a1.length+1:Nat):Int),aK++[(ab:Int)],bi,aR,bQ,some ⟨ew,0,none⟩,eM,eL,eQ,by go_num,ad,cE.symm,dM,ad,a8.2.2,hS.mono ca,bx,by simp only[cB,LM,LX];omega,by simp only[cB,LM,LX];omega,ad,ad,ct.1,ct.2⟩
 | ret rest=>
  simp only[ao.list,List.cons.injEq] at cd;obtain⟨rfl,cE⟩:=cd;have aC:au X wr 151 #[(9:Int),Mq,eo,en,es,.slice EA em ec,rs,.slice cM di rc,.slice cR n1 c1,.slice A2 n2 c2,.slice cC n3 c3]:=bp;clear bp;have cI:=ae aC;obtain⟨a0,ai,af⟩:=aC.two;clear aC;go_wp2_with(fail);refine(hh z.o (nw) (ab:Int) (jC (is:=[]) (ps:=[]) (Sl.bS _) (Sl.bS _) (LK _) (LK _)) ad ad).mono ?_;rintro e aS ⟨rfl,cr,cm,cw,cy,Z,ci⟩;have ct:=ag Z (ev.trans ci);clear Z ci a0 ai af bq am aG;go_wp2;refine⟨?_,by simp[jv,intOf];omega⟩;unfold iW
  iterate 240 apply Exists.intro
  refine⟨?_,rfl⟩;unfold oy;obtain⟨bC,aw,a8,hS,bx,bh,cf,cg,bE⟩:=bk.o;have wf:=(show fm G d bc ba rest by cases d<;>exact a8)
  exact⟨k+1,rest,aP,bc,ba,a6,ab+1,u++[nw],y++[(ab:Int)],bi,aR,bQ,cr,cm,cw,cy,by go_num,ad,cE.symm,bC,by simp only[ao.num] at aw;omega,wf,hS,bx,by simp only[ao.num] at bh;simp only[LM,LX];omega,by simp only[LM,LX];omega,by simp only[ao.num] at cg;omega,by simp only[ao.num] at bE;omega,ct.1,by rw[LM,LM];exact ct.2⟩
 ):p:=h
end Dd
open Dd in
theorem Iu(bl:ao):BK bl:=by
 intro ei U nk F b G d l n st code sites g B bw ln lc S b2 bV bD A m c w bt b5 dW bF fg e0 k aP bc ba a6 ab u y bi aR bQ Y ah al aH wr an br bC aw a8 hS bx bh cf cg bE bG hM dB hQ0;intros
 conv=>arg 2;whnf
 have aj:k<=m:=ad;obtain⟨bg,bJ,aY,ey,gq,eE,cD,f3,ck,aQ,_⟩:=bG.blk;obtain⟨gs,g5,s,cs,rfl,gl,cz,dQ,fH,a4⟩:=(bt.cT hM).hf nu an;have go:(bj s).rep wr (aq wr) cs:=D.aK (λ_ h=>h.1) _ _ dQ;obtain⟨eo,en,es,EA,em,ec,rs,cM,di,rc,cR,n1,c1,A2,n2,c2,cC,n3,c3,rfl,eN⟩:=lx dQ;exact vD
theorem mG{α:Type}(f:α->ByteArray)(k:Int):∀(l:List α) (j i:Nat),(iH f k l j)[i]?=(l[i]?).map λx=>⟨f x,k,((j+i:Nat):Int)⟩
 | [],j,i=>by simp[iH]
 | x::l,j,0=>by simp[iH]
 | x::l,j,i+1=>by
  rw[iH,List.getElem?_cons_succ,List.getElem?_cons_succ,mG f k l (j+1) i,show j+1+i=j+(i+1) by omega]
theorem eO{α:Type}(f:α->ByteArray)(k:Int):∀(l:List α) (j:Nat),(iH f k l j).length=l.length
 | [],_=>rfl
 | x::l,j=>by simp[iH,eO f k l (j+1)]
theorem k3(p:bQ):(bp p).length=p.globals.length+p.af.length+p.funcs.length:=by simp[bp,eO];omega
theorem F7{p:bQ}{g:ByteArray×Int}(h:p.globals[i]?=some g):(bp p)[i]?=some ⟨g.1,1,(i:Int)⟩:=by
 have hl:=(List.getElem?_eq_some_iff.1 h).1;unfold bp;rw[List.getElem?_append_left (by simp[eO];omega),List.getElem?_append_left (by simp[eO];omega),mG,h];simp
theorem F8{p:bQ}{m:bM}(h:p.af[i]?=some m):(bp p)[p.globals.length+i]?=some ⟨m.name,2,(i:Int)⟩:=by
 have hl:=(List.getElem?_eq_some_iff.1 h).1;unfold bp;rw[List.getElem?_append_left (by simp[eO];omega),List.getElem?_append_right (by simp[eO]),eO,mG,show p.globals.length+i - p.globals.length=i by omega,h];simp
theorem xZ{p:bQ}{f:aL}(h:p.funcs[i]?=some f):(bp p)[p.globals.length+p.af.length+i]?=some ⟨f.name,3,(i:Int)⟩:=by
 unfold bp;rw[List.getElem?_append_right (by simp[eO]),LM,eO,eO,mG,show p.globals.length+p.af.length+i - (p.globals.length+p.af.length)=i by omega,h];simp
theorem kN{L:List dQ}(hn:(L.map (·.name)).Nodup)(he:L[i]?=some e):dJ (L.take i) e.name=none:=by
 refine jZ λj x bd hx=>?_;have M:j<i:=by have:=(List.getElem?_eq_some_iff.1 bd).1;simp at this;omega
 have f:L[j]?=some x:=by rw[<-bd,List.getElem?_take_of_lt M]
 have ac:(L.map (·.name))[j]?=some x.name:=by rw[List.getElem?_map,f];rfl
 have ap:(L.map (·.name))[i]?=some e.name:=by rw[List.getElem?_map,he];rfl
 have bt:=(List.getElem?_eq_some_iff.1 ac).1;have c9:=(List.getElem?_eq_some_iff.1 ap).1;rw[List.getElem?_eq_getElem bt] at ac;rw[List.getElem?_eq_getElem c9] at ap;injection ac with ac;injection ap with ap;have:=(List.getElem_inj hn).1 (ac.trans (hx.trans ap.symm));omega
theorem nW{p:bQ}(hp:oJ p):((bp p).map (·.name)).Nodup:=by rw[gf];exact hp.nodup
def FQ(w:World)(p:bQ)(e:Ending)(ab:World):Prop:=∃(bw:Mt) (lc:Nat),e=.returned (.tuple #[.slice bw (bp p).length lc,.int .i64 (-1)])/\Sl ab (fresh w ab) bw (bp p).length ((bp p).map b0)/\Ext w ab
theorem nP{p:bQ}{k:Nat}(h:(bp p)[k]?=some e):((bp p).take (k+1)).map b0=((bp p).take k).map b0++[b0 e]:=by rw[aY h,LR];rfl
namespace Dh
theorem dC(h:p:=by
 generalize hV:World.drew (World.alloc _ _)=V;have L:=gQ hV;have b8:au V wr 105 #[.string f.name,(3:Int),j]:=hV▸(Mp).drew;obtain⟨bS,aB⟩:=aJ L b8;have a8:=ae (br.trans L);have bz:=ae (b9.aj L);have Z:=ae (bH.aj L);have a9:=kN n.o d;have y:=Z.sl (Q:=aq V) (λb _ h=>h.elim) (λb _ h=>by assumption);clear hV L b8 c0 a1 a0 ai af;obtain⟨d0,aK,aM⟩:=aB.two;go_wp2_with(fail);refine(ej A (gn+mn+j) c _ f.name _ y ad).mono ?_;rintro e aS ⟨rfl,ar⟩
 try simp only at a9
 rw[a9];simp only[jb];have cd:=ae (a8.trans ar);have bf:=ae (bz.aj ar);have aE:=ae (Z.aj ar);have i:=aB.aj ar;clear d0 aK aM ar y;go_upto_region 15 with(fail);generalize co:World.alloc _ _=Y;have s:=aU co;have l:=i.aj s;have r:=ae (aE.aj s);have cj:=ae (cd.trans s);have T:=ae (bf.aj s);clear co i s;obtain⟨d0,aK,aM⟩:=l.two;have c4:=cj.size;have bG:=T.lt;clear l;go_wp2_with((at_builtin;refine bL jk rfl (.tmp 88) (.tmp 90) rfl r.o (jY ⟨f.name,3,(j:Int)⟩) rfl rfl rfl ad ad ad ?_;intro A2 c2 aT al aC cn cb));have a6:Gr (λ_=>False) (w.heap.size+1) 105 3 aT A2 (gn+mn+j+1) c2 (((bp p).take (gn+mn+j+1)).map b0):=by rw[nP d];exact al
 have bP:Ext w aT:=Fr.low (M:=λb=>w.heap.size<=b) ((cj.mono λ_ h=>h.elim).trans (aC.mono λb O=>by have:=(r.lt O).1;omega)) λ_ h=>h;have ck:=T.on aC λO=>by have:=(r.lt O).1;omega
 have bX:=az a6 bP ck;clear a6 bP ck al aC cn d0 aK aM;go_wp2;go_roundw
 case rel=>exact⟨rfl,(gn+mn+j)+1,A2,c2,ad,by go_num,rfl,bX.o⟩
 case measure=>exact aH
 ):p:=h
theorem sJ(h:p:=by
 have n:=ae (nW hp);obtain⟨I,cU,b3⟩:=ef aR hm J;have F:=ae (k3 p);have cO:(bp p).length=gn+mn+fn:=by rw[k3,dx,lm,lf]
 have b6:=az dx lm lf;clear h aR hm J hp dx lm lf;go_enter func33,ntmps33;go_upto_region 1 with(fail);generalize ba:World.alloc _ _=W;have aw:=aU ba;have aQ:=aI ba;obtain⟨br,b9⟩:=aJ aw aQ;obtain⟨a0,ai,af⟩:=aQ.two;clear ba aw aQ;go_wp2;clear a0 ai af;go_loopw [4,5,7] (λgY bv cA wr=>bv=.int .i64 (-1)/\∃(k:Nat) (A:Mt) (c:Nat),k<=gn+mn+fn/\cA=.int .i64 k/\gY=.slice A k c/\Gr (λ_=>False) (w.heap.size+1) 105 3 wr A k c (((bp p).take k).map b0)/\Ext w wr/\au wr w 31 #[.slice GA gn gc,.slice MA mn mc,.slice FA fn fc]) (λ_ _ cA _=>gn+mn+fn - (intOf cA).toNat)
 case atStart=>exact⟨rfl,0,none,0,ad,rfl,rfl,Gr.nil _ _ _ _ _,br.o,b9.o⟩
 case round=>
  obtain⟨rfl,k,A,c,aj,rfl,rfl,hG,aw,aQ⟩:=hrel;clear br b9;obtain⟨bH,br,b9⟩:=ef hG aw aQ;obtain⟨a0,ai,af⟩:=aQ.two;have od:=aw.size;clear hG aw aQ;by_cases an:k<gn+mn+fn
  .by_cases ac:k<gn
   ·
    obtain⟨b,o,g,cs,rfl,O,hx,a5,bh,a4⟩:=(I.on (Fr.ext br.o)).hf oR ac;obtain rfl:=mE.1 a5;have c0:=a4 0 _ rfl;simp only[LW] at c0;have a1:b<wr:=O;have d:=F7 hx;have q1:decide ((k:Int) - (gn:Int)<0)=true:=by first|(simp;done)|(simp;omega)
    clear a5 bh a4 hx O;go_upto_region 14 with(fail);generalize hV:World.alloc _ _=V;have L:=aU hV;have b8:=aI hV;obtain⟨bS,aB⟩:=aJ L b8;have a8:=ae (br.trans L);have bz:=ae (b9.aj L);have Z:=ae (bH.aj L);have a9:=kN n.o d;have y:=Z.sl (Q:=aq V) (λb _ h=>h.elim) (λb _ h=>by assumption);clear hV L b8 c0 a1 a0 ai af;obtain⟨d0,aK,aM⟩:=aB.two;go_wp2_with(fail);refine(ej A k c _ g.1 _ y ad).mono ?_;rintro e aS ⟨rfl,ar⟩
    try simp only at a9
    rw[a9];simp only[jb];have cd:=ae (a8.trans ar);have bf:=ae (bz.aj ar);have aE:=ae (Z.aj ar);have i:=aB.aj ar;clear d0 aK aM ar y;go_upto_region 15 with(fail);generalize co:World.alloc _ _=Y;have s:=aU co;have l:=i.aj s;have r:=ae (aE.aj s);have cj:=ae (cd.trans s);have T:=ae (bf.aj s);clear co i s;obtain⟨d0,aK,aM⟩:=l.two;have c4:=cj.size;have bG:=T.lt;clear l;go_wp2_with((at_builtin;refine bL jk rfl (.tmp 88) (.tmp 90) rfl r.o (jY ⟨g.1,1,(k:Int)⟩) rfl rfl rfl ad ad ad ?_;intro A2 c2 aT al aC cn cb));have a6:Gr (λ_=>False) (w.heap.size+1) 105 3 aT A2 (k+1) c2 (((bp p).take (k+1)).map b0):=by rw[nP d];exact al
    have bP:Ext w aT:=Fr.low (M:=λb=>w.heap.size<=b) ((cj.mono λ_ h=>h.elim).trans (aC.mono λb O=>by have:=(r.lt O).1;omega)) λ_ h=>h;have ck:=T.on aC λO=>by have:=(r.lt O).1;omega
    have bX:=az a6 bP ck;clear a6 bP ck al aC cn d0 aK aM;go_wp2;go_roundw
    case rel=>exact⟨rfl,k+1,A2,c2,ad,by go_num,rfl,bX.o⟩
    case measure=>exact aH
   .by_cases ap:k - gn<mn
    ·
     obtain⟨b,o,m,cs,rfl,O,hx,a5,bh,a4⟩:=(cU.on (Fr.ext br.o)).hf sV ap;obtain rfl:=ft.1 a5;have c0:=a4 0 _ rfl;simp only[LW] at c0;have a1:b<wr:=O;have d:=F8 hx;obtain⟨j,bd⟩:∃j,k=gn+j:=⟨k - gn,ad⟩
     subst bd;have dN:gn+j - gn=j:=ad;rw[dN] at c0 ap d hx;rw[b6.1] at d;have q:(gn:Int)+(j:Int) - (gn:Int)=(j:Int):=ad;have q1:decide ((j:Int)<0)=false:=by first|(simp;done)|(simp;omega)
     have cJ:((j:Int)<(mn:Int)):=ad;clear a5 bh a4 hx O;go_upto_region 14 with(fail);generalize hV:World.alloc _ _=V;have L:=aU hV;have b8:=aI hV;obtain⟨bS,aB⟩:=aJ L b8;have a8:=ae (br.trans L);have bz:=ae (b9.aj L);have Z:=ae (bH.aj L);have a9:=kN n.o d;have y:=Z.sl (Q:=aq V) (λb _ h=>h.elim) (λb _ h=>by assumption);clear hV L b8 c0 a1 a0 ai af;obtain⟨d0,aK,aM⟩:=aB.two;go_wp2_with(fail);refine(ej A (gn+j) c _ m.name _ y ad).mono ?_;rintro e aS ⟨rfl,ar⟩
     try simp only at a9
     rw[a9];simp only[jb];have cd:=ae (a8.trans ar);have bf:=ae (bz.aj ar);have aE:=ae (Z.aj ar);have i:=aB.aj ar;clear d0 aK aM ar y;go_upto_region 15 with(fail);generalize co:World.alloc _ _=Y;have s:=aU co;have l:=i.aj s;have r:=ae (aE.aj s);have cj:=ae (cd.trans s);have T:=ae (bf.aj s);clear co i s;obtain⟨d0,aK,aM⟩:=l.two;have c4:=cj.size;have bG:=T.lt;clear l;go_wp2_with((at_builtin;refine bL jk rfl (.tmp 88) (.tmp 90) rfl r.o (jY ⟨m.name,2,(j:Int)⟩) rfl rfl rfl ad ad ad ?_;intro A2 c2 aT al aC cn cb));have a6:Gr (λ_=>False) (w.heap.size+1) 105 3 aT A2 (gn+j+1) c2 (((bp p).take (gn+j+1)).map b0):=by rw[nP d];exact al
     have bP:Ext w aT:=Fr.low (M:=λb=>w.heap.size<=b) ((cj.mono λ_ h=>h.elim).trans (aC.mono λb O=>by have:=(r.lt O).1;omega)) λ_ h=>h;have ck:=T.on aC λO=>by have:=(r.lt O).1;omega
     have bX:=az a6 bP ck;clear a6 bP ck al aC cn d0 aK aM;go_wp2;go_roundw
     case rel=>exact⟨rfl,(gn+j)+1,A2,c2,ad,by go_num,rfl,bX.o⟩
     case measure=>exact aH
    ·
     have aV:k - gn - mn<fn:=ad;obtain⟨b,o,f,cs,rfl,O,hx,a5,bh,a4⟩:=(b3.on (Fr.ext br.o)).hf pS aV;obtain⟨PA,pn,pc,ce,bn,bc,rfl,_,_⟩:=kJ a5;have c0:=a4 0 _ rfl;simp only[LW] at c0;have a1:b<wr:=O;have d:=xZ hx;obtain⟨j,bd⟩:∃j,k=gn+mn+j:=⟨k - gn - mn,ad⟩
     subst bd;have dN:gn+mn+j - gn - mn=j:=ad;rw[dN] at c0 aV d hx;rw[b6.1,b6.2.1] at d;have q:(gn:Int)+(mn:Int)+(j:Int) - (gn:Int)=(mn:Int)+(j:Int):=ad;have av:(mn:Int)+(j:Int) - (mn:Int)=(j:Int):=ad;have q1:decide ((mn:Int)+(j:Int)<0)=false:=by first|(simp;done)|(simp;omega)
     have cJ:decide ((mn:Int)+(j:Int)<(mn:Int))=false:=by first|(simp;done)|(simp;omega)
     have u:IntKind.i64.wrap (j:Int)=j:=IntWalk.i64_in _ ad;clear a5 bh a4 hx O;go_wp2;refine eJ (λ_=>False) [(0,3),(1,0),(2,3),(3,3),(4,0),(5,3),(6,3),(7,3),(8,3),(9,0),(10,3),(11,3),(12,0),(13,3),(14,3),(15,3),(16,2)] ?_;refine pf ?_;refine ph ?_
     iterate 2 refine pf ?_
     refine ph ?_
     iterate 4 refine pf ?_
     refine ph ?_
     iterate 2 refine pf ?_
     refine ph ?_
     iterate 3 refine pf ?_
     exact eS
  .obtain rfl:gn+mn+fn=k:=ad;go_wp2
   go_ret2
   refine⟨A,c,by rw[cO];rfl,?_,br.o⟩;have:=bH.o;rw[LS ad] at this;rw[cO];exact this.sl (λb _ h=>h.elim) λb ac ap=>⟨ad,ac⟩
 ):p:=h
theorem vG(h:p:=by
 exact sI
 ):p:=h
end Dh
open Dh in
theorem sT(p:bQ)(hp:oJ p)(GA:Mt)(gn gc:Nat)(MA:Mt)(mn mc:Nat)(FA:Mt)(fn fc:Nat)(w:World)(h:hL w (aq w) p GA gn MA mn FA fn) :
  Calls prog 33 #[.agg #[.slice GA gn gc,.slice MA mn mc,.slice FA fn fc]] w (FQ w p):=by
 exact vF
end Go.Proofs.YtpkfopfkdgkfkaaGreat

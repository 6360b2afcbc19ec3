/- Part 31 of the proof. No condition of its own. -/
import Derived.Test.YtflecliffjbleaaGreatS30
namespace Go.Proofs.YtflecliffjbleaaGreat
open Go.RowKit Go.Proofs.Tryz
set_option maxRecDepth 1000000
set_option maxHeartbeats 25600000
set_option linter.unusedVariables false
variable{p:Prop}
namespace C6
theorem dd(h:p:=by
 generalize dn:World.setCell _ _ _=cz;clear a8 am aJ dY dZ ea eb;obtain⟨dR,dG⟩:=du.o cz (by rw[<-dn];simp);have cE:=cg.cT gf dG;have dv:=(df.trans dG).trans (Mv.hv (Fr.refl _ cz).drew);have eU:=(fU.trans dG).trans (Mv.hv (Fr.refl _ cz).drew);have gW:=cE.2;have eP:=dR.aj (Fr.refl (λ_=>False) cz).drew;have a9:=cE.1.aj (Fr.refl (λ_=>False) cz).drew;have cq:(gm (ai++[et 0]) u.length ((ai.length+1:Nat):Int)).length=ai.length+1:=by rw[cw,LD];rfl
 have fv:=Sl.cT (l:=c7 el) ca.el eU;have fd:=bh.2.2.1.2.2.1;obtain⟨gw,gI,gt,fE⟩:=jc dv eU eP a9;clear dR dG cE dv eU dn eP;generalize cz.drew=fn at *;obtain⟨a0,ak,af⟩:=a9.two;clear a9;have fM:=dW (U:=U) (nk:=nk) el cS aM aY a7 eH (gm (ai++[et 0]) u.length ((ai.length+1:Nat):Int)) fd (bh.2.2.2.1.mono bp);go_wp2_with(fail);refine((show lY U nk F el from fF.2) G cS aM aY a7 eH (ab+1+th.num) (gm (ai++[et 0]) u.length ((ai.length+1:Nat):Int)) (aO++[(ab:Int)]) g B ba aF b8 (some ⟨ep,0,none⟩) eF eE eI cD n3 c3 fn fd (bh.2.2.2.1.mono bp) bh.2.2.2.2.1 dT.o gt.o (by rw[cw];exact fv) (by rw[cq];omega) (by rw[cq];simp only[LD,LN];omega) ad ad ad).mono ?_;rintro e gX ⟨rfl,g7,fY,fW,gp,eC,fa,dS,er⟩;rw[cw] at er;generalize dL el aM eH (gm (ai++[et 0]) u.length ((ai.length+1:Nat):Int))=q at *;obtain⟨q1,gE⟩:=q;obtain⟨⟨ig,fQ,gn,_⟩,fz,fy⟩:=fM;simp only[] at fa dS er fQ fz fy dH;have e9:ai.length+1<=q1.length/\q1.length<=ai.length+1+2*el.num:=by rw[fQ];simp only[LD,cq];omega
 obtain⟨gY,gZ⟩:=e9;have fG:=ae (gw.trans er);clear fQ gn er a0 ak af fv;have fw:=dS;obtain⟨fX,f6,f9,ga,⟨hi,gb⟩,fb⟩:=fw.target (b:=ai.length) ad ((q1.length:Int));subst f6;obtain⟨ha,gR,gQ,he,g3,g2,g8,gO,gN,eR,_⟩:=dS.blk
 try simp only[LD,LN,cw] at eR
 have gc:((ai.length:Nat):Int)<(q1.length:Int):=ad;obtain⟨fI,gJ⟩:=aH fb dS;clear fb fw;obtain⟨a8,am,aJ⟩:=eR.two;clear eR;go_wp2;refine eK (λ_=>False) [(0,3),(1,3),(2,3),(3,0),(4,3),(5,3),(6,3),(7,3),(8,0),(9,3),(10,3),(11,3),(12,2)] ?_
 iterate 3 refine pf ?_
 refine ph ?_
 iterate 4 refine pf ?_
 refine ph ?_
 iterate 3 refine pf ?_
 refine au rfl (λK hK=>?_);go_simp;refine dU hK ?_;clear hK K;refine aC ?_;generalize fx:World.setCell _ _ _=fJ;clear a8 am aJ f9 ga gb gc;obtain⟨f4,fj⟩:=fI.o fJ fx;have dv:=(fG.trans fj).trans (Mv.hv (Fr.refl _ fJ).drew);have cj:=ah (f4.aj Mg.drew) (show Mv g (.slice S code.length br) (.slice bE sites.length bw) w (.slice (some ⟨fX,0,none⟩) (gm q1 ai.length (q1.length:Int)).length fY) (.slice fW eC.length gp) fJ.drew by rw[cw];exact dv);clear f4 fj dv fx;go_wp2;refine⟨?_,by simp[jA,intOf];omega⟩;unfold ja
 iterate 240 apply Exists.intro
 refine⟨?_,rfl⟩;unfold oO;obtain⟨_,aE,aU,hS,bj,bq,b0,cu,bG⟩:=bh.o;exact⟨k+1,rest,aM,aY,a7,gE,ab+1+th.num+el.num,gm q1 ai.length (q1.length:Int),eC,ba,aF,b8,some ⟨fX,0,none⟩,fY,fW,gp,by go_num,ad,cA.symm,dH,ad,aU.2.2.2,hS.mono ad,bj,by simp only[cw];omega,by simp only[cw];omega,ad,ad,cj.1,cj.2⟩
 ):p:=h
theorem fO(h:p:=by
 refine tf ?_;refine ck ?_;generalize fN:World.setCell _ _ _=gL;obtain⟨_,eT,_⟩:=qg b5 bo a6 fN;have eD:=ae eT;clear fN c0 cy bJ b5 bo a6 dc;have gy:=b2.aj eT;obtain⟨a0,ak,af⟩:=gy.two;clear eT gy;go_wp2_with(fail);refine(gx aM ex aw g (ab:Int) _ _ _ _ _ _ _ (z.aj eD.o).L (D.on aR.1 (Fr.ext eD.o))).mono ?_;rintro e aP ⟨o1,q1,s1,fh,c6,c8,rfl,cO,ar⟩;have bu:=ae (eD.trans ar);have fH:=ae cO;clear a0 ak af ar cO;go_upto_region 13 with(fail);generalize hV:World.alloc _ _=dJ;have T:=aZ hV;have cW:=aN hV;have aX:=z.aj (bu.trans T);obtain⟨h7,hD,hy,ib,hQ,hJ,h2,hr,hk,bD,_⟩:=aX.blk;have dj:=ae (bu.trans T);have a2:(bk (bK aM ex)).rep dJ (fresh X dJ) [.int .i64 o1,.int .i64 q1,.string s1,.slice fh c6 c8]:=
  D.aK (λb O=>⟨LU eD.size O.1,LC O.2 T.size⟩) _ _ (D.aP (λb O=>T.block b O.2 λh=>h) _ _ fH.o)
 have gA:=ae a2;clear hV a2 aX;obtain⟨a0,ak,af⟩:=cW.two;obtain⟨a8,am,aJ⟩:=bD.two;clear cW bD;go_wp2;refine eK (λ_=>False) [(0,3),(1,3),(2,3),(3,3),(4,0),(5,0),(6,3),(7,3),(8,2)] ?_
 iterate 4 refine pf ?_
 iterate 2 refine ph ?_
 iterate 2 refine pf ?_
 refine au rfl (λK hK=>?_);go_simp;have aX:=z.aj dj.drew;refine(hb aX (lO aQ false (bK aM ex)) (ab:Int) (lj (ir z.o (Eh gA.o Mg.drew))) ad ad).mono ?_;rintro e dh ⟨rfl,cG,ch,cV,c4,dq,dK⟩;refine dU hK ?_;clear hK K;refine aC ?_;clear a0 ak af a8 am aJ aX;have fi:=ae dq;have bW:Mv g (.slice Y u.length ag) (.slice an y.length a1) dJ.drew (.slice cG (u++[lO aQ false (bK aM ex)]).length ch) (.slice cV (y++[(ab:Int)]).length c4) dh:=by rw[LD,LD];exact dK
 have gU:aF<=100000:=by have ac:=bh.2.2.2.2.2.2.2.2;rw[<-eA,LG];omega
 have df:=ae (ek.trans ((Mv.hv dj.drew).trans bW));clear bW;have bQ:=(b2.aj dj.drew).on dK.fr (by
  intro hm;rcases hm with hm|hm|hm
  .have:=HA.lt;omega
  .have:=(HA.rows.one.lt hm).2;omega
  .have:=(HA.rows.two.lt hm).2;omega)
 obtain⟨a0,ak,af⟩:=bQ.two;obtain⟨h8,hE,hz,ie,hT,hL,h3,hs,hl,bt,_⟩:=dq.blk;obtain⟨a8,am,aJ⟩:=bt.two;have dz:=dq.names.2.mono (λb (O:off _ dh b)=>(show av dh b from O.1));obtain⟨cN,dw⟩:∃N,N=dh.heap.size:=⟨_,rfl⟩
 have gC:¬cN<=g:=ad;have gD:¬cN<=wr.heap.size:=ad;clear dq dK bQ bt;go_wp2;refine tw (λb=>cN<=b) [15,18] (.free 0 (.free 2 (.free 3 (.free 4 (.held 5 (.free 7 (.held 8 (.free 9 (.free 10 (.free 11 (.held 12 (.free 13 (.pick [1,14] (λi=>bif i == 1 then .pick [6,14] (λi=>bif i == 6 then .pick [14] (λ_=>.pick [15] (λ_=>.free 16 (.free 17 (.pick [18] (λ_=>.stop))))) else .pick [6] (λ_=>.pick [15] (λ_=>.free 16 (.free 17 (.pick [18] (λ_=>.stop)))))) else .pick [1] (λ_=>.pick [6] (λ_=>.pick [15] (λ_=>.free 16 (.free 17 (.pick [18] (λ_=>.stop)))))))))))))))))))) ?_
 iterate 4 refine tf ?_
 refine oV ?_;refine tf ?_;refine oV ?_
 iterate 3 refine tf ?_
 refine oV ?_;refine tf ?_;clear a0 ak af;refine iW (P:=?pI) (ops:=?IM) (Q:=?IP) (R:=?IQ) (tails:=?IT) (rest:=.pick [15] (λ_=>.free 16 (.free 17 (.pick [18] (λ_=>.stop))))) (aa:=?IL)
  (C:=λ(_:Nat) b3 A2 bR V=>Ext dh V/\Gr (λ_=>False) cN 147 3 V A2 aF bR (aM.map bY)/\ao V b3 147 #[.string nm,.int .i64 4,.int .i64 aQ]) (λkey=>?ze) ?y7
 case ze=>
  refine a5 ?_ ?_
  ·
   refine eu ?_;generalize hV:World.drew (World.alloc _ _)=bx;have e1:=hh hV;have cT:Gr (λ_=>False) cN 147 3 bx (some ⟨dh.heap.size,0,none⟩) 0 0 []:=by rw[<-hV,dw];exact(Gr.lit (w:=dh) (n:=0) (l:=[]) rfl (by rfl) ad (by simp only[D.aO])).aj Mg.drew
   have ey:=kM (dz.on (Fr.ext e1));clear hV;refine a5 ?_ ?_
   ·
    refine aD rfl (λK hK=>?_) rfl;rw[if_pos (by rfl)];refine jz js (.tmp 77) (.tmp 81) (by rfl) cT (ll aM) eA ey (λh=>by subst h;exact Sl.none_ dz) (by rfl) (by rfl) ad ad (by rw[dw];exact e1.size) ?_;intro A2 bR cL ce f1 o1 c1;refine dP hK (f1.mono λb O=>ad) ?_;clear hK K;refine aq ?_;refine eu ?_;have e2:Ext dh cL:=Fr.low (M:=λb=>dh.heap.size<=b) ((e1.mono λ_ h=>h.elim).trans (f1.mono λb O=>ad)) λ_ h=>h;have F:Ext dh (cL.alloc (.cells #[.string nm,.int .i64 4,.int .i64 aQ] 147))/\Gr (λ_=>False) cN 147 3 (cL.alloc (.cells #[.string nm,.int .i64 4,.int .i64 aQ] 147)) A2 aF bR (aM.map bY)/\
      ao (cL.alloc (.cells #[.string nm,.int .i64 4,.int .i64 aQ] 147)) cL.heap.size 147 #[.string nm,.int .i64 4,.int .i64 aQ]:=⟨e2.alloc _,ce.aj (Mg.alloc _),Mh⟩
    clear ce cT f1 o1 e1 e2 ey;revert F;generalize cL.heap.size=b3;generalize dh.heap.size=eW;intro F;exact key eW b3 A2 bR _ F
   ·
    refine eu ?_;generalize hV:World.alloc _ _=eJ;have e2:=aZ hV;have cb:ao eJ bx.heap.size 147 #[.string nm,.int .i64 4,.int .i64 aQ]:=hV▸Mh;have dA:=kM (dz.on (Fr.ext (e1.trans e2)));clear hV ey;have dF:dh.heap.size<bx.heap.size:=(cT.lt (g:=dh.heap.size) rfl).2;refine aq ?_;refine aD rfl (λK hK=>?_) rfl;rw[if_pos (by rfl)];refine jz js (.tmp 77) (.tmp 81) (by rfl) (cT.aj e2) (ll aM) eA dA (λh=>by subst h;exact Sl.none_ dz) (by rfl) (by rfl) ad ad (by rw[dw];exact(e1.trans e2).size) ?_;intro A2 bR cL ce f1 o1 c1;refine dP hK (f1.mono λb O=>ad) ?_;clear hK K;have e3:Ext dh cL:=Fr.low (M:=λb=>dh.heap.size<=b) (((e1.trans e2).mono λ_ h=>h.elim).trans (f1.mono λb O=>ad)) λ_ h=>h;have F:Ext dh cL/\Gr (λ_=>False) cN 147 3 cL A2 aF bR (aM.map bY)/\ao cL bx.heap.size 147 #[.string nm,.int .i64 4,.int .i64 aQ]:=⟨e3,ce,cb.on f1 ad⟩
    clear ce cT f1 o1 e1 e2 e3 dA cb dF;revert F;generalize bx.heap.size=b3;generalize dh.heap.size=eW;intro F;exact key eW b3 A2 bR _ F
  ·
   refine eu ?_;generalize hV:World.drew (World.alloc _ _)=bx;have e1:=hh hV;have cb:ao bx dh.heap.size 147 #[.string nm,.int .i64 4,.int .i64 aQ]:=hV▸Mh;clear hV;refine aq ?_;refine eu ?_;generalize hV:World.alloc _ _=eJ;have e2:=aZ hV;have cT:Gr (λ_=>False) bx.heap.size 147 3 eJ (some ⟨bx.heap.size,0,none⟩) 0 0 []:=hV▸Gr.lit (w:=bx) (n:=0) (l:=[]) rfl (by rfl) ad (by simp only[D.aO]);have dk:=cb.aj e2;have dA:=kM (dz.on (Fr.ext (e1.trans e2)));have dF:dh.heap.size<bx.heap.size:=cb.lt;clear hV cb;refine aq ?_;refine aD rfl (λK hK=>?_) rfl;rw[if_pos (by rfl)];refine jz js (.tmp 77) (.tmp 81) (by rfl) cT (ll aM) eA dA (λh=>by subst h;exact Sl.none_ dz) (by rfl) (by rfl) ad ad e2.size ?_;intro A2 bR cL ce f1 o1 c1;refine dP hK (f1.mono λb O=>ad) ?_;clear hK K;have e3:Ext dh cL:=Fr.low (M:=λb=>dh.heap.size<=b) (((e1.trans e2).mono λ_ h=>h.elim).trans (f1.mono λb O=>ad)) λ_ h=>h;have F:Ext dh cL/\Gr (λ_=>False) cN 147 3 cL A2 aF bR (aM.map bY)/\ao cL dh.heap.size 147 #[.string nm,.int .i64 4,.int .i64 aQ]:=⟨e3,ce.base ad,dk.on f1 ad⟩
   clear ce cT f1 o1 e1 e2 e3 dA dk;revert F;generalize bx.heap.size=eW;generalize dh.heap.size=b3;intro F;exact key eW b3 A2 bR _ F
 case y7=>
  rintro eW b3 A2 bR gK ⟨bH,cZ,cb⟩;have ff:=bH.size;have f3:=fi.aj bH;obtain⟨hc,hF,hA,hf,hU,hN,g9,ht,hn,bt,_⟩:=f3.blk;clear a8 am aJ f3;refine aq ?_;refine bN rfl (λK hK=>?_) rfl;rw[if_pos (by rfl)];refine fm js (.tmp 82) (.tmp 90) (by rfl) cZ cb (j1 ⟨nm,4,aQ⟩) (by rfl) (by rfl) (by rfl) ad ad ad ?_;intro gs cR fn fe f5 gF gM;have cq:Ext dh fn:=Fr.low (M:=λb=>dh.heap.size<=b) ((bH.mono λ_ h=>h.elim).trans (f5.mono λb O=>by have:=(cZ.lt O).1;omega)) λ_ h=>h;have a9:=bt.on f5 (λO=>by have:=(cZ.lt O).1;omega);have ds:=ah fe cq;clear fe f5 gF cZ cb bt bH cq ff;obtain⟨a8,am,aJ⟩:=a9.two;refine dU hK ?_;clear hK K
  iterate 2 refine tf ?_
  refine aq ?_;refine bN rfl (λK hK=>?_) rfl;go_simp;refine dU hK ?_;clear hK K;refine ck ?_;generalize b1:World.setCell _ _ _=gB;have eP:=fi.aj ds.2;have g1:=ds.2.size;obtain⟨dS,er⟩:=eP.EC (aM:=aM++[⟨nm,4,aQ⟩]) ad (by
   rw[LJ];refine ds.1.sl (λb _ h=>h.elim) λb ac ax=>⟨ac,λhm=>?_⟩
   rcases hm with hm|hm|hm
   .omega
   .have:=(fi.rows.one.lt hm).2;omega
   .have:=(fi.rows.two.lt hm).2;omega) b1
  have gu:=ae dS;have fG:=ae (df.trans ((Mv.hv ds.2).trans er));obtain⟨h5,hG,hB,MW,hW,hO,hZ,hu,ho,bf,_⟩:=dS.blk;clear a8 am aJ a9 b1 eP dS er dz;obtain⟨a8,am,aJ⟩:=bf.two;clear bf;go_upto_region 3 with(fail);generalize eY:World.setCell _ _ _=hg;have hw:wrap64 (aQ+1)=aQ+1:=IntWalk.wrap64_in _ (by have h0:=bh.2.2.2.1.n0;have ac:=bh.2.2.2.2.2.2.2.1;omega);rw[hw] at eY;obtain⟨ft,fu⟩:=gu.locals eY;have cj:=ah ft (fG.trans fu);clear eY ft fu a8 am aJ;go_wp2;refine⟨?_,by simp[jA,intOf];omega⟩;unfold ja
  iterate 240 apply Exists.intro
  refine⟨?_,rfl⟩;unfold oO;obtain⟨a4,aE,aU,hS,bj,bq,b0,cu,bG⟩:=bh.o;have wf:=(show fk G d (aY++[nm]) (a7++[nm]) rest by cases d<;>exact aU.2.2.2)
  exact⟨k+1,rest,aM++[⟨nm,4,aQ⟩],aY++[nm],a7++[nm],aQ+1,ab+1,u++[lO aQ false (bK aM ex)],y++[(ab:Int)],gs,(aF+1),cR,cG,ch,cV,c4,by go_num,ad,cA.symm,(show dL rest (aM++[⟨nm,4,aQ⟩]) (aQ+1) (u++[lO aQ false (bK aM ex)])=dL b l n code from a4),by simp only[al.num] at aE;omega,wf,hS.add eh.1,bj.app _,by simp only[al.num] at bq;simp only[LD,LN];omega,by simp only[LD,LN];omega,by simp only[al.num] at cu;omega,by simp only[al.num] at bG;simp only[LD,LN];omega,cj.1,cj.2⟩
 ):p:=h
theorem vZ(h:p:=by
 refine(eg ba aF b8 aM nm V.drew (dc.on (Fr.ext bo.drew)) dt).mono ?_;rintro e aP ⟨rfl,ar⟩;rw[aV];simp only[jg];refine dU hK ?_;clear hK K
 iterate 3 refine tf ?_
 have cn:=aS.aj (Fr.aF ar);have aL:=bo.trans (Fr.aF ar);clear aS bo ar;exact key X.heap.size aP ⟨aL,cn,Lz _⟩
 ):p:=h
theorem Ba(h:p:=by
 refine lK (P:=?Kt) (ops:=?KF) (Q:=?KG) (R:=?KH) (tails:=?KI) (rest:=.pick [11] (λ_=>.free 12 (.stop))) (aa:=?Ku) (C:=λde V=>Ext X V/\ao V de 147 #[.string ⟨#[]⟩,.int .i64 0,.int .i64 0]/\X.heap.size<=de) (λkey=>?Jv) ?Jq
 case Jv=>
  refine a5 ?_ ?_
  ·
   refine bN rfl (λK hK=>?_) rfl;go_simp;refine(eg ba aF b8 aM nm X.drew (dc.on (Fr.ext Mg.drew)) dt).mono ?_;rintro e aP ⟨rfl,ar⟩;rw[aV];simp only[jg];refine dU hK ?_;clear hK K
   iterate 3 refine tf ?_
   refine aq ?_;refine eu ?_;generalize hV:World.alloc _ _=V;have aS:=aN hV;have bo:Ext X V:=hV▸(Fr.aF ar).alloc _;exact DN
  ·
   exact vY
 case Jq=>
  rintro de V ⟨bo,b5,a6⟩;obtain⟨c0,cy,bJ⟩:=b5.two;clear a0 ak af a8 am aJ;exact gr
 ):p:=h
theorem vR(h:p:=by
 have gk:gq<wr.heap.size:=gj.1;have ct:=LF cm;have cf:bl.list=s::b.list.drop (k+1):=be▸(List.drop_eq_getElem?_toList_append▸(by rw[cm];rfl));obtain⟨a8,am,aJ⟩:=aS.two;obtain⟨HA,eV,ca⟩:=eS bO hM eG;have fF:=ae (cM.o s ct);clear aS bO hM dN gl Z gj eG f2;have cP:¬gq=wr.heap.size:=ad;have cH:¬g=wr.heap.size:=ad;go_wp2;refine eK (λb=>b=wr.heap.size) [(0,3),(1,3),(2,3),(3,0),(4,3),(5,3),(6,3),(7,0),(8,1),(9,1),(10,3)] ?_
 iterate 3 refine pf ?_
 refine oG ?_
 iterate 3 refine pf ?_
 refine oG ?_;refine ry ?_;refine aI rfl (λK hK=>?_);go_simp;generalize hV:World.drew (World.alloc _ _)=V;have T:=hh hV;have bm:ao V wr.heap.size 188 #[.int .i64 s.kind,.string s.name,.int .i64 eo,.int .i64 en,.string es,.slice EA em ec,.string rs,.slice cc cU rc,.slice cp n1 c1,.slice A2 n2 c2,.slice cD n3 c3]:=hV▸(Mh).drew;refine dP hK (Ib (Mg.alloc _).drew T (by simp) (by rw[<-hV];simp)) ?_;clear hK K;refine pf ?_;refine aC ?_;have fT:=ae bm;have fK:=HA.aj T;have f7:=eV.trans (Mv.hv T);obtain⟨h4,bn,bI,h9,ei,di,hY,hp,hR,b5,_⟩:=fK.blk;obtain⟨bP,gv,gz⟩:=eS T fK f7;clear hV T a8 am aJ d0 d1 d2 d3 d4 d5 d6 d7 d8 d9 d10 cP cH gk fK f7 bm;obtain⟨a8,am,aJ⟩:=b5.two;clear b5;go_upto_region 6 with(fail);generalize hX:World.setCell _ _ _=X;obtain⟨eQ,dM⟩:=gv.stmt (X:=X) (by rw[<-hX,Int.natCast_add];rfl);have b6:=cJ hX;have bC:=fT.on b6 (aB HA.lt);have bz:Ext wr V:=bP.o;have z:=ae eQ;have ek:=ae (gz.trans dM);have dE:=ae ((Mv.hv bz).trans dM);have gS:u.length<=100000:=ad;have g0:=b0;have bh:=xH a4 aE aU hS bj bq b0 cu bG;obtain⟨h6,hC,hv,ia,hP,hH,h1,hq,hj,cX,_⟩:=eQ.blk;have gP:=cX.lt;clear hX b6 a8 am aJ eQ dM bz a4 aE aU hS bj fT;obtain⟨a8,am,aJ⟩:=cX.two;clear cX
 cases bl with
 | nil=>simp[al.list] at cf
 | set bv nm ex rest=>
  cases bv
  ·
   simp only[al.list,List.cons.injEq] at cf;obtain⟨rfl,cA⟩:=cf;have ay:ao X wr.heap.size 188 #[.int .i64 2,.string nm,.int .i64 eo,.int .i64 en,.string es,.slice EA em ec,.string rs,.slice cc cU rc,.slice cp n1 c1,.slice A2 n2 c2,.slice cD n3 c3]:=bC;clear bC;have b2:=ae ay;obtain⟨a0,ak,af⟩:=ay.two;clear ay;have eh:=(show nm∈aY/\ex.src aY 2 by have:=bh.2.2.1;cases d<;>exact⟨this.1,this.2.1⟩)
   obtain⟨v,J,b7⟩:=bh.2.2.2.1.vars nm eh.1;have cK:v.kind=1\/v.kind=4:=b7.imp (λh=>h.1) (λh=>h.1);have aw:=bh.2.2.2.1.gg 2 ex eh.2;have ev:jv aM nm=v.n:=by simp[jv,J]
   have fP:uk aM nm=v.kind:=by simp[uk,J]
   have bX:(bk ex).rep X (av X) [.int .i64 eo,.int .i64 en,.string es,.slice EA em ec]:=D.aK (λ_ h=>h.1) _ _ (D.cT (d:=bk ex) ca.expr dE.o);have aR:=ah bX aw;clear bX b7;go_wp2_with(fail);refine(nj g aM nm v J cK (ab:Int) X z.L).mono ?_;rintro e aP ⟨rfl,ar⟩;simp only[rr];go_upto_region 18 with(fail);generalize hV:World.alloc _ _=dJ;have T:Ext X dJ:=hV▸ar.alloc _;have cW:=aN hV;have bV:=b2.aj T;have dj:=ae T;clear hV a0 ak af a8 am aJ ar T;obtain⟨a0,ak,af⟩:=bV.two;obtain⟨a8,am,aJ⟩:=cW.two;clear cW bV;go_wp2;refine eK (λ_=>False) [(0,3),(1,3),(2,0),(3,3),(4,0),(5,3),(6,3),(7,3),(8,0),(9,3),(12,3),(10,1),(11,3),(13,2)] ?_
   iterate 2 refine pf ?_
   refine ph ?_;refine pf ?_;refine ph ?_
   iterate 3 refine pf ?_
   refine ph ?_
   iterate 2 refine pf ?_
   refine aI rfl (λK hK=>?_);go_simp;refine(gx aM ex aw g (ab:Int) _ _ _ _ _ _ _ (z.aj dj.drew).L (D.on aR.1 (Fr.ext dj.drew))).mono ?_;rintro e b4 ⟨o1,q1,s1,fh,c6,c8,rfl,cO,bT⟩;refine dP hK (bT) ?_;clear hK K;refine pf ?_;refine au rfl (λK hK=>?_);go_simp;have dr:Ext X b4:=dj.trans (Fr.aF bT);have ci:=z.aj dr;refine(hb ci (lO v.n (v.kind == 1) (bK aM ex)) (ab:Int) (lj (ir z.o (wy cO dj.size))) ad ad).mono ?_;rintro e aW ⟨rfl,cG,ch,cV,c4,aX,bL⟩;refine dU hK ?_;clear hK K;refine aC ?_;have cj:=ah aX ((ek.trans (Mv.hv dr)).trans bL);clear aX bL a0 ak af a8 am aJ ci cO bT dr;go_wp2;refine⟨?_,by simp[jA,intOf];omega⟩;unfold ja
   iterate 240 apply Exists.intro
   refine⟨?_,rfl⟩;unfold oO;obtain⟨a4,aE,aU,hS,bj,bq,b0,cu,bG⟩:=bh.o;have wf:=(show fk G d aY a7 rest by cases d<;>exact aU.2.2)
   exact⟨k+1,rest,aM,aY,a7,aQ,ab+1,u++[lO v.n (v.kind == 1) (bK aM ex)],y++[(ab:Int)],ba,aF,b8,cG,ch,cV,c4,by go_num,ad,cA.symm,(by rw[<-ev,<-fP];exact a4),by simp only[al.num] at aE;omega,wf,hS,bj,by simp only[al.num] at bq;simp only[LD,LN];omega,by simp only[LD,LN];omega,by simp only[al.num] at cu;omega,by simp only[al.num] at bG;omega,cj.1,by rw[LD,LD];exact cj.2⟩
  ·
   simp only[al.list,List.cons.injEq] at cf;obtain⟨rfl,cA⟩:=cf;have ay:ao X wr.heap.size 188 #[.int .i64 1,.string nm,.int .i64 eo,.int .i64 en,.string es,.slice EA em ec,.string rs,.slice cc cU rc,.slice cp n1 c1,.slice A2 n2 c2,.slice cD n3 c3]:=bC;clear bC;have b2:=ae ay;obtain⟨a0,ak,af⟩:=ay.two;clear ay;have eh:=(show nm∉a7/\ex.src aY 2 by have:=bh.2.2.1;cases d<;>exact⟨this.2.1,this.2.2.1⟩)
   have aV:dD aM nm=none:=j2 λj x bi hx=>eh.1 (hx▸bh.2.2.2.1.taken x (LF bi));have aw:=bh.2.2.2.1.gg 2 ex eh.2;have bX:(bk ex).rep X (av X) [.int .i64 eo,.int .i64 en,.string es,.slice EA em ec]:=D.aK (λ_ h=>h.1) _ _ (D.cT (d:=bk ex) ca.expr dE.o);obtain⟨dt,ed⟩:=z.names;have dc:=ed.mono (λb (O:off _ X b)=>(show av X b from O.1));have aR:=aA bX dc aw;have eA:(aM.map bY).length=aF:=dc.1;clear bX ed;go_upto_region 9 with(fail)
   exact A9
 | call bb nm aT rest=>
  cases bb
  case' false=>let bb:=false
  case' true=>let bb:=true
  all_goals
   simp only[al.list,List.cons.injEq] at cf;obtain⟨rfl,cA⟩:=cf;have ay:ao X wr.heap.size 188 #[.int .i64 _,.string nm,.int .i64 eo,.int .i64 en,.string es,.slice EA em ec,.string rs,.slice cc cU rc,.slice cp n1 c1,.slice A2 n2 c2,.slice cD n3 c3]:=bC;clear bC;have b2:=ae ay;obtain⟨a0,ak,af⟩:=ay.two;clear ay;have eh:=(show ∃ps,(nm,ps)∈G.funcs/\iX G aY ps aT by have:=bh.2.2.1;cases d<;>exact this.1)
   obtain⟨ps,cl,aG⟩:=eh;obtain⟨v,f,J,ew,h0,fL,rfl⟩:=bh.2.2.2.2.1 nm ps cl;have f8:=bh.2.2.2.1.jt _ _ aG;have ev:jv aM nm=v.n:=by simp[jv,J]
   have cQ:=dT.o f (LF fL);have dy:Sl X (av X) cp n1 (aT.map eO):=(Sl.cT (l:=aT.map eO) ca.args dE.o).mono (λ_ h=>h.1);go_wp2_with(fail);refine(DY ef g aM U.af F bb nm aT v f J ew h0 fL f8 cQ eo en es EA em ec rs cc cU rc cp n1 c1 A2 n2 c2 cD n3 c3 (ab:Int) _ z.L z.M_ z.F_ dy).mono ?_;rintro e aP ⟨IA,i,ic,KA,j,kc,rfl,cO,ar⟩;have dg:=z.aj ar;have a2:=ir z.o cO;clear dy f8 cO;go_wp2_with(fail);refine(hb dg (lS bb v.n (bS aM aT) (cB aM aT)) (ab:Int) (a2) ad ad).mono ?_;rintro e aW ⟨rfl,cG,ch,cV,c4,aX,bL⟩;have cj:=ah aX ((ek.trans (Mv.hv ar)).trans bL);clear aX bL a0 ak af a8 am aJ dg a2 ar cl aG J ew h0 fL cQ;go_wp2;refine⟨?_,by simp[jA,intOf];omega⟩;unfold ja
   iterate 240 apply Exists.intro
   refine⟨?_,rfl⟩;unfold oO;obtain⟨a4,aE,aU,hS,bj,bq,b0,cu,bG⟩:=bh.o;have wf:=(show fk G d aY a7 rest by cases d<;>exact aU.2)
   exact⟨k+1,rest,aM,aY,a7,aQ,ab+1,u++[lS bb v.n (bS aM aT) (cB aM aT)],y++[(ab:Int)],ba,aF,b8,cG,ch,cV,c4,by go_num,ad,cA.symm,(by rw[<-ev];exact a4),by simp only[al.num] at aE;omega,wf,hS,bj,by simp only[al.num] at bq;simp only[LD,LN];omega,by simp only[LD,LN];omega,by simp only[al.num] at cu;omega,by simp only[al.num] at bG;omega,cj.1,by rw[LD,LD];exact cj.2⟩
 | lock bb r rest=>
  cases bb
  case' false=>let bb:=false
  case' true=>let bb:=true
  all_goals
   simp only[al.list,List.cons.injEq] at cf;obtain⟨rfl,cA⟩:=cf;have ay:ao X wr.heap.size 188 #[.int .i64 _,.string ⟨#[]⟩,.int .i64 eo,.int .i64 en,.string es,.slice EA em ec,.string rs,.slice cc cU rc,.slice cp n1 c1,.slice A2 n2 c2,.slice cD n3 c3]:=bC;clear bC;have b2:=ae ay;obtain⟨a0,ak,af⟩:=ay.two;clear ay;have eB:=(show su G aY r by have:=bh.2.2.1;cases d<;>exact this.1)
   have gi:=bh.2.2.2.1.qP r eB;have bX:(kL r).rep X (av X) [.string rs,.slice cc cU rc]:=D.aK (λ_ h=>h.1) _ _ (D.cT (d:=kL r) ca.ref dE.o);go_wp2_with(fail);refine(ef g aM U.af r gi (ab:Int) rs cc cU rc _ z.L z.M_ bX).mono ?_;rintro e aP ⟨g5,g6,cr,cd,cC,rfl,cO,ar⟩;have dg:=z.aj ar;have a2:=ir z.o cO;clear bX gi cO;go_wp2_with(fail);refine(hb dg (ql bb (mA aM r)) (ab:Int) (wu a2) ad ad).mono ?_;rintro e aW ⟨rfl,cG,ch,cV,c4,aX,bL⟩;have cj:=ah aX ((ek.trans (Mv.hv ar)).trans bL);clear aX bL a0 ak af a8 am aJ dg a2 ar eB;go_wp2;refine⟨?_,by simp[jA,intOf];omega⟩;unfold ja
   iterate 240 apply Exists.intro
   refine⟨?_,rfl⟩;unfold oO;obtain⟨a4,aE,aU,hS,bj,bq,b0,cu,bG⟩:=bh.o;have wf:=(show fk G d aY a7 rest by cases d<;>exact aU.2)
   exact⟨k+1,rest,aM,aY,a7,aQ,ab+1,u++[ql bb (mA aM r)],y++[(ab:Int)],ba,aF,b8,cG,ch,cV,c4,by go_num,ad,cA.symm,a4,by simp only[al.num] at aE;omega,wf,hS,bj,by simp only[al.num] at bq;simp only[LD,LN];omega,by simp only[LD,LN];omega,by simp only[al.num] at cu;omega,by simp only[al.num] at bG;omega,cj.1,by rw[LD,LD];exact cj.2⟩
 | ite ex th el rest=>
  simp only[al.list,List.cons.injEq] at cf;obtain⟨rfl,cA⟩:=cf;have ay:ao X wr.heap.size 188 #[.int .i64 7,.string ⟨#[]⟩,.int .i64 eo,.int .i64 en,.string es,.slice EA em ec,.string rs,.slice cc cU rc,.slice cp n1 c1,.slice A2 n2 c2,.slice cD n3 c3]:=bC;clear bC;have b2:=ae ay;obtain⟨a0,ak,af⟩:=ay.two;clear ay;have hd:∃cS,d=cS+1:=by
   exact Ae
  obtain⟨cS,hd⟩:=hd;subst hd;have dB:=bh.2.2.1;have aw:=bh.2.2.2.1.gg 2 ex dB.1;have aK:=dB.2.1;have dl:=dW (U:=U) (nk:=nk) th cS aM aY a7 aQ (u++[kA (bK aM ex) 0]) aK bh.2.2.2.1;have eZ:=bh.2.2.2.2.2.1;have e5:=bh.2.2.2.2.2.2.2.1;have e4:=bh.2.2.2.2.2.2.2.2;have fc:=bh.2.1;simp only[al.num] at eZ e5 e4 fc;have bX:(bk ex).rep X (av X) [.int .i64 eo,.int .i64 en,.string es,.slice EA em ec]:=D.aK (λ_ h=>h.1) _ _ (D.cT (d:=bk ex) ca.expr dE.o);go_wp2_with(fail);refine(gx aM ex aw g (ab:Int) _ _ _ _ _ _ _ z.L bX).mono ?_;rintro e aP ⟨o1,q1,s1,fh,c6,c8,rfl,cO,ar⟩;have dg:=z.aj ar;have a2:=ir z.o cO;clear bX cO;go_wp2_with(fail);refine(hb dg (kA (bK aM ex) 0) (ab:Int) (lj a2) ad ad).mono ?_;rintro e aW ⟨rfl,cG,ch,cV,c4,aX,bL⟩;have dX:Mv g (.slice Y u.length ag) (.slice an y.length a1) aP (.slice cG (u++[kA (bK aM ex) 0]).length ch) (.slice cV (y++[(ab:Int)]).length c4) aW:=by rw[LD,LD];exact bL
  have bs:=(Mv.hv (g:=g) (cv:=.slice Y u.length ag) (sv:=.slice an y.length a1) ar).trans dX;have e6:¬Ms g (.slice Y u.length ag) (.slice an y.length a1) wr.heap.size:=by
   exact zV
  obtain⟨bV,e7⟩:=b2.cT e6 bs;have eX:=Sl.cT (l:=c7 th) ca.th (dE.trans bs);have eL:=ae (ek.trans bs);have eN:=ae (dE.trans bs);obtain⟨co,b9⟩:=aH aX bV;clear bL dX bs a0 ak af a8 am aJ dg a2 ar aX;obtain⟨a0,ak,af⟩:=bV.two;clear bV;go_wp2_with(fail);refine((show lY U nk F th from fF.1) G cS aM aY a7 aQ (ab+1) (u++[kA (bK aM ex) 0]) (y++[(ab:Int)]) g B ba aF b8 cG ch cV c4 A2 n2 c2 aW aK bh.2.2.2.1 bh.2.2.2.2.1 dT.o co.o eX (by simp only[LD,LN];omega) (by simp only[LD,LN];omega) ad ad ad).mono ?_;rintro e b4 ⟨rfl,dC,dp,dI,dO,aO,cF,ci,da⟩;have dH:=bh.1;rw[dL] at dH;generalize dL th aM aQ (u++[kA (bK aM ex) 0])=p at *;obtain⟨ai,eH⟩:=p;obtain⟨⟨gH,c9,ee,_⟩,bp,db⟩:=dl;simp only[] at cF ci da c9 bp db dH;have e8:u.length+1<=ai.length/\ai.length<=u.length+1+2*th.num:=by rw[c9];simp only[LD,LN];omega
  obtain⟨gg,gh⟩:=e8;clear c9 ee;have ej:=ae (eL.trans da);have fl:=ae (eN.trans da);obtain⟨bU,fA⟩:=b9.cT e7 da;obtain⟨a3,dQ⟩:=aH bU ci;clear da ci a0 ak af;obtain⟨a0,ak,af⟩:=bU.two;clear bU;cases bZ:el.isNil
  ·
   rw[if_neg (by rw[bZ];simp)] at dH;have ge:0<n3:=by have:=ca.el.1;rw[ue,show az.el (.ite ex th el)=el from rfl] at this;rw[qp] at bZ;simp at bZ;rw[<-this];exact Nat.pos_of_ne_zero (by simpa using bZ)
   have gV:decide ((n3:Int) > 0)=true:=by simpa using ge
   go_wp2_with(fail);refine(hb dQ.o (et 0) (ab:Int) (jF (is:=[]) (ps:=[]) (Sl.bT _) (Sl.bT _) (Lz _) (Lz _)) ad ad).mono ?_;rintro e cI ⟨rfl,fD,eF,eE,eI,dq,dK⟩;have bW:Mv g (.slice dC ai.length dp) (.slice dI aO.length dO) b4 (.slice fD (ai++[et 0]).length eF) (.slice eE (aO++[(ab:Int)]).length eI) cI:=by rw[LD,LD];exact dK
   have df:=ae (ej.trans bW);have fU:=ae (fl.trans bW);obtain⟨bQ,gf⟩:=a3.cT fA bW;have cg:=ae bQ;clear dK bW a0 ak af bQ;have dm:=dq;obtain⟨ep,dV,dY,dZ,⟨fZ,ea⟩,bF⟩:=dm.target (b:=u.length) (by simp only[LD,LN];omega) (((ai.length+1:Nat):Int));subst dV;obtain⟨fS,fs,fr,fV,fC,fB,fR,fq,fp,bd,_⟩:=dq.blk
   try simp only[LD,LN] at bd
   have eb:((u.length:Nat):Int)<(ai.length:Int)+1:=ad;obtain⟨du,fo⟩:=aH bF dq;clear bF dm;obtain⟨a8,am,aJ⟩:=bd.two;clear bd;go_wp2;refine eK (λ_=>False) [(0,3),(1,3),(2,3),(3,0),(4,3),(5,3),(6,3),(7,3),(8,0),(9,3),(10,3),(11,3),(12,2)] ?_
   iterate 3 refine pf ?_
   refine ph ?_
   iterate 4 refine pf ?_
   refine ph ?_
   iterate 3 refine pf ?_
   exact eM
  ·
   rw[if_pos bZ] at dH;have gd:n3=0:=by have:=ca.el.1;rw[ue,show az.el (.ite ex th el)=el from rfl] at this;rw[qp] at bZ;simp at bZ;rw[<-this,bZ];rfl
   subst gd;have dm:=dQ.o;obtain⟨ep,dV,dY,dZ,⟨fZ,ea⟩,bF⟩:=dm.target (b:=u.length) ad ((ai.length:Int));subst dV;obtain⟨fS,fs,fr,fV,fC,fB,fR,fq,fp,bd,_⟩:=dQ.blk
   try simp only[LD,LN,cw] at bd
   have eb:((u.length:Nat):Int)<(ai.length:Int):=ad;obtain⟨du,fo⟩:=aH bF dQ.o;clear bF dm;obtain⟨a8,am,aJ⟩:=bd.two;clear bd;go_wp2;refine eK (λ_=>False) [(0,3),(1,3),(2,3),(3,0),(4,3),(5,3),(6,3),(7,3),(8,0),(9,3),(10,3),(11,3),(12,2)] ?_
   iterate 3 refine pf ?_
   refine ph ?_
   iterate 4 refine pf ?_
   refine ph ?_
   iterate 3 refine pf ?_
   refine au rfl (λK hK=>?_);go_simp;refine dU hK ?_;clear hK K;refine aC ?_;generalize dn:World.setCell _ _ _=cz;clear a8 am aJ dY dZ ea eb;obtain⟨dR,dG⟩:=du.o cz dn;have dv:=(ej.trans dG).trans (Mv.hv (Fr.refl _ cz).drew);have cj:=ah (dR.aj Mg.drew) (show Mv g (.slice S code.length br) (.slice bE sites.length bw) w (.slice (some ⟨ep,0,none⟩) (gm ai u.length (ai.length:Int)).length dp) (.slice dI aO.length dO) cz.drew by rw[cw];exact dv);clear dR dG dv dn;have gT:el.num=0:=by cases el<;>simp_all [al.isNil,al.num]
   go_wp2;refine⟨?_,by simp[jA,intOf];omega⟩;unfold ja
   iterate 240 apply Exists.intro
   refine⟨?_,rfl⟩;unfold oO;obtain⟨_,aE,aU,hS,bj,bq,b0,cu,bG⟩:=bh.o
   exact⟨k+1,rest,aM,aY,a7,eH,ab+1+th.num,gm ai u.length (ai.length:Int),aO,ba,aF,b8,some ⟨ep,0,none⟩,dp,dI,dO,by go_num,ad,cA.symm,dH,ad,aU.2.2.2,hS.mono bp,bj,by simp only[cw];omega,by simp only[cw];omega,ad,ad,cj.1,cj.2⟩
 | gG ex th rest=>
  simp only[al.list,List.cons.injEq] at cf;obtain⟨rfl,cA⟩:=cf;have ay:ao X wr.heap.size 188 #[.int .i64 8,.string ⟨#[]⟩,.int .i64 eo,.int .i64 en,.string es,.slice EA em ec,.string rs,.slice cc cU rc,.slice cp n1 c1,.slice A2 n2 c2,.slice cD n3 c3]:=bC;clear bC;have b2:=ae ay;obtain⟨a0,ak,af⟩:=ay.two;clear ay;have hd:∃cS,d=cS+1:=by
   exact Ae
  obtain⟨cS,hd⟩:=hd;subst hd;have dB:=bh.2.2.1;have aw:=bh.2.2.2.1.gg 2 ex dB.1;have aK:=dB.2.1;have dl:=dW (U:=U) (nk:=nk) th cS aM aY a7 aQ (u++[kA (bK aM ex) 0]) aK bh.2.2.2.1;have eZ:=bh.2.2.2.2.2.1;have e5:=bh.2.2.2.2.2.2.2.1;have e4:=bh.2.2.2.2.2.2.2.2;have fc:=bh.2.1;simp only[al.num] at eZ e5 e4 fc;have bX:(bk ex).rep X (av X) [.int .i64 eo,.int .i64 en,.string es,.slice EA em ec]:=D.aK (λ_ h=>h.1) _ _ (D.cT (d:=bk ex) ca.expr dE.o);go_wp2_with(fail);refine(gx aM ex aw g (ab:Int) _ _ _ _ _ _ _ z.L bX).mono ?_;rintro e aP ⟨o1,q1,s1,fh,c6,c8,rfl,cO,ar⟩;have dg:=z.aj ar;have a2:=ir z.o cO;clear bX cO;go_wp2_with(fail);refine(hb dg (kA (bK aM ex) 0) (ab:Int) (lj a2) ad ad).mono ?_;rintro e aW ⟨rfl,cG,ch,cV,c4,aX,bL⟩;have dX:Mv g (.slice Y u.length ag) (.slice an y.length a1) aP (.slice cG (u++[kA (bK aM ex) 0]).length ch) (.slice cV (y++[(ab:Int)]).length c4) aW:=by rw[LD,LD];exact bL
  have bs:=(Mv.hv (g:=g) (cv:=.slice Y u.length ag) (sv:=.slice an y.length a1) ar).trans dX;have e6:¬Ms g (.slice Y u.length ag) (.slice an y.length a1) wr.heap.size:=by
   exact zV
  obtain⟨bV,e7⟩:=b2.cT e6 bs;have eX:=Sl.cT (l:=c7 th) ca.th (dE.trans bs);have eL:=ae (ek.trans bs);have eN:=ae (dE.trans bs);obtain⟨co,b9⟩:=aH aX bV;clear bL dX bs a0 ak af a8 am aJ dg a2 ar aX;obtain⟨a0,ak,af⟩:=bV.two;clear bV;go_wp2_with(fail);refine((show lY U nk F th from fF.1) G cS aM aY a7 aQ (ab+1) (u++[kA (bK aM ex) 0]) (y++[(ab:Int)]) g B ba aF b8 cG ch cV c4 A2 n2 c2 aW aK bh.2.2.2.1 bh.2.2.2.2.1 dT.o co.o eX (by simp only[LD,LN];omega) (by simp only[LD,LN];omega) ad ad ad).mono ?_;rintro e b4 ⟨rfl,dC,dp,dI,dO,aO,cF,ci,da⟩;have dH:dL rest aM (dL th aM aQ (u++[kA (bK aM ex) 0])).2 (gm ((dL th aM aQ (u++[kA (bK aM ex) 0])).1++[et (u.length:Int)]) u.length (((dL th aM aQ (u++[kA (bK aM ex) 0])).1.length+1:Nat):Int))=dL b l n code:=bh.1;generalize dL th aM aQ (u++[kA (bK aM ex) 0])=p at *;obtain⟨ai,eH⟩:=p;obtain⟨⟨gH,c9,ee,_⟩,bp,db⟩:=dl;simp only[] at cF ci da c9 bp db dH;have e8:u.length+1<=ai.length/\ai.length<=u.length+1+2*th.num:=by rw[c9];simp only[LD,LN];omega
  obtain⟨gg,gh⟩:=e8;clear c9 ee;have ej:=ae (eL.trans da);have fl:=ae (eN.trans da);obtain⟨bU,fA⟩:=b9.cT e7 da;obtain⟨a3,dQ⟩:=aH bU ci;clear da ci a0 ak af;obtain⟨a0,ak,af⟩:=bU.two;clear bU;go_wp2_with(fail);refine(hb dQ.o (et (u.length:Int)) (ab:Int) (jF (is:=[]) (ps:=[]) (Sl.bT _) (Sl.bT _) (Lz _) (Lz _)) ad ad).mono ?_;rintro e cI ⟨rfl,fD,eF,eE,eI,dq,dK⟩;have bW:Mv g (.slice dC ai.length dp) (.slice dI aO.length dO) b4 (.slice fD (ai++[et (u.length:Int)]).length eF) (.slice eE (aO++[(ab:Int)]).length eI) cI:=by rw[LD,LD];exact dK
  have df:=ae (ej.trans bW);clear dK bW a0 ak af;have dm:=dq;obtain⟨ep,dV,dY,dZ,⟨fZ,ea⟩,bF⟩:=dm.target (b:=u.length) (by simp only[LD,LN];omega) (((ai.length+1:Nat):Int));subst dV;obtain⟨fS,fs,fr,fV,fC,fB,fR,fq,fp,bd,_⟩:=dq.blk
  try simp only[LD,LN] at bd
  have eb:((u.length:Nat):Int)<(ai.length:Int)+1:=ad;obtain⟨du,fo⟩:=aH bF dq;clear bF dm;obtain⟨a8,am,aJ⟩:=bd.two;clear bd;go_wp2;refine eK (λ_=>False) [(0,3),(1,3),(2,3),(3,0),(4,3),(5,3),(6,3),(7,3),(8,0),(9,3),(10,3),(11,3),(12,2)] ?_
  iterate 3 refine pf ?_
  refine ph ?_
  iterate 4 refine pf ?_
  refine ph ?_
  iterate 3 refine pf ?_
  refine au rfl (λK hK=>?_);go_simp;refine dU hK ?_;clear hK K;refine aC ?_;generalize dn:World.setCell _ _ _=cz;clear a8 am aJ dY dZ ea eb;obtain⟨dR,dG⟩:=du.o cz (by rw[<-dn];simp);have dv:=(df.trans dG).trans (Mv.hv (Fr.refl _ cz).drew);have cj:=ah (dR.aj Mg.drew) (show Mv g (.slice S code.length br) (.slice bE sites.length bw) w (.slice (some ⟨ep,0,none⟩) (gm (ai++[et (u.length:Int)]) u.length ((ai.length+1:Nat):Int)).length eF) (.slice eE (aO++[(ab:Int)]).length eI) cz.drew by rw[cw];exact dv);clear dR dG dv dn;go_wp2;refine⟨?_,by simp[jA,intOf];omega⟩;unfold ja
  iterate 240 apply Exists.intro
  refine⟨?_,rfl⟩;unfold oO;obtain⟨_,aE,aU,hS,bj,bq,b0,cu,bG⟩:=bh.o
  exact⟨k+1,rest,aM,aY,a7,eH,ab+1+th.num,gm (ai++[et (u.length:Int)]) u.length ((ai.length+1:Nat):Int),aO++[(ab:Int)],ba,aF,b8,some ⟨ep,0,none⟩,eF,eE,eI,by go_num,ad,cA.symm,dH,ad,aU.2.2,hS.mono bp,bj,by simp only[cw,LD,LN];omega,by simp only[cw,LD,LN];omega,ad,ad,cj.1,cj.2⟩
 | ret rest=>
  simp only[al.list,List.cons.injEq] at cf;obtain⟨rfl,cA⟩:=cf;have ay:ao X wr.heap.size 188 #[.int .i64 9,.string ⟨#[]⟩,.int .i64 eo,.int .i64 en,.string es,.slice EA em ec,.string rs,.slice cc cU rc,.slice cp n1 c1,.slice A2 n2 c2,.slice cD n3 c3]:=bC;clear bC;have b2:=ae ay;obtain⟨a0,ak,af⟩:=ay.two;clear ay;go_wp2_with(fail);refine(hb z.o (nJ) (ab:Int) (jF (is:=[]) (ps:=[]) (Sl.bT _) (Sl.bT _) (Lz _) (Lz _)) ad ad).mono ?_;rintro e aP ⟨rfl,cG,ch,cV,c4,aX,bL⟩;have cj:=ah aX (ek.trans bL);clear aX bL a0 ak af a8 am aJ;go_wp2;refine⟨?_,by simp[jA,intOf];omega⟩;unfold ja
  iterate 240 apply Exists.intro
  refine⟨?_,rfl⟩;unfold oO;obtain⟨a4,aE,aU,hS,bj,bq,b0,cu,bG⟩:=bh.o;have wf:=(show fk G d aY a7 rest by cases d<;>exact aU)
  exact⟨k+1,rest,aM,aY,a7,aQ,ab+1,u++[nJ],y++[(ab:Int)],ba,aF,b8,cG,ch,cV,c4,by go_num,ad,cA.symm,a4,by simp only[al.num] at aE;omega,wf,hS,bj,by simp only[al.num] at bq;simp only[LD,LN];omega,by simp only[LD,LN];omega,by simp only[al.num] at cu;omega,by simp only[al.num] at bG;omega,cj.1,by rw[LD,LD];exact cj.2⟩
 ):p:=h
end C6
open C6 in
theorem H5(bl:al):BK bl:=by
 intro ef U nk F b G d l n st code sites g B bB ln lc S br bE bw A m c w bM cM dT bA fg e0 k aM aY a7 aQ ab u y ba aF b8 Y ag an a1 wr ap be a4 aE aU hS bj bq b0 cu bG bO hM dx hQ0;intros
 conv=>arg 2;whnf
 have aj:k<=m:=ad;obtain⟨bc,cx,L,eq,go,ez,c5,f0,cY,aS,_⟩:=bO.blk;obtain⟨gq,g4,s,cs,rfl,gj,cm,dN,f2,Z⟩:=(bM.cT hM).g9 nI ap;have gl:(bg s).rep wr (av wr) cs:=D.aK (λ_ h=>h.1) _ _ dN;obtain⟨eo,en,es,EA,em,ec,rs,cc,cU,rc,cp,n1,c1,A2,n2,c2,cD,n3,c3,rfl,eG⟩:=lI dN;exact vQ
end Go.Proofs.YtflecliffjbleaaGreat

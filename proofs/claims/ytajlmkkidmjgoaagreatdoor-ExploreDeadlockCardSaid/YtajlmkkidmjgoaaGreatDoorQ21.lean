/- Part 21 of the proof. No condition of its own. -/
import Derived.Test.YtajlmkkidmjgoaaGreatDoorQ20
namespace Go.Proofs.YtajlmkkidmjgoaaGreatDoor
open Go.RowKit Go.Proofs.Tryz
set_option maxRecDepth 1000000
set_option maxHeartbeats 25600000
set_option linter.unusedVariables false
variable{p:Prop}
namespace zI
theorem fP(h:p:=by
 generalize dr:World.setCell _ _ _=da;clear be am aH ed ee ef eg;obtain⟨dY,dL⟩:=dw.o da (by rw[<-dr];simp);have cn:=cG.cz gk dL;have dx:=(cY.trans dL).trans (Mv.gL (Fr.refl _ da).drew);have eX:=(fV.trans dL).trans (Mv.gL (Fr.refl _ da).drew);have g1:=cn.2;have eS:=dY.aj (Fr.refl (λ_=>False) da).drew;have aY:=cn.1.aj (Fr.refl (λ_=>False) da).drew;have cV:(fM (aR++[dR 0]) u.length ((aR.length+1:Nat):Int)).length=aR.length+1:=by rw[cc,Hz];rfl
 have fs:=Sl.cz (l:=cL el) ct.el eX;have fe:=a2.2.2.1.2.2.1;obtain⟨gB,gM,gy,fB⟩:=ih dx eX eS aY;clear dY dL cn dx eX dr eS;generalize da.drew=fn at *;obtain⟨aI,aj,af⟩:=aY.two;clear aY;have fK:=dD (U:=U) (nk:=nk) el di ax ab aw eN (fM (aR++[dR 0]) u.length ((aR.length+1:Nat):Int)) fe (a2.2.2.2.1.mono a9);go_wp2_with(fail);refine((show k8 U nk F el from fC.2) G di ax ab aw eN (L+1+th.num) (fM (aR++[dR 0]) u.length ((aR.length+1:Nat):Int)) (aP++[(L:Int)]) g B bw bp ch (some ⟨eu,0,none⟩) eL eI eO cl bY c3 fn fe (a2.2.2.2.1.mono a9) a2.2.2.2.2.1 fg.o gy.o (by rw[cc];exact fs) (by rw[cV];omega) (by rw[cV];simp only[Hz,Ik];omega) ad ad ad).mono ?_;rintro e hf ⟨rfl,hb,f4,fX,gu,eF,fb,dZ,ev⟩;rw[cc] at ev;generalize dq el ax eN (fM (aR++[dR 0]) u.length ((aR.length+1:Nat):Int))=q at *;obtain⟨q1,gI⟩:=q;obtain⟨⟨ip,fQ,gs,_⟩,fw,fv⟩:=fK;simp only[] at fb dZ ev fQ fw fv dN;have fa:aR.length+1<=q1.length/\q1.length<=aR.length+1+2*el.num:=by rw[fQ];simp only[Hz,cV];omega
 obtain⟨g2,g3⟩:=fa;have fD:=ae (gB.trans ev);clear fQ gs ev aI aj af fs;have ft:=dZ;obtain⟨f3,ga,gd,ge,⟨hl,gf⟩,fc⟩:=ft.target (b:=aR.length) ad ((q1.length:Int));subst ga;obtain⟨hg,gU,gT,hi,g7,g6,hc,gS,gR,eU,_⟩:=dZ.blk
 try simp only[Hz,Ik,cc] at eU
 have gg:((aR.length:Nat):Int)<(q1.length:Int):=ad;obtain⟨fF,gN⟩:=aN fc dZ;clear fc ft;obtain⟨be,am,aH⟩:=eU.two;clear eU;go_wp2;refine eB (λ_=>False) [(0,3),(1,3),(2,3),(3,0),(4,3),(5,3),(6,3),(7,3),(8,0),(9,3),(10,3),(11,3),(12,2)] ?_
 iterate 3 refine pf ?_
 refine ph ?_
 iterate 4 refine pf ?_
 refine ph ?_
 iterate 3 refine pf ?_
 refine au rfl (λK hK=>?_);go_simp;refine dW hK ?_;clear hK K;refine aB ?_;generalize fu:World.setCell _ _ _=fG;clear be am aH gd ge gf gg;obtain⟨f9,fi⟩:=fF.o fG fu;have dx:=(fD.trans fi).trans (Mv.gL (Fr.refl _ fG).drew);have b9:=ai (f9.aj IK.drew) (show Mv g (.slice S code.length bR) (.slice bE sites.length br) w (.slice (some ⟨f3,0,none⟩) (fM q1 aR.length (q1.length:Int)).length f4) (.slice fX eF.length gu) fG.drew by rw[cc];exact dx);clear f9 fi dx fu;go_wp2;refine⟨?_,by simp[iI,intOf];omega⟩;unfold ie
 iterate 240 apply Exists.intro
 refine⟨?_,rfl⟩;unfold nL;obtain⟨_,bc,ah,hS,bD,bd,b8,cb,bz⟩:=a2.o;exact⟨k+1,rest,ax,ab,aw,gI,L+1+th.num+el.num,fM q1 aR.length (q1.length:Int),eF,bw,bp,ch,some ⟨f3,0,none⟩,f4,fX,gu,by go_num,ad,bL.symm,dN,ad,ah.2.2.2,hS.mono ad,bD,by simp only[cc];omega,by simp only[cc];omega,ad,ad,b9.1,b9.2⟩
 ):p:=h
theorem gj(h:p:=by
 refine tf ?_;refine cr ?_;generalize fL:World.setCell _ _ _=gP;obtain⟨_,eW,_⟩:=oS bK bg aZ fL;have eH:=ae eW;clear fL c0 cA bN bK bg aZ dh;have f2:=c8.aj eW;obtain⟨aI,aj,af⟩:=f2.two;clear eW f2;go_wp2_with(fail);refine(fS ax ex ao g (L:Int) _ _ _ _ _ _ _ (z.aj eH.o).L (D.on aV.1 (Fr.ext eH.o))).mono ?_;rintro e aO ⟨o1,q1,s1,ff,c9,cm,rfl,bt,ar⟩;have bh:=ae (eH.trans ar);have fE:=ae bt;clear aI aj af ar bt;go_upto_region 13 with(fail);generalize hV:World.alloc _ _=dX;have T:=bm hV;have cZ:=aU hV;have bu:=z.aj (bh.trans T);obtain⟨ig,hH,hC,il,hW,hO,h5,hv,ho,bk,_⟩:=bu.blk;have dl:=ae (bh.trans T);have a8:(a7 (bx ax ex)).rep dX (fresh X dX) [.int .i64 o1,.int .i64 q1,.string s1,.slice ff c9 cm]:=
  D.aH (λb O=>⟨Ir eH.size O.1,Hy O.2 T.size⟩) _ _ (D.aT (λb O=>T.block b O.2 λh=>h) _ _ fE.o)
 have gD:=ae a8;clear hV a8 bu;obtain⟨aI,aj,af⟩:=cZ.two;obtain⟨be,am,aH⟩:=bk.two;clear cZ bk;go_wp2;refine eB (λ_=>False) [(0,3),(1,3),(2,3),(3,3),(4,0),(5,0),(6,3),(7,3),(8,2)] ?_
 iterate 4 refine pf ?_
 iterate 2 refine ph ?_
 iterate 2 refine pf ?_
 refine au rfl (λK hK=>?_);go_simp;have bu:=z.aj dl.drew;refine(gF bu (kY a0 false (bx ax ex)) (L:Int) (kB (hq z.o (Ba gD.o IK.drew))) ad ad).mono ?_;rintro e dk ⟨rfl,cB,cN,cS,cU,dt,dP⟩;refine dW hK ?_;clear hK K;refine aB ?_;clear aI aj af be am aH bu;have fh:=ae dt;have cO:Mv g (.slice Y u.length aF) (.slice aM y.length bn) dX.drew (.slice cB (u++[kY a0 false (bx ax ex)]).length cN) (.slice cS (y++[(L:Int)]).length cU) dk:=by rw[Hz,Hz];exact dP
 have gZ:bp<=100000:=by have ac:=a2.2.2.2.2.2.2.2.2;rw[<-eC,Ib];omega
 have cY:=ae (er.trans ((Mv.gL dl.drew).trans cO));clear cO;have bH:=(c8.aj dl.drew).on dP.fr (by
  intro hm;rcases hm with hm|hm|hm
  .have:=HA.lt;omega
  .have:=(HA.rows.one.lt hm).2;omega
  .have:=(HA.rows.two.lt hm).2;omega)
 obtain⟨aI,aj,af⟩:=bH.two;obtain⟨ii,hJ,hD,io,hY,hP,h6,hy,hp,bB,_⟩:=dt.blk;obtain⟨be,am,aH⟩:=bB.two;have dC:=dt.names.2.mono (λb (O:off _ dk b)=>(show av dk b from O.1));obtain⟨cE,dy⟩:∃N,N=dk.heap.size:=⟨_,rfl⟩
 have gG:¬cE<=g:=ad;have gH:¬cE<=wr.heap.size:=ad;clear dt dP bH bB;go_wp2;refine sU (λb=>cE<=b) [15,18] (.free 0 (.free 2 (.free 3 (.free 4 (.held 5 (.free 7 (.held 8 (.free 9 (.free 10 (.free 11 (.held 12 (.free 13 (.pick [1,14] (λi=>bif i == 1 then .pick [6,14] (λi=>bif i == 6 then .pick [14] (λ_=>.pick [15] (λ_=>.free 16 (.free 17 (.pick [18] (λ_=>.stop))))) else .pick [6] (λ_=>.pick [15] (λ_=>.free 16 (.free 17 (.pick [18] (λ_=>.stop)))))) else .pick [1] (λ_=>.pick [6] (λ_=>.pick [15] (λ_=>.free 16 (.free 17 (.pick [18] (λ_=>.stop)))))))))))))))))))) ?_
 iterate 4 refine tf ?_
 refine rL ?_;refine tf ?_;refine rL ?_
 iterate 3 refine tf ?_
 refine rL ?_;refine tf ?_;clear aI aj af;refine h8 (P:=?pO) (ops:=?F9) (Q:=?Gb) (R:=?Gc) (tails:=?Gh) (rest:=.pick [15] (λ_=>.free 16 (.free 17 (.pick [18] (λ_=>.stop))))) (aa:=?FM)
  (C:=λ(_:Nat) b3 A2 bZ V=>Ext dk V/\Gr (λ_=>False) cE 113 3 V A2 bp bZ (ax.map bP)/\an V b3 113 #[.string nm,.int .i64 4,.int .i64 a0]) (λkey=>?Bx) ?Bm
 case Bx=>
  refine a5 ?_ ?_
  ·
   refine dS ?_;generalize hV:World.drew (World.alloc _ _)=bS;have e1:=gX hV;have cR:Gr (λ_=>False) cE 113 3 bS (some ⟨dk.heap.size,0,none⟩) 0 0 []:=by rw[<-hV,dy];exact(Gr.lit (w:=dk) (n:=0) (l:=[]) rfl (by rfl) ad (by simp only[D.aO])).aj IK.drew
   have ez:=ka (dC.on (Fr.ext e1));clear hV;refine a5 ?_ ?_
   ·
    refine aG rfl (λK hK=>?_) rfl;rw[if_pos (by rfl)];refine iH iA (.tmp 77) (.tmp 81) (by rfl) cR (kC ax) eC ez (λh=>by subst h;exact Sl.none_ dC) (by rfl) (by rfl) ad ad (by rw[dy];exact e1.size) ?_;intro A2 bZ cz b0 f1 o1 c1;refine dA hK (f1.mono λb O=>ad) ?_;clear hK K;refine aq ?_;refine dS ?_;have e2:Ext dk cz:=Fr.low (M:=λb=>dk.heap.size<=b) ((e1.mono λ_ h=>h.elim).trans (f1.mono λb O=>ad)) λ_ h=>h;have F:Ext dk (cz.alloc (.cells #[.string nm,.int .i64 4,.int .i64 a0] 113))/\Gr (λ_=>False) cE 113 3 (cz.alloc (.cells #[.string nm,.int .i64 4,.int .i64 a0] 113)) A2 bp bZ (ax.map bP)/\
      an (cz.alloc (.cells #[.string nm,.int .i64 4,.int .i64 a0] 113)) cz.heap.size 113 #[.string nm,.int .i64 4,.int .i64 a0]:=⟨e2.alloc _,b0.aj (IK.alloc _),IL⟩
    clear b0 cR f1 o1 e1 e2 ez;revert F;generalize cz.heap.size=b3;generalize dk.heap.size=ck;intro F;exact key ck b3 A2 bZ _ F
   ·
    refine dS ?_;generalize hV:World.alloc _ _=eP;have e2:=bm hV;have bq:an eP bS.heap.size 113 #[.string nm,.int .i64 4,.int .i64 a0]:=hV▸IL;have dE:=ka (dC.on (Fr.ext (e1.trans e2)));clear hV ez;have dK:dk.heap.size<bS.heap.size:=(cR.lt (g:=dk.heap.size) rfl).2;refine aq ?_;refine aG rfl (λK hK=>?_) rfl;rw[if_pos (by rfl)];refine iH iA (.tmp 77) (.tmp 81) (by rfl) (cR.aj e2) (kC ax) eC dE (λh=>by subst h;exact Sl.none_ dC) (by rfl) (by rfl) ad ad (by rw[dy];exact(e1.trans e2).size) ?_;intro A2 bZ cz b0 f1 o1 c1;refine dA hK (f1.mono λb O=>ad) ?_;clear hK K;have e3:Ext dk cz:=Fr.low (M:=λb=>dk.heap.size<=b) (((e1.trans e2).mono λ_ h=>h.elim).trans (f1.mono λb O=>ad)) λ_ h=>h;have F:Ext dk cz/\Gr (λ_=>False) cE 113 3 cz A2 bp bZ (ax.map bP)/\an cz bS.heap.size 113 #[.string nm,.int .i64 4,.int .i64 a0]:=⟨e3,b0,bq.on f1 ad⟩
    clear b0 cR f1 o1 e1 e2 e3 dE bq dK;revert F;generalize bS.heap.size=b3;generalize dk.heap.size=ck;intro F;exact key ck b3 A2 bZ _ F
  ·
   refine dS ?_;generalize hV:World.drew (World.alloc _ _)=bS;have e1:=gX hV;have bq:an bS dk.heap.size 113 #[.string nm,.int .i64 4,.int .i64 a0]:=hV▸IL;clear hV;refine aq ?_;refine dS ?_;generalize hV:World.alloc _ _=eP;have e2:=bm hV;have cR:Gr (λ_=>False) bS.heap.size 113 3 eP (some ⟨bS.heap.size,0,none⟩) 0 0 []:=hV▸Gr.lit (w:=bS) (n:=0) (l:=[]) rfl (by rfl) ad (by simp only[D.aO]);have dm:=bq.aj e2;have dE:=ka (dC.on (Fr.ext (e1.trans e2)));have dK:dk.heap.size<bS.heap.size:=bq.lt;clear hV bq;refine aq ?_;refine aG rfl (λK hK=>?_) rfl;rw[if_pos (by rfl)];refine iH iA (.tmp 77) (.tmp 81) (by rfl) cR (kC ax) eC dE (λh=>by subst h;exact Sl.none_ dC) (by rfl) (by rfl) ad ad e2.size ?_;intro A2 bZ cz b0 f1 o1 c1;refine dA hK (f1.mono λb O=>ad) ?_;clear hK K;have e3:Ext dk cz:=Fr.low (M:=λb=>dk.heap.size<=b) (((e1.trans e2).mono λ_ h=>h.elim).trans (f1.mono λb O=>ad)) λ_ h=>h;have F:Ext dk cz/\Gr (λ_=>False) cE 113 3 cz A2 bp bZ (ax.map bP)/\an cz dk.heap.size 113 #[.string nm,.int .i64 4,.int .i64 a0]:=⟨e3,b0.base ad,dm.on f1 ad⟩
   clear b0 cR f1 o1 e1 e2 e3 dE dm;revert F;generalize bS.heap.size=ck;generalize dk.heap.size=b3;intro F;exact key ck b3 A2 bZ _ F
 case Bm=>
  rintro ck b3 A2 bZ gO ⟨cH,cQ,bq⟩;have gv:=cH.size;have f8:=fh.aj cH;obtain⟨hh,hL,hE,hj,hZ,hQ,he,hz,hr,bB,_⟩:=f8.blk;clear be am aH f8;refine aq ?_;refine bA rfl (λK hK=>?_) rfl;rw[if_pos (by rfl)];refine eK iA (.tmp 82) (.tmp 90) (by rfl) cQ bq (jt ⟨nm,4,a0⟩) (by rfl) (by rfl) (by rfl) ad ad ad ?_;intro gx cC fn fH f5 gK gQ;have cV:Ext dk fn:=Fr.low (M:=λb=>dk.heap.size<=b) ((cH.mono λ_ h=>h.elim).trans (f5.mono λb O=>by have:=(cQ.lt O).1;omega)) λ_ h=>h;have aY:=bB.on f5 (λO=>by have:=(cQ.lt O).1;omega);have du:=ai fH cV;clear fH f5 gK cQ bq bB cH cV gv;obtain⟨be,am,aH⟩:=aY.two;refine dW hK ?_;clear hK K
  iterate 2 refine tf ?_
  refine aq ?_;refine bA rfl (λK hK=>?_) rfl;go_simp;refine dW hK ?_;clear hK K;refine cr ?_;generalize cf:World.setCell _ _ _=gE;have eS:=fh.aj du.2;have g5:=du.2.size;obtain⟨dZ,ev⟩:=eS.Bz (ax:=ax++[⟨nm,4,a0⟩]) ad (by
   rw[Ig];refine du.1.sl (λb _ h=>h.elim) λb ac J=>⟨ac,λhm=>?_⟩
   rcases hm with hm|hm|hm
   .omega
   .have:=(fh.rows.one.lt hm).2;omega
   .have:=(fh.rows.two.lt hm).2;omega) cf
  have gz:=ae dZ;have fD:=ae (cY.trans ((Mv.gL du.2).trans ev));obtain⟨ia,hM,hF,MW,h1,hT,h3,hA,hs,cK,_⟩:=dZ.blk;clear be am aH aY cf eS dZ ev dC;obtain⟨be,am,aH⟩:=cK.two;clear cK;go_upto_region 3 with(fail);generalize eZ:World.setCell _ _ _=hk;have hw:wrap64 (a0+1)=a0+1:=IntWalk.wrap64_in _ (by have h0:=a2.2.2.2.1.n0;have ac:=a2.2.2.2.2.2.2.2.1;omega);rw[hw] at eZ;obtain⟨fq,fr⟩:=gz.locals eZ;have b9:=ai fq (fD.trans fr);clear eZ fq fr be am aH;go_wp2;refine⟨?_,by simp[iI,intOf];omega⟩;unfold ie
  iterate 240 apply Exists.intro
  refine⟨?_,rfl⟩;unfold nL;obtain⟨aX,bc,ah,hS,bD,bd,b8,cb,bz⟩:=a2.o;have wf:=(show eJ G d (ab++[nm]) (aw++[nm]) rest by cases d<;>exact ah.2.2.2)
  exact⟨k+1,rest,ax++[⟨nm,4,a0⟩],ab++[nm],aw++[nm],a0+1,L+1,u++[kY a0 false (bx ax ex)],y++[(L:Int)],gx,(bp+1),cC,cB,cN,cS,cU,by go_num,ad,bL.symm,(show dq rest (ax++[⟨nm,4,a0⟩]) (a0+1) (u++[kY a0 false (bx ax ex)])=dq b l n code from aX),by simp only[ak.num] at bc;omega,wf,hS.add ej.1,bD.app _,by simp only[ak.num] at bd;simp only[Hz,Ik];omega,by simp only[Hz,Ik];omega,by simp only[ak.num] at cb;omega,by simp only[ak.num] at bz;simp only[Hz,Ik];omega,b9.1,b9.2⟩
 ):p:=h
theorem tN(h:p:=by
 refine(dH bw bp ch ax nm V.drew (dh.on (Fr.ext bg.drew)) dM).mono ?_;rintro e aO ⟨rfl,ar⟩;rw[aK];simp only[im];refine dW hK ?_;clear hK K
 iterate 3 refine tf ?_
 have co:=aS.aj (Fr.aJ ar);have ag:=bg.trans (Fr.aJ ar);clear aS bg ar;exact key X.heap.size aO ⟨ag,co,Hx _⟩
 ):p:=h
theorem yT(h:p:=by
 refine kU (P:=?GZ) (ops:=?G4) (Q:=?G5) (R:=?G6) (tails:=?G7) (rest:=.pick [11] (λ_=>.free 12 (.stop))) (aa:=?G0) (C:=λc5 V=>Ext X V/\an V c5 113 #[.string ⟨#[]⟩,.int .i64 0,.int .i64 0]/\X.heap.size<=c5) (λkey=>?F2) ?FY
 case F2=>
  refine a5 ?_ ?_
  ·
   refine bA rfl (λK hK=>?_) rfl;go_simp;refine(dH bw bp ch ax nm X.drew (dh.on (Fr.ext IK.drew)) dM).mono ?_;rintro e aO ⟨rfl,ar⟩;rw[aK];simp only[im];refine dW hK ?_;clear hK K
   iterate 3 refine tf ?_
   refine aq ?_;refine dS ?_;generalize hV:World.alloc _ _=V;have aS:=aU hV;have bg:Ext X V:=hV▸(Fr.aJ ar).alloc _;exact AA
  ·
   exact tM
 case FY=>
  rintro c5 V ⟨bg,bK,aZ⟩;obtain⟨c0,cA,bN⟩:=bK.two;clear aI aj af be am aH;exact gY
 ):p:=h
theorem tD(h:p:=by
 have gp:gw<wr.heap.size:=go.1;have dg:=Ia b1;have bf:bl.list=s::b.list.drop (k+1):=bF▸(List.drop_eq_getElem?_toList_append▸(by rw[b1];rfl));obtain⟨be,am,aH⟩:=aS.two;obtain⟨HA,eV,ct⟩:=eD bj a6 eM;have fC:=ae (c6.o s dg);clear aS bj a6 dT gr Z go eM gq;have cM:¬gw=wr.heap.size:=ad;have cg:¬g=wr.heap.size:=ad;go_wp2;refine eB (λb=>b=wr.heap.size) [(0,3),(1,3),(2,3),(3,0),(4,3),(5,3),(6,3),(7,0),(8,1),(9,1),(10,3)] ?_
 iterate 3 refine pf ?_
 refine m0 ?_
 iterate 3 refine pf ?_
 refine m0 ?_;refine p2 ?_;refine aD rfl (λK hK=>?_);go_simp;generalize hV:World.drew (World.alloc _ _)=V;have T:=gX hV;have aQ:an V wr.heap.size 153 #[.int .i64 s.kind,.string s.name,.int .i64 eo,.int .i64 en,.string es,.slice EA em ec,.string rs,.slice ce cX rc,.slice cF n1 c1,.slice A2 cd c2,.slice cl bY c3]:=hV▸(IL).drew;refine dA hK (ER (IK.alloc _).drew T (by simp) (by rw[<-hV];simp)) ?_;clear hK K;refine pf ?_;refine aB ?_;have fU:=ae aQ;have fI:=HA.aj T;have gb:=eV.trans (Mv.gL T);obtain⟨h7,bC,ci,ij,ek,dj,h2,ht,hR,bK,_⟩:=fI.blk;obtain⟨aE,gA,gC⟩:=eD T fI gb;clear hV T be am aH d0 d1 d2 d3 d4 d5 d6 d7 d8 d9 d10 cM cg gp fI gb aQ;obtain⟨be,am,aH⟩:=bK.two;clear bK;go_upto_region 6 with(fail);generalize hX:World.setCell _ _ _=X;obtain⟨eT,dQ⟩:=gA.stmt (X:=X) (by rw[<-hX,Int.natCast_add];rfl);have bT:=cT hX;have bQ:=fU.on bT (aC HA.lt);have bW:Ext wr V:=aE.o;have z:=ae eT;have er:=ae (gC.trans dQ);have dJ:=ae ((Mv.gL bW).trans dQ);have gV:u.length<=100000:=ad;have g4:=b8;have a2:=yx aX bc ah hS bD bd b8 cb bz;obtain⟨ib,hG,hB,ik,hU,hN,h4,hu,hn,c4,_⟩:=eT.blk;have gJ:=c4.lt;clear hX bT be am aH eT dQ bW aX bc ah hS bD fU;obtain⟨be,am,aH⟩:=c4.two;clear c4
 cases bl with
 | nil=>simp[ak.list] at bf
 | set bv nm ex rest=>
  cases bv
  ·
   simp only[ak.list,List.cons.injEq] at bf;obtain⟨rfl,bL⟩:=bf;have az:an X wr.heap.size 153 #[.int .i64 2,.string nm,.int .i64 eo,.int .i64 en,.string es,.slice EA em ec,.string rs,.slice ce cX rc,.slice cF n1 c1,.slice A2 cd c2,.slice cl bY c3]:=bQ;clear bQ;have c8:=ae az;obtain⟨aI,aj,af⟩:=az.two;clear az;have ej:=(show nm∈ab/\ex.src ab 2 by have:=a2.2.2.1;cases d<;>exact⟨this.1,this.2.1⟩)
   obtain⟨v,aA,b7⟩:=a2.2.2.2.1.vars nm ej.1;have bM:v.kind=1\/v.kind=4:=b7.imp (λh=>h.1) (λh=>h.1);have ao:=a2.2.2.2.1.fH 2 ex ej.2;have ew:iC ax nm=v.n:=by simp[iC,aA]
   have fN:sk ax nm=v.kind:=by simp[sk,aA]
   have bX:(a7 ex).rep X (av X) [.int .i64 eo,.int .i64 en,.string es,.slice EA em ec]:=D.aH (λ_ h=>h.1) _ _ (D.cz (d:=a7 ex) ct.expr dJ.o);have aV:=ai bX ao;clear bX b7;go_wp2_with(fail);refine(mC g ax nm v aA bM (L:Int) X z.L).mono ?_;rintro e aO ⟨rfl,ar⟩;simp only[pY];go_upto_region 18 with(fail);generalize hV:World.alloc _ _=dX;have T:Ext X dX:=hV▸ar.alloc _;have cZ:=aU hV;have bU:=c8.aj T;have dl:=ae T;clear hV aI aj af be am aH ar T;obtain⟨aI,aj,af⟩:=bU.two;obtain⟨be,am,aH⟩:=cZ.two;clear cZ bU;go_wp2;refine eB (λ_=>False) [(0,3),(1,3),(2,0),(3,3),(4,0),(5,3),(6,3),(7,3),(8,0),(9,3),(12,3),(10,1),(11,3),(13,2)] ?_
   iterate 2 refine pf ?_
   refine ph ?_;refine pf ?_;refine ph ?_
   iterate 3 refine pf ?_
   refine ph ?_
   iterate 2 refine pf ?_
   refine aD rfl (λK hK=>?_);go_simp;refine(fS ax ex ao g (L:Int) _ _ _ _ _ _ _ (z.aj dl.drew).L (D.on aV.1 (Fr.ext dl.drew))).mono ?_;rintro e b4 ⟨o1,q1,s1,ff,c9,cm,rfl,bt,bV⟩;refine dA hK (bV) ?_;clear hK K;refine pf ?_;refine au rfl (λK hK=>?_);go_simp;have dv:Ext X b4:=dl.trans (Fr.aJ bV);have dc:=z.aj dv;refine(gF dc (kY v.n (v.kind == 1) (bx ax ex)) (L:Int) (kB (hq z.o (ue bt dl.size))) ad ad).mono ?_;rintro e aT ⟨rfl,cB,cN,cS,cU,bu,dz⟩;refine dW hK ?_;clear hK K;refine aB ?_;have b9:=ai bu ((er.trans (Mv.gL dv)).trans dz);clear bu dz aI aj af be am aH dc bt bV dv;go_wp2;refine⟨?_,by simp[iI,intOf];omega⟩;unfold ie
   iterate 240 apply Exists.intro
   refine⟨?_,rfl⟩;unfold nL;obtain⟨aX,bc,ah,hS,bD,bd,b8,cb,bz⟩:=a2.o;have wf:=(show eJ G d ab aw rest by cases d<;>exact ah.2.2)
   exact⟨k+1,rest,ax,ab,aw,a0,L+1,u++[kY v.n (v.kind == 1) (bx ax ex)],y++[(L:Int)],bw,bp,ch,cB,cN,cS,cU,by go_num,ad,bL.symm,(by rw[<-ew,<-fN];exact aX),by simp only[ak.num] at bc;omega,wf,hS,bD,by simp only[ak.num] at bd;simp only[Hz,Ik];omega,by simp only[Hz,Ik];omega,by simp only[ak.num] at cb;omega,by simp only[ak.num] at bz;omega,b9.1,by rw[Hz,Hz];exact b9.2⟩
  ·
   simp only[ak.list,List.cons.injEq] at bf;obtain⟨rfl,bL⟩:=bf;have az:an X wr.heap.size 153 #[.int .i64 1,.string nm,.int .i64 eo,.int .i64 en,.string es,.slice EA em ec,.string rs,.slice ce cX rc,.slice cF n1 c1,.slice A2 cd c2,.slice cl bY c3]:=bQ;clear bQ;have c8:=ae az;obtain⟨aI,aj,af⟩:=az.two;clear az;have ej:=(show nm∉aw/\ex.src ab 2 by have:=a2.2.2.1;cases d<;>exact⟨this.2.1,this.2.2.1⟩)
   have aK:de ax nm=none:=ju λj x a1 hx=>ej.1 (hx▸a2.2.2.2.1.taken x (Ia a1));have ao:=a2.2.2.2.1.fH 2 ex ej.2;have bX:(a7 ex).rep X (av X) [.int .i64 eo,.int .i64 en,.string es,.slice EA em ec]:=D.aH (λ_ h=>h.1) _ _ (D.cz (d:=a7 ex) ct.expr dJ.o);obtain⟨dM,eh⟩:=z.names;have dh:=eh.mono (λb (O:off _ X b)=>(show av X b from O.1));have aV:=aL bX dh ao;have eC:(ax.map bP).length=bp:=dh.1;clear bX eh;go_upto_region 9 with(fail)
   exact yS
 | call bb nm aJ rest=>
  cases bb
  case' false=>let bb:=false
  case' true=>let bb:=true
  all_goals
   simp only[ak.list,List.cons.injEq] at bf;obtain⟨rfl,bL⟩:=bf;have az:an X wr.heap.size 153 #[.int .i64 _,.string nm,.int .i64 eo,.int .i64 en,.string es,.slice EA em ec,.string rs,.slice ce cX rc,.slice cF n1 c1,.slice A2 cd c2,.slice cl bY c3]:=bQ;clear bQ;have c8:=ae az;obtain⟨aI,aj,af⟩:=az.two;clear az;have ej:=(show ∃ps,(nm,ps)∈G.funcs/\h9 G ab ps aJ by have:=a2.2.2.1;cases d<;>exact this.1)
   obtain⟨ps,cq,cw⟩:=ej;obtain⟨v,f,aA,ey,h0,fJ,rfl⟩:=a2.2.2.2.2.1 nm ps cq;have gc:=a2.2.2.2.1.iB _ _ cw;have ew:iC ax nm=v.n:=by simp[iC,aA]
   have cJ:=fg.o f (Ia fJ);have dB:Sl X (av X) cF n1 (aJ.map ep):=(Sl.cz (l:=aJ.map ep) ct.args dJ.o).mono (λ_ h=>h.1);go_wp2_with(fail);refine(AP e0 g ax U.af F bb nm aJ v f aA ey h0 fJ gc cJ eo en es EA em ec rs ce cX rc cF n1 c1 A2 cd c2 cl bY c3 (L:Int) _ z.L z.M_ z.F_ dB).mono ?_;rintro e aO ⟨IA,i,ic,KA,j,kc,rfl,bt,ar⟩;have db:=z.aj ar;have a8:=hq z.o bt;clear dB gc bt;go_wp2_with(fail);refine(gF db (k2 bb v.n (bG ax aJ) (cj ax aJ)) (L:Int) (a8) ad ad).mono ?_;rintro e aT ⟨rfl,cB,cN,cS,cU,bu,dz⟩;have b9:=ai bu ((er.trans (Mv.gL ar)).trans dz);clear bu dz aI aj af be am aH db a8 ar cq cw aA ey h0 fJ cJ;go_wp2;refine⟨?_,by simp[iI,intOf];omega⟩;unfold ie
   iterate 240 apply Exists.intro
   refine⟨?_,rfl⟩;unfold nL;obtain⟨aX,bc,ah,hS,bD,bd,b8,cb,bz⟩:=a2.o;have wf:=(show eJ G d ab aw rest by cases d<;>exact ah.2)
   exact⟨k+1,rest,ax,ab,aw,a0,L+1,u++[k2 bb v.n (bG ax aJ) (cj ax aJ)],y++[(L:Int)],bw,bp,ch,cB,cN,cS,cU,by go_num,ad,bL.symm,(by rw[<-ew];exact aX),by simp only[ak.num] at bc;omega,wf,hS,bD,by simp only[ak.num] at bd;simp only[Hz,Ik];omega,by simp only[Hz,Ik];omega,by simp only[ak.num] at cb;omega,by simp only[ak.num] at bz;omega,b9.1,by rw[Hz,Hz];exact b9.2⟩
 | lock bb r rest=>
  cases bb
  case' false=>let bb:=false
  case' true=>let bb:=true
  all_goals
   simp only[ak.list,List.cons.injEq] at bf;obtain⟨rfl,bL⟩:=bf;have az:an X wr.heap.size 153 #[.int .i64 _,.string ⟨#[]⟩,.int .i64 eo,.int .i64 en,.string es,.slice EA em ec,.string rs,.slice ce cX rc,.slice cF n1 c1,.slice A2 cd c2,.slice cl bY c3]:=bQ;clear bQ;have c8:=ae az;obtain⟨aI,aj,af⟩:=az.two;clear az;have eE:=(show rU G ab r by have:=a2.2.2.1;cases d<;>exact this.1)
   have gn:=a2.2.2.2.1.pz r eE;have bX:(j9 r).rep X (av X) [.string rs,.slice ce cX rc]:=D.aH (λ_ h=>h.1) _ _ (D.cz (d:=j9 r) ct.ref dJ.o);go_wp2_with(fail);refine(e0 g ax U.af r gn (L:Int) rs ce cX rc _ z.L z.M_ bX).mono ?_;rintro e aO ⟨g9,ha,cy,cp,cD,rfl,bt,ar⟩;have db:=z.aj ar;have a8:=hq z.o bt;clear bX gn bt;go_wp2_with(fail);refine(gF db (oX bb (lK ax r)) (L:Int) (ua a8) ad ad).mono ?_;rintro e aT ⟨rfl,cB,cN,cS,cU,bu,dz⟩;have b9:=ai bu ((er.trans (Mv.gL ar)).trans dz);clear bu dz aI aj af be am aH db a8 ar eE;go_wp2;refine⟨?_,by simp[iI,intOf];omega⟩;unfold ie
   iterate 240 apply Exists.intro
   refine⟨?_,rfl⟩;unfold nL;obtain⟨aX,bc,ah,hS,bD,bd,b8,cb,bz⟩:=a2.o;have wf:=(show eJ G d ab aw rest by cases d<;>exact ah.2)
   exact⟨k+1,rest,ax,ab,aw,a0,L+1,u++[oX bb (lK ax r)],y++[(L:Int)],bw,bp,ch,cB,cN,cS,cU,by go_num,ad,bL.symm,aX,by simp only[ak.num] at bc;omega,wf,hS,bD,by simp only[ak.num] at bd;simp only[Hz,Ik];omega,by simp only[Hz,Ik];omega,by simp only[ak.num] at cb;omega,by simp only[ak.num] at bz;omega,b9.1,by rw[Hz,Hz];exact b9.2⟩
 | ite ex th el rest=>
  simp only[ak.list,List.cons.injEq] at bf;obtain⟨rfl,bL⟩:=bf;have az:an X wr.heap.size 153 #[.int .i64 7,.string ⟨#[]⟩,.int .i64 eo,.int .i64 en,.string es,.slice EA em ec,.string rs,.slice ce cX rc,.slice cF n1 c1,.slice A2 cd c2,.slice cl bY c3]:=bQ;clear bQ;have c8:=ae az;obtain⟨aI,aj,af⟩:=az.two;clear az;have hd:∃di,d=di+1:=by
   exact yd
  obtain⟨di,hd⟩:=hd;subst hd;have dF:=a2.2.2.1;have ao:=a2.2.2.2.1.fH 2 ex dF.1;have bi:=dF.2.1;have dn:=dD (U:=U) (nk:=nk) th di ax ab aw a0 (u++[jX (bx ax ex) 0]) bi a2.2.2.2.1;have e4:=a2.2.2.2.2.2.1;have e6:=a2.2.2.2.2.2.2.2.1;have e5:=a2.2.2.2.2.2.2.2.2;have fd:=a2.2.1;simp only[ak.num] at e4 e6 e5 fd;have bX:(a7 ex).rep X (av X) [.int .i64 eo,.int .i64 en,.string es,.slice EA em ec]:=D.aH (λ_ h=>h.1) _ _ (D.cz (d:=a7 ex) ct.expr dJ.o);go_wp2_with(fail);refine(fS ax ex ao g (L:Int) _ _ _ _ _ _ _ z.L bX).mono ?_;rintro e aO ⟨o1,q1,s1,ff,c9,cm,rfl,bt,ar⟩;have db:=z.aj ar;have a8:=hq z.o bt;clear bX bt;go_wp2_with(fail);refine(gF db (jX (bx ax ex) 0) (L:Int) (kB a8) ad ad).mono ?_;rintro e aT ⟨rfl,cB,cN,cS,cU,bu,dz⟩;have eb:Mv g (.slice Y u.length aF) (.slice aM y.length bn) aO (.slice cB (u++[jX (bx ax ex) 0]).length cN) (.slice cS (y++[(L:Int)]).length cU) aT:=by rw[Hz,Hz];exact dz
  have b5:=(Mv.gL (g:=g) (cv:=.slice Y u.length aF) (sv:=.slice aM y.length bn) ar).trans eb;have e7:¬Ms g (.slice Y u.length aF) (.slice aM y.length bn) wr.heap.size:=by
   exact D7
  obtain⟨bU,e8⟩:=c8.cz e7 b5;have eY:=Sl.cz (l:=cL th) ct.th (dJ.trans b5);have eQ:=ae (er.trans b5);have eR:=ae (dJ.trans b5);obtain⟨cP,b6⟩:=aN bu bU;clear dz eb b5 aI aj af be am aH db a8 ar bu;obtain⟨aI,aj,af⟩:=bU.two;clear bU;go_wp2_with(fail);refine((show k8 U nk F th from fC.1) G di ax ab aw a0 (L+1) (u++[jX (bx ax ex) 0]) (y++[(L:Int)]) g B bw bp ch cB cN cS cU A2 cd c2 aT bi a2.2.2.2.1 a2.2.2.2.2.1 fg.o cP.o eY (by simp only[Hz,Ik];omega) (by simp only[Hz,Ik];omega) ad ad ad).mono ?_;rintro e b4 ⟨rfl,dI,ds,dO,dU,aP,cx,dc,dd⟩;have dN:=a2.1;rw[dq] at dN;generalize dq th ax a0 (u++[jX (bx ax ex) 0])=p at *;obtain⟨aR,eN⟩:=p;obtain⟨⟨gL,c7,ei,_⟩,a9,df⟩:=dn;simp only[] at cx dc dd c7 a9 df dN;have e9:u.length+1<=aR.length/\aR.length<=u.length+1+2*th.num:=by rw[c7];simp only[Hz,Ik];omega
  obtain⟨gl,gm⟩:=e9;clear c7 ei;have eq:=ae (eQ.trans dd);have fj:=ae (eR.trans dd);obtain⟨bO,fx⟩:=b6.cz e8 dd;obtain⟨bI,dV⟩:=aN bO dc;clear dd dc aI aj af;obtain⟨aI,aj,af⟩:=bO.two;clear bO;cases b2:el.isNil
  ·
   rw[if_neg (by rw[b2];simp)] at dN;have gi:0<bY:=by have:=ct.el.1;rw[se,show ay.el (.ite ex th el)=el from rfl] at this;rw[o2] at b2;simp at b2;rw[<-this];exact Nat.pos_of_ne_zero (by simpa using b2)
   have g0:decide ((bY:Int) > 0)=true:=by simpa using gi
   go_wp2_with(fail);refine(gF dV.o (dR 0) (L:Int) (iR (is:=[]) (ps:=[]) (Sl.bH _) (Sl.bH _) (Hx _) (Hx _)) ad ad).mono ?_;rintro e eG ⟨rfl,fA,eL,eI,eO,dt,dP⟩;have cO:Mv g (.slice dI aR.length ds) (.slice dO aP.length dU) b4 (.slice fA (aR++[dR 0]).length eL) (.slice eI (aP++[(L:Int)]).length eO) eG:=by rw[Hz,Hz];exact dP
   have cY:=ae (eq.trans cO);have fV:=ae (fj.trans cO);obtain⟨bH,gk⟩:=bI.cz fx cO;have cG:=ae bH;clear dP cO aI aj af bH;have dp:=dt;obtain⟨eu,ea,ed,ee,⟨f6,ef⟩,ca⟩:=dp.target (b:=u.length) (by simp only[Hz,Ik];omega) (((aR.length+1:Nat):Int));subst ea;obtain⟨fT,fp,fo,fW,fz,fy,fR,fm,fl,ba,_⟩:=dt.blk
   try simp only[Hz,Ik] at ba
   have eg:((u.length:Nat):Int)<(aR.length:Int)+1:=ad;obtain⟨dw,fk⟩:=aN ca dt;clear ca dp;obtain⟨be,am,aH⟩:=ba.two;clear ba;go_wp2;refine eB (λ_=>False) [(0,3),(1,3),(2,3),(3,0),(4,3),(5,3),(6,3),(7,3),(8,0),(9,3),(10,3),(11,3),(12,2)] ?_
   iterate 3 refine pf ?_
   refine ph ?_
   iterate 4 refine pf ?_
   refine ph ?_
   iterate 3 refine pf ?_
   exact fO
  ·
   rw[if_pos b2] at dN;have gh:bY=0:=by have:=ct.el.1;rw[se,show ay.el (.ite ex th el)=el from rfl] at this;rw[o2] at b2;simp at b2;rw[<-this,b2];rfl
   subst gh;have dp:=dV.o;obtain⟨eu,ea,ed,ee,⟨f6,ef⟩,ca⟩:=dp.target (b:=u.length) ad ((aR.length:Int));subst ea;obtain⟨fT,fp,fo,fW,fz,fy,fR,fm,fl,ba,_⟩:=dV.blk
   try simp only[Hz,Ik,cc] at ba
   have eg:((u.length:Nat):Int)<(aR.length:Int):=ad;obtain⟨dw,fk⟩:=aN ca dV.o;clear ca dp;obtain⟨be,am,aH⟩:=ba.two;clear ba;go_wp2;refine eB (λ_=>False) [(0,3),(1,3),(2,3),(3,0),(4,3),(5,3),(6,3),(7,3),(8,0),(9,3),(10,3),(11,3),(12,2)] ?_
   iterate 3 refine pf ?_
   refine ph ?_
   iterate 4 refine pf ?_
   refine ph ?_
   iterate 3 refine pf ?_
   refine au rfl (λK hK=>?_);go_simp;refine dW hK ?_;clear hK K;refine aB ?_;generalize dr:World.setCell _ _ _=da;clear be am aH ed ee ef eg;obtain⟨dY,dL⟩:=dw.o da dr;have dx:=(eq.trans dL).trans (Mv.gL (Fr.refl _ da).drew);have b9:=ai (dY.aj IK.drew) (show Mv g (.slice S code.length bR) (.slice bE sites.length br) w (.slice (some ⟨eu,0,none⟩) (fM aR u.length (aR.length:Int)).length ds) (.slice dO aP.length dU) da.drew by rw[cc];exact dx);clear dY dL dx dr;have gW:el.num=0:=by cases el<;>simp_all [ak.isNil,ak.num]
   go_wp2;refine⟨?_,by simp[iI,intOf];omega⟩;unfold ie
   iterate 240 apply Exists.intro
   refine⟨?_,rfl⟩;unfold nL;obtain⟨_,bc,ah,hS,bD,bd,b8,cb,bz⟩:=a2.o
   exact⟨k+1,rest,ax,ab,aw,eN,L+1+th.num,fM aR u.length (aR.length:Int),aP,bw,bp,ch,some ⟨eu,0,none⟩,ds,dO,dU,by go_num,ad,bL.symm,dN,ad,ah.2.2.2,hS.mono a9,bD,by simp only[cc];omega,by simp only[cc];omega,ad,ad,b9.1,b9.2⟩
 | fY ex th rest=>
  simp only[ak.list,List.cons.injEq] at bf;obtain⟨rfl,bL⟩:=bf;have az:an X wr.heap.size 153 #[.int .i64 8,.string ⟨#[]⟩,.int .i64 eo,.int .i64 en,.string es,.slice EA em ec,.string rs,.slice ce cX rc,.slice cF n1 c1,.slice A2 cd c2,.slice cl bY c3]:=bQ;clear bQ;have c8:=ae az;obtain⟨aI,aj,af⟩:=az.two;clear az;have hd:∃di,d=di+1:=by
   exact yd
  obtain⟨di,hd⟩:=hd;subst hd;have dF:=a2.2.2.1;have ao:=a2.2.2.2.1.fH 2 ex dF.1;have bi:=dF.2.1;have dn:=dD (U:=U) (nk:=nk) th di ax ab aw a0 (u++[jX (bx ax ex) 0]) bi a2.2.2.2.1;have e4:=a2.2.2.2.2.2.1;have e6:=a2.2.2.2.2.2.2.2.1;have e5:=a2.2.2.2.2.2.2.2.2;have fd:=a2.2.1;simp only[ak.num] at e4 e6 e5 fd;have bX:(a7 ex).rep X (av X) [.int .i64 eo,.int .i64 en,.string es,.slice EA em ec]:=D.aH (λ_ h=>h.1) _ _ (D.cz (d:=a7 ex) ct.expr dJ.o);go_wp2_with(fail);refine(fS ax ex ao g (L:Int) _ _ _ _ _ _ _ z.L bX).mono ?_;rintro e aO ⟨o1,q1,s1,ff,c9,cm,rfl,bt,ar⟩;have db:=z.aj ar;have a8:=hq z.o bt;clear bX bt;go_wp2_with(fail);refine(gF db (jX (bx ax ex) 0) (L:Int) (kB a8) ad ad).mono ?_;rintro e aT ⟨rfl,cB,cN,cS,cU,bu,dz⟩;have eb:Mv g (.slice Y u.length aF) (.slice aM y.length bn) aO (.slice cB (u++[jX (bx ax ex) 0]).length cN) (.slice cS (y++[(L:Int)]).length cU) aT:=by rw[Hz,Hz];exact dz
  have b5:=(Mv.gL (g:=g) (cv:=.slice Y u.length aF) (sv:=.slice aM y.length bn) ar).trans eb;have e7:¬Ms g (.slice Y u.length aF) (.slice aM y.length bn) wr.heap.size:=by
   exact D7
  obtain⟨bU,e8⟩:=c8.cz e7 b5;have eY:=Sl.cz (l:=cL th) ct.th (dJ.trans b5);have eQ:=ae (er.trans b5);have eR:=ae (dJ.trans b5);obtain⟨cP,b6⟩:=aN bu bU;clear dz eb b5 aI aj af be am aH db a8 ar bu;obtain⟨aI,aj,af⟩:=bU.two;clear bU;go_wp2_with(fail);refine((show k8 U nk F th from fC.1) G di ax ab aw a0 (L+1) (u++[jX (bx ax ex) 0]) (y++[(L:Int)]) g B bw bp ch cB cN cS cU A2 cd c2 aT bi a2.2.2.2.1 a2.2.2.2.2.1 fg.o cP.o eY (by simp only[Hz,Ik];omega) (by simp only[Hz,Ik];omega) ad ad ad).mono ?_;rintro e b4 ⟨rfl,dI,ds,dO,dU,aP,cx,dc,dd⟩;have dN:dq rest ax (dq th ax a0 (u++[jX (bx ax ex) 0])).2 (fM ((dq th ax a0 (u++[jX (bx ax ex) 0])).1++[dR (u.length:Int)]) u.length (((dq th ax a0 (u++[jX (bx ax ex) 0])).1.length+1:Nat):Int))=dq b l n code:=a2.1;generalize dq th ax a0 (u++[jX (bx ax ex) 0])=p at *;obtain⟨aR,eN⟩:=p;obtain⟨⟨gL,c7,ei,_⟩,a9,df⟩:=dn;simp only[] at cx dc dd c7 a9 df dN;have e9:u.length+1<=aR.length/\aR.length<=u.length+1+2*th.num:=by rw[c7];simp only[Hz,Ik];omega
  obtain⟨gl,gm⟩:=e9;clear c7 ei;have eq:=ae (eQ.trans dd);have fj:=ae (eR.trans dd);obtain⟨bO,fx⟩:=b6.cz e8 dd;obtain⟨bI,dV⟩:=aN bO dc;clear dd dc aI aj af;obtain⟨aI,aj,af⟩:=bO.two;clear bO;go_wp2_with(fail);refine(gF dV.o (dR (u.length:Int)) (L:Int) (iR (is:=[]) (ps:=[]) (Sl.bH _) (Sl.bH _) (Hx _) (Hx _)) ad ad).mono ?_;rintro e eG ⟨rfl,fA,eL,eI,eO,dt,dP⟩;have cO:Mv g (.slice dI aR.length ds) (.slice dO aP.length dU) b4 (.slice fA (aR++[dR (u.length:Int)]).length eL) (.slice eI (aP++[(L:Int)]).length eO) eG:=by rw[Hz,Hz];exact dP
  have cY:=ae (eq.trans cO);clear dP cO aI aj af;have dp:=dt;obtain⟨eu,ea,ed,ee,⟨f6,ef⟩,ca⟩:=dp.target (b:=u.length) (by simp only[Hz,Ik];omega) (((aR.length+1:Nat):Int));subst ea;obtain⟨fT,fp,fo,fW,fz,fy,fR,fm,fl,ba,_⟩:=dt.blk
  try simp only[Hz,Ik] at ba
  have eg:((u.length:Nat):Int)<(aR.length:Int)+1:=ad;obtain⟨dw,fk⟩:=aN ca dt;clear ca dp;obtain⟨be,am,aH⟩:=ba.two;clear ba;go_wp2;refine eB (λ_=>False) [(0,3),(1,3),(2,3),(3,0),(4,3),(5,3),(6,3),(7,3),(8,0),(9,3),(10,3),(11,3),(12,2)] ?_
  iterate 3 refine pf ?_
  refine ph ?_
  iterate 4 refine pf ?_
  refine ph ?_
  iterate 3 refine pf ?_
  refine au rfl (λK hK=>?_);go_simp;refine dW hK ?_;clear hK K;refine aB ?_;generalize dr:World.setCell _ _ _=da;clear be am aH ed ee ef eg;obtain⟨dY,dL⟩:=dw.o da (by rw[<-dr];simp);have dx:=(cY.trans dL).trans (Mv.gL (Fr.refl _ da).drew);have b9:=ai (dY.aj IK.drew) (show Mv g (.slice S code.length bR) (.slice bE sites.length br) w (.slice (some ⟨eu,0,none⟩) (fM (aR++[dR (u.length:Int)]) u.length ((aR.length+1:Nat):Int)).length eL) (.slice eI (aP++[(L:Int)]).length eO) da.drew by rw[cc];exact dx);clear dY dL dx dr;go_wp2;refine⟨?_,by simp[iI,intOf];omega⟩;unfold ie
  iterate 240 apply Exists.intro
  refine⟨?_,rfl⟩;unfold nL;obtain⟨_,bc,ah,hS,bD,bd,b8,cb,bz⟩:=a2.o
  exact⟨k+1,rest,ax,ab,aw,eN,L+1+th.num,fM (aR++[dR (u.length:Int)]) u.length ((aR.length+1:Nat):Int),aP++[(L:Int)],bw,bp,ch,some ⟨eu,0,none⟩,eL,eI,eO,by go_num,ad,bL.symm,dN,ad,ah.2.2,hS.mono a9,bD,by simp only[cc,Hz,Ik];omega,by simp only[cc,Hz,Ik];omega,ad,ad,b9.1,b9.2⟩
 | ret rest=>
  simp only[ak.list,List.cons.injEq] at bf;obtain⟨rfl,bL⟩:=bf;have az:an X wr.heap.size 153 #[.int .i64 9,.string ⟨#[]⟩,.int .i64 eo,.int .i64 en,.string es,.slice EA em ec,.string rs,.slice ce cX rc,.slice cF n1 c1,.slice A2 cd c2,.slice cl bY c3]:=bQ;clear bQ;have c8:=ae az;obtain⟨aI,aj,af⟩:=az.two;clear az;go_wp2_with(fail);refine(gF z.o (mR) (L:Int) (iR (is:=[]) (ps:=[]) (Sl.bH _) (Sl.bH _) (Hx _) (Hx _)) ad ad).mono ?_;rintro e aO ⟨rfl,cB,cN,cS,cU,bu,dz⟩;have b9:=ai bu (er.trans dz);clear bu dz aI aj af be am aH;go_wp2;refine⟨?_,by simp[iI,intOf];omega⟩;unfold ie
  iterate 240 apply Exists.intro
  refine⟨?_,rfl⟩;unfold nL;obtain⟨aX,bc,ah,hS,bD,bd,b8,cb,bz⟩:=a2.o;have wf:=(show eJ G d ab aw rest by cases d<;>exact ah)
  exact⟨k+1,rest,ax,ab,aw,a0,L+1,u++[mR],y++[(L:Int)],bw,bp,ch,cB,cN,cS,cU,by go_num,ad,bL.symm,aX,by simp only[ak.num] at bc;omega,wf,hS,bD,by simp only[ak.num] at bd;simp only[Hz,Ik];omega,by simp only[Hz,Ik];omega,by simp only[ak.num] at cb;omega,by simp only[ak.num] at bz;omega,b9.1,by rw[Hz,Hz];exact b9.2⟩
 ):p:=h
end zI
open zI in
theorem EN(bl:ak):BK bl:=by
 intro e0 U nk F b G d l n st code sites g B bo ln lc S bR bE br A m c w bs c6 fg bJ f0 fZ k ax ab aw a0 L u y bw bp ch Y aF aM bn wr al bF aX bc ah hS bD bd b8 cb bz bj a6 dG hQ0;intros
 conv=>arg 2;whnf
 have ap:k<=m:=ad;obtain⟨a4,cu,aW,et,gt,eA,cW,f7,cI,aS,_⟩:=bj.blk;obtain⟨gw,g8,s,cs,rfl,go,b1,dT,gq,Z⟩:=(bs.cz a6).gH mP al;have gr:(a3 s).rep wr (av wr) cs:=D.aH (λ_ h=>h.1) _ _ dT;obtain⟨eo,en,es,EA,em,ec,rs,ce,cX,rc,cF,n1,c1,A2,cd,c2,cl,bY,c3,rfl,eM⟩:=kT dT;exact tC
end Go.Proofs.YtajlmkkidmjgoaaGreatDoor

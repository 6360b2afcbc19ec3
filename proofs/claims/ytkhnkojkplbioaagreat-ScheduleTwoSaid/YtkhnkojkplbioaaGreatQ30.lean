/- Part 30 of the proof. No condition of its own. -/
import Derived.Test.YtkhnkojkplbioaaGreatQ29
namespace Go.Proofs.YtkhnkojkplbioaaGreat
open Go.RowKit Go.Proofs.Tryz
set_option maxRecDepth 1000000
set_option maxHeartbeats 25600000
set_option linter.unusedVariables false
variable{p:Prop}
namespace Cn
theorem dE(h:p:=by
 generalize dm:World.setCell _ _ _=c5;clear a7 am aF ed ee ef eg;obtain⟨dU,dJ⟩:=dw.o c5 (by rw[<-dm];simp);have cF:=T.cS gg dJ;have dy:=(cX.trans dJ).trans (Mv.hg (Fr.refl _ c5).drew);have eX:=(fT.trans dJ).trans (Mv.hg (Fr.refl _ c5).drew);have gY:=cF.2;have eR:=dU.aj (Fr.refl (λ_=>False) c5).drew;have ba:=cF.1.aj (Fr.refl (λ_=>False) c5).drew;have cu:(ga (bf++[er 0]) u.length ((bf.length+1:Nat):Int)).length=bf.length+1:=by rw[cy,Lm];rfl
 have fv:=Sl.cS (l:=c6 el) cf.el eX;have fg:=bh.2.2.1.2.2.1;obtain⟨gy,gH,gv,fE⟩:=iX dy eX eR ba;clear dU dJ cF dy eX dm eR;generalize c5.drew=fn at *;obtain⟨a0,aj,af⟩:=ba.two;clear ba;have fM:=dV (U:=U) (nk:=nk) el c8 aO aY aw eL (ga (bf++[er 0]) u.length ((bf.length+1:Nat):Int)) fg (bh.2.2.2.1.mono bg);go_wp2_with(fail);refine((show lQ U nk F el from fF.2) G c8 aO aY aw eL (ab+1+th.num) (ga (bf++[er 0]) u.length ((bf.length+1:Nat):Int)) (aM++[(ab:Int)]) g B bH bd bP (some ⟨ev,0,none⟩) eJ eI eM cE n3 c3 fn fg (bh.2.2.2.1.mono bg) bh.2.2.2.2.1 dY.o gv.o (by rw[cy];exact fv) (by rw[cu];omega) (by rw[cu];simp only[Lm,Lv];omega) ad ad ad).mono ?_;rintro e gR ⟨rfl,g9,fX,fV,gq,eG,fd,dX,ew⟩;rw[cy] at ew;generalize dL el aO eL (ga (bf++[er 0]) u.length ((bf.length+1:Nat):Int))=q at *;obtain⟨q1,gF⟩:=q;obtain⟨⟨ig,fP,go,_⟩,fz,fy⟩:=fM;simp only[] at fd dX ew fP fz fy dK;have ei:bf.length+1<=q1.length/\q1.length<=bf.length+1+2*el.num:=by rw[fP];simp only[Lm,cu];omega
 obtain⟨gZ,g0⟩:=ei;have fG:=ae (gy.trans ew);clear fP go ew a0 aj af fv;have fw:=dX;obtain⟨fW,f6,f9,gb,⟨hi,gc⟩,fe⟩:=fw.target (b:=bf.length) ad ((q1.length:Int));subst f6;obtain⟨hc,gT,gS,hf,g4,g3,ha,gQ,gO,eV,_⟩:=dX.blk
 try simp only[Lm,Lv,cy] at eV
 have gd:((bf.length:Nat):Int)<(q1.length:Int):=ad;obtain⟨fH,gJ⟩:=aJ fe dX;clear fe fw;obtain⟨a7,am,aF⟩:=eV.two;clear eV;go_wp2;refine eC (λ_=>False) [(0,3),(1,3),(2,3),(3,0),(4,3),(5,3),(6,3),(7,3),(8,0),(9,3),(10,3),(11,3),(12,2)] ?_
 iterate 3 refine pf ?_
 refine ph ?_
 iterate 4 refine pf ?_
 refine ph ?_
 iterate 3 refine pf ?_
 refine ax rfl (λK hK=>?_);go_simp;refine dP hK ?_;clear hK K;refine aC ?_;generalize fx:World.setCell _ _ _=fJ;clear a7 am aF f9 gb gc gd;obtain⟨f3,fk⟩:=fH.o fJ fx;have dy:=(fG.trans fk).trans (Mv.hg (Fr.refl _ fJ).drew);have cq:=ag (f3.aj LW.drew) (show Mv g (.slice bz code.length b3) (.slice bU sites.length bE) w (.slice (some ⟨fW,0,none⟩) (ga q1 bf.length (q1.length:Int)).length fX) (.slice fV eG.length gq) fJ.drew by rw[cy];exact dy);clear f3 fk dy fx;go_wp2;refine⟨?_,by simp[jt,intOf];omega⟩;unfold iV
 iterate 240 apply Exists.intro
 refine⟨?_,rfl⟩;unfold oJ;obtain⟨_,a9,a1,hS,bn,a8,cm,ca,bM⟩:=bh.o;exact⟨k+1,rest,aO,aY,aw,gF,ab+1+th.num+el.num,ga q1 bf.length (q1.length:Int),eG,bH,bd,bP,some ⟨fW,0,none⟩,fX,fV,gq,by go_num,ad,a3.symm,dK,ad,a1.2.2.2,hS.mono ad,bn,by simp only[cy];omega,by simp only[cy];omega,ad,ad,cq.1,cq.2⟩
 ):p:=h
theorem eU(h:p:=by
 refine tf ?_;refine b9 ?_;generalize fN:World.setCell _ _ _=gP;obtain⟨_,eW,_⟩:=qe b7 bm ai fN;have eH:=ae eW;clear fN c0 bR bu b7 bm ai df;have gr:=cN.aj eW;obtain⟨a0,aj,af⟩:=gr.two;clear eW gr;go_wp2_with(fail);refine(gk aO ex ay g (ab:Int) _ _ _ _ _ _ _ (z.aj eH.o).L (D.on aQ.1 (Fr.ext eH.o))).mono ?_;rintro e aS ⟨o1,q1,s1,fi,de,cr,rfl,co,ar⟩;have bx:=ae (eH.trans ar);have fI:=ae co;clear a0 aj af ar co;go_upto_region 13 with(fail);generalize hV:World.alloc _ _=dx;have L:=aW hV;have dp:=aI hV;have aZ:=z.aj (bx.trans L);obtain⟨h7,hD,hy,ib,hQ,hJ,h2,hr,hk,bK,_⟩:=aZ.blk;have di:=ae (bx.trans L);have be:(bp (bO aO ex)).rep dx (fresh X dx) [.int .i64 o1,.int .i64 q1,.string s1,.slice fi de cr]:=
  D.aL (λb O=>⟨LD eH.size O.1,Ll O.2 L.size⟩) _ _ (D.aS (λb O=>L.block b O.2 λh=>h) _ _ fI.o)
 have gB:=ae be;clear hV be aZ;obtain⟨a0,aj,af⟩:=dp.two;obtain⟨a7,am,aF⟩:=bK.two;clear dp bK;go_wp2;refine eC (λ_=>False) [(0,3),(1,3),(2,3),(3,3),(4,0),(5,0),(6,3),(7,3),(8,2)] ?_
 iterate 4 refine pf ?_
 iterate 2 refine ph ?_
 iterate 2 refine pf ?_
 refine ax rfl (λK hK=>?_);go_simp;have aZ:=z.aj di.drew;refine(g8 aZ (lE aP false (bO aO ex)) (ab:Int) (k4 (ij z.o (El gB.o LW.drew))) ad ad).mono ?_;rintro e dg ⟨rfl,bV,cj,cA,cI,db,dN⟩;refine dP hK ?_;clear hK K;refine aC ?_;clear a0 aj af a7 am aF aZ;have fj:=ae db;have cJ:Mv g (.slice Y u.length ah) (.slice aH y.length bc) dx.drew (.slice bV (u++[lE aP false (bO aO ex)]).length cj) (.slice cA (y++[(ab:Int)]).length cI) dg:=by rw[Lm,Lm];exact dN
 have gW:bd<=100000:=by have ac:=bh.2.2.2.2.2.2.2.2;rw[<-eD,Lo];omega
 have cX:=ae (et.trans ((Mv.hg di.drew).trans cJ));clear cJ;have b4:=(cN.aj di.drew).on dN.fr (by
  intro hm;rcases hm with hm|hm|hm
  .have:=HA.lt;omega
  .have:=(HA.rows.one.lt hm).2;omega
  .have:=(HA.rows.two.lt hm).2;omega)
 obtain⟨a0,aj,af⟩:=b4.two;obtain⟨h8,hE,hz,ie,hR,hL,h3,hs,hl,bk,_⟩:=db.blk;obtain⟨a7,am,aF⟩:=bk.two;have dB:=db.names.2.mono (λb (O:off _ dg b)=>(show av dg b from O.1));obtain⟨cV,dz⟩:∃N,N=dg.heap.size:=⟨_,rfl⟩
 have gD:¬cV<=g:=ad;have gE:¬cV<=wr.heap.size:=ad;clear db dN b4 bk;go_wp2;refine rC (λb=>cV<=b) [15,18] (.free 0 (.free 2 (.free 3 (.free 4 (.held 5 (.free 7 (.held 8 (.free 9 (.free 10 (.free 11 (.held 12 (.free 13 (.pick [1,14] (λi=>bif i == 1 then .pick [6,14] (λi=>bif i == 6 then .pick [14] (λ_=>.pick [15] (λ_=>.free 16 (.free 17 (.pick [18] (λ_=>.stop))))) else .pick [6] (λ_=>.pick [15] (λ_=>.free 16 (.free 17 (.pick [18] (λ_=>.stop)))))) else .pick [1] (λ_=>.pick [6] (λ_=>.pick [15] (λ_=>.free 16 (.free 17 (.pick [18] (λ_=>.stop)))))))))))))))))))) ?_
 iterate 4 refine tf ?_
 refine nh ?_;refine tf ?_;refine nh ?_
 iterate 3 refine tf ?_
 refine nh ?_;refine tf ?_;clear a0 aj af;refine iQ (P:=?oU) (ops:=?Ie) (Q:=?Ih) (R:=?Ij) (tails:=?Iu) (rest:=.pick [15] (λ_=>.free 16 (.free 17 (.pick [18] (λ_=>.stop))))) (aa:=?HP)
  (C:=λ(_:Nat) dv A2 bS V=>Ext dg V/\Gr (λ_=>False) cV 166 3 V A2 bd bS (aO.map b2)/\aq V dv 166 #[.string nm,.int .i64 4,.int .i64 aP]) (λkey=>?wP) ?wI
 case wP=>
  refine a2 ?_ ?_
  ·
   refine dT ?_;generalize hV:World.drew (World.alloc _ _)=bt;have e1:=gK hV;have cL:Gr (λ_=>False) cV 166 3 bt (some ⟨dg.heap.size,0,none⟩) 0 0 []:=by rw[<-hV,dz];exact(Gr.lit (w:=dg) (n:=0) (l:=[]) rfl (by rfl) ad (by simp only[D.aQ])).aj LW.drew
   have eA:=kH (dB.on (Fr.ext e1));clear hV;refine a2 ?_ ?_
   ·
    refine aB rfl (λK hK=>?_) rfl;rw[if_pos (by rfl)];refine js jj (.tmp 77) (.tmp 81) (by rfl) cL (k5 aO) eD eA (λh=>by subst h;exact Sl.none_ dB) (by rfl) (by rfl) ad ad (by rw[dz];exact e1.size) ?_;intro A2 bS cS cb f1 o1 c1;refine dq hK (f1.mono λb O=>ad) ?_;clear hK K;refine ao ?_;refine dT ?_;have e2:Ext dg cS:=Fr.low (M:=λb=>dg.heap.size<=b) ((e1.mono λ_ h=>h.elim).trans (f1.mono λb O=>ad)) λ_ h=>h;have F:Ext dg (cS.alloc (.cells #[.string nm,.int .i64 4,.int .i64 aP] 166))/\Gr (λ_=>False) cV 166 3 (cS.alloc (.cells #[.string nm,.int .i64 4,.int .i64 aP] 166)) A2 bd bS (aO.map b2)/\
      aq (cS.alloc (.cells #[.string nm,.int .i64 4,.int .i64 aP] 166)) cS.heap.size 166 #[.string nm,.int .i64 4,.int .i64 aP]:=⟨e2.alloc _,cb.aj (LW.alloc _),LX⟩
    clear cb cL f1 o1 e1 e2 eA;revert F;generalize cS.heap.size=dv;generalize dg.heap.size=eQ;intro F;exact key eQ dv A2 bS _ F
   ·
    refine dT ?_;generalize hV:World.alloc _ _=eN;have e2:=aW hV;have bG:aq eN bt.heap.size 166 #[.string nm,.int .i64 4,.int .i64 aP]:=hV▸LX;have dC:=kH (dB.on (Fr.ext (e1.trans e2)));clear hV eA;have dI:dg.heap.size<bt.heap.size:=(cL.lt (g:=dg.heap.size) rfl).2;refine ao ?_;refine aB rfl (λK hK=>?_) rfl;rw[if_pos (by rfl)];refine js jj (.tmp 77) (.tmp 81) (by rfl) (cL.aj e2) (k5 aO) eD dC (λh=>by subst h;exact Sl.none_ dB) (by rfl) (by rfl) ad ad (by rw[dz];exact(e1.trans e2).size) ?_;intro A2 bS cS cb f1 o1 c1;refine dq hK (f1.mono λb O=>ad) ?_;clear hK K;have e3:Ext dg cS:=Fr.low (M:=λb=>dg.heap.size<=b) (((e1.trans e2).mono λ_ h=>h.elim).trans (f1.mono λb O=>ad)) λ_ h=>h;have F:Ext dg cS/\Gr (λ_=>False) cV 166 3 cS A2 bd bS (aO.map b2)/\aq cS bt.heap.size 166 #[.string nm,.int .i64 4,.int .i64 aP]:=⟨e3,cb,bG.on f1 ad⟩
    clear cb cL f1 o1 e1 e2 e3 dC bG dI;revert F;generalize bt.heap.size=dv;generalize dg.heap.size=eQ;intro F;exact key eQ dv A2 bS _ F
  ·
   refine dT ?_;generalize hV:World.drew (World.alloc _ _)=bt;have e1:=gK hV;have bG:aq bt dg.heap.size 166 #[.string nm,.int .i64 4,.int .i64 aP]:=hV▸LX;clear hV;refine ao ?_;refine dT ?_;generalize hV:World.alloc _ _=eN;have e2:=aW hV;have cL:Gr (λ_=>False) bt.heap.size 166 3 eN (some ⟨bt.heap.size,0,none⟩) 0 0 []:=hV▸Gr.lit (w:=bt) (n:=0) (l:=[]) rfl (by rfl) ad (by simp only[D.aQ]);have dj:=bG.aj e2;have dC:=kH (dB.on (Fr.ext (e1.trans e2)));have dI:dg.heap.size<bt.heap.size:=bG.lt;clear hV bG;refine ao ?_;refine aB rfl (λK hK=>?_) rfl;rw[if_pos (by rfl)];refine js jj (.tmp 77) (.tmp 81) (by rfl) cL (k5 aO) eD dC (λh=>by subst h;exact Sl.none_ dB) (by rfl) (by rfl) ad ad e2.size ?_;intro A2 bS cS cb f1 o1 c1;refine dq hK (f1.mono λb O=>ad) ?_;clear hK K;have e3:Ext dg cS:=Fr.low (M:=λb=>dg.heap.size<=b) (((e1.trans e2).mono λ_ h=>h.elim).trans (f1.mono λb O=>ad)) λ_ h=>h;have F:Ext dg cS/\Gr (λ_=>False) cV 166 3 cS A2 bd bS (aO.map b2)/\aq cS dg.heap.size 166 #[.string nm,.int .i64 4,.int .i64 aP]:=⟨e3,cb.base ad,dj.on f1 ad⟩
   clear cb cL f1 o1 e1 e2 e3 dC dj;revert F;generalize bt.heap.size=eQ;generalize dg.heap.size=dv;intro F;exact key eQ dv A2 bS _ F
 case wI=>
  rintro eQ dv A2 bS gL ⟨a6,da,bG⟩;have eE:=a6.size;have f0:=fj.aj a6;obtain⟨he,hF,hA,hg,hT,hN,hb,ht,hn,bk,_⟩:=f0.blk;clear a7 am aF f0;refine ao ?_;refine bQ rfl (λK hK=>?_) rfl;rw[if_pos (by rfl)];refine fa jj (.tmp 82) (.tmp 90) (by rfl) da bG (jX ⟨nm,4,aP⟩) (by rfl) (by rfl) (by rfl) ad ad ad ?_;intro gu cW fn fh f5 gG gM;have cu:Ext dg fn:=Fr.low (M:=λb=>dg.heap.size<=b) ((a6.mono λ_ h=>h.elim).trans (f5.mono λb O=>by have:=(da.lt O).1;omega)) λ_ h=>h;have ba:=bk.on f5 (λO=>by have:=(da.lt O).1;omega);have ds:=ag fh cu;clear fh f5 gG da bG bk a6 cu eE;obtain⟨a7,am,aF⟩:=ba.two;refine dP hK ?_;clear hK K
  iterate 2 refine tf ?_
  refine ao ?_;refine bQ rfl (λK hK=>?_) rfl;go_simp;refine dP hK ?_;clear hK K;refine b9 ?_;generalize cl:World.setCell _ _ _=gC;have eR:=fj.aj ds.2;have g2:=ds.2.size;obtain⟨dX,ew⟩:=eR.EE (aO:=aO++[⟨nm,4,aP⟩]) ad (by
   rw[Lr];refine ds.1.sl (λb _ h=>h.elim) λb ac au=>⟨ac,λhm=>?_⟩
   rcases hm with hm|hm|hm
   .omega
   .have:=(fj.rows.one.lt hm).2;omega
   .have:=(fj.rows.two.lt hm).2;omega) cl
  have gw:=ae dX;have fG:=ae (cX.trans ((Mv.hg ds.2).trans ew));obtain⟨h5,hG,hB,MW,hW,hO,hZ,hu,ho,ct,_⟩:=dX.blk;clear a7 am aF ba cl eR dX ew dB;obtain⟨a7,am,aF⟩:=ct.two;clear ct;go_upto_region 3 with(fail);generalize eZ:World.setCell _ _ _=hh;have hw:wrap64 (aP+1)=aP+1:=IntWalk.wrap64_in _ (by have h0:=bh.2.2.2.1.n0;have ac:=bh.2.2.2.2.2.2.2.1;omega);rw[hw] at eZ;obtain⟨ft,fu⟩:=gw.locals eZ;have cq:=ag ft (fG.trans fu);clear eZ ft fu a7 am aF;go_wp2;refine⟨?_,by simp[jt,intOf];omega⟩;unfold iV
  iterate 240 apply Exists.intro
  refine⟨?_,rfl⟩;unfold oJ;obtain⟨aT,a9,a1,hS,bn,a8,cm,ca,bM⟩:=bh.o;have wf:=(show e6 G d (aY++[nm]) (aw++[nm]) rest by cases d<;>exact a1.2.2.2)
  exact⟨k+1,rest,aO++[⟨nm,4,aP⟩],aY++[nm],aw++[nm],aP+1,ab+1,u++[lE aP false (bO aO ex)],y++[(ab:Int)],gu,(bd+1),cW,bV,cj,cA,cI,by go_num,ad,a3.symm,(show dL rest (aO++[⟨nm,4,aP⟩]) (aP+1) (u++[lE aP false (bO aO ex)])=dL b l n code from aT),by simp only[an.num] at a9;omega,wf,hS.add ep.1,bn.app _,by simp only[an.num] at a8;simp only[Lm,Lv];omega,by simp only[Lm,Lv];omega,by simp only[an.num] at ca;omega,by simp only[an.num] at bM;simp only[Lm,Lv];omega,cq.1,cq.2⟩
 ):p:=h
theorem v7(h:p:=by
 refine(dZ bH bd bP aO nm V.drew (df.on (Fr.ext bm.drew)) du).mono ?_;rintro e aS ⟨rfl,ar⟩;rw[ak];simp only[iZ];refine dP hK ?_;clear hK K
 iterate 3 refine tf ?_
 have cG:=aR.aj (Fr.aF ar);have aN:=bm.trans (Fr.aF ar);clear aR bm ar;exact key X.heap.size aS ⟨aN,cG,Lk _⟩
 ):p:=h
theorem AW(h:p:=by
 refine ly (P:=?Kh) (ops:=?Kq) (Q:=?Kr) (R:=?Ks) (tails:=?Kt) (rest:=.pick [11] (λ_=>.free 12 (.stop))) (aa:=?Ki) (C:=λc9 V=>Ext X V/\aq V c9 166 #[.string ⟨#[]⟩,.int .i64 0,.int .i64 0]/\X.heap.size<=c9) (λkey=>?Jf) ?Ja
 case Jf=>
  refine a2 ?_ ?_
  ·
   refine bQ rfl (λK hK=>?_) rfl;go_simp;refine(dZ bH bd bP aO nm X.drew (df.on (Fr.ext LW.drew)) du).mono ?_;rintro e aS ⟨rfl,ar⟩;rw[ak];simp only[iZ];refine dP hK ?_;clear hK K
   iterate 3 refine tf ?_
   refine ao ?_;refine dT ?_;generalize hV:World.alloc _ _=V;have aR:=aI hV;have bm:Ext X V:=hV▸(Fr.aF ar).alloc _;exact DO
  ·
   exact v5
 case Ja=>
  rintro c9 V ⟨bm,b7,ai⟩;obtain⟨c0,bR,bu⟩:=b7.two;clear a0 aj af a7 am aF;exact fp
 ):p:=h
theorem vS(h:p:=by
 have gm:gs<wr.heap.size:=gl.1;have cz:=Ln ch;have bo:bl.list=s::b.list.drop (k+1):=bA▸(List.drop_eq_getElem?_toList_append▸(by rw[ch];rfl));obtain⟨a7,am,aF⟩:=aR.two;obtain⟨HA,cR,cf⟩:=ek aX hM eK;have fF:=ae (ck.o s cz);clear aR aX hM dQ gn Z gl eK f2;have c4:¬gs=wr.heap.size:=ad;have cP:¬g=wr.heap.size:=ad;go_wp2;refine eC (λb=>b=wr.heap.size) [(0,3),(1,3),(2,3),(3,0),(4,3),(5,3),(6,3),(7,0),(8,1),(9,1),(10,3)] ?_
 iterate 3 refine pf ?_
 refine oQ ?_
 iterate 3 refine pf ?_
 refine oQ ?_;refine rz ?_;refine aG rfl (λK hK=>?_);go_simp;generalize hV:World.drew (World.alloc _ _)=V;have L:=gK hV;have f4:aq V wr.heap.size 207 #[.int .i64 s.kind,.string s.name,.int .i64 eo,.int .i64 en,.string es,.slice EA em ec,.string rs,.slice ce cD rc,.slice bZ n1 c1,.slice A2 n2 c2,.slice cE n3 c3]:=hV▸(LX).drew;refine dq hK (H4 (LW.alloc _).drew L (by simp) (by rw[<-hV];simp)) ?_;clear hK K;refine pf ?_;refine aC ?_;have fS:=ae f4;have fK:=HA.aj L;have f7:=cR.trans (Mv.hg L);obtain⟨h4,bT,bY,h9,dh,cT,hY,hp,hU,b7,_⟩:=fK.blk;obtain⟨bN,gx,gA⟩:=ek L fK f7;clear hV L a7 am aF d0 d1 d2 d3 d4 d5 d6 d7 d8 d9 d10 c4 cP gm fK f7 f4;obtain⟨a7,am,aF⟩:=b7.two;clear b7;go_upto_region 6 with(fail);generalize hX:World.setCell _ _ _=X;obtain⟨eS,dO⟩:=gx.stmt (X:=X) (by rw[<-hX,Int.natCast_add];rfl);have b5:=cO hX;have br:=fS.on b5 (aD HA.lt);have bs:Ext wr V:=bN.o;have z:=ae eS;have et:=ae (gA.trans dO);have dH:=ae ((Mv.hg bs).trans dO);have gU:u.length<=100000:=ad;have g1:=cm;have bh:=xK aT a9 a1 hS bn a8 cm ca bM;obtain⟨h6,hC,hv,ia,hP,hH,h1,hq,hj,cY,_⟩:=eS.blk;have gt:=cY.lt;clear hX b5 a7 am aF eS dO bs aT a9 a1 hS bn fS;obtain⟨a7,am,aF⟩:=cY.two;clear cY
 cases bl with
 | nil=>simp[an.list] at bo
 | set bv nm ex rest=>
  cases bv
  ·
   simp only[an.list,List.cons.injEq] at bo;obtain⟨rfl,a3⟩:=bo;have az:aq X wr.heap.size 207 #[.int .i64 2,.string nm,.int .i64 eo,.int .i64 en,.string es,.slice EA em ec,.string rs,.slice ce cD rc,.slice bZ n1 c1,.slice A2 n2 c2,.slice cE n3 c3]:=br;clear br;have cN:=ae az;obtain⟨a0,aj,af⟩:=az.two;clear az;have ep:=(show nm∈aY/\ex.src aY 2 by have:=bh.2.2.1;cases d<;>exact⟨this.1,this.2.1⟩)
   obtain⟨v,J,cd⟩:=bh.2.2.2.1.vars nm ep.1;have b0:v.kind=1\/v.kind=4:=cd.imp (λh=>h.1) (λh=>h.1);have ay:=bh.2.2.2.1.fV 2 ex ep.2;have ey:jn aO nm=v.n:=by simp[jn,J]
   have fO:ux aO nm=v.kind:=by simp[ux,J]
   have b1:(bp ex).rep X (av X) [.int .i64 eo,.int .i64 en,.string es,.slice EA em ec]:=D.aL (λ_ h=>h.1) _ _ (D.cS (d:=bp ex) cf.expr dH.o);have aQ:=ag b1 ay;clear b1 cd;go_wp2_with(fail);refine(nj g aO nm v J b0 (ab:Int) X z.L).mono ?_;rintro e aS ⟨rfl,ar⟩;simp only[rv];go_upto_region 18 with(fail);generalize hV:World.alloc _ _=dx;have L:Ext X dx:=hV▸ar.alloc _;have dp:=aI hV;have bC:=cN.aj L;have di:=ae L;clear hV a0 aj af a7 am aF ar L;obtain⟨a0,aj,af⟩:=bC.two;obtain⟨a7,am,aF⟩:=dp.two;clear dp bC;go_wp2;refine eC (λ_=>False) [(0,3),(1,3),(2,0),(3,3),(4,0),(5,3),(6,3),(7,3),(8,0),(9,3),(12,3),(10,1),(11,3),(13,2)] ?_
   iterate 2 refine pf ?_
   refine ph ?_;refine pf ?_;refine ph ?_
   iterate 3 refine pf ?_
   refine ph ?_
   iterate 2 refine pf ?_
   refine aG rfl (λK hK=>?_);go_simp;refine(gk aO ex ay g (ab:Int) _ _ _ _ _ _ _ (z.aj di.drew).L (D.on aQ.1 (Fr.ext di.drew))).mono ?_;rintro e b6 ⟨o1,q1,s1,fi,de,cr,rfl,co,bX⟩;refine dq hK (bX) ?_;clear hK K;refine pf ?_;refine ax rfl (λK hK=>?_);go_simp;have dr:Ext X b6:=di.trans (Fr.aF bX);have cx:=z.aj dr;refine(g8 cx (lE v.n (v.kind == 1) (bO aO ex)) (ab:Int) (k4 (ij z.o (wz co di.size))) ad ad).mono ?_;rintro e aU ⟨rfl,bV,cj,cA,cI,aZ,ci⟩;refine dP hK ?_;clear hK K;refine aC ?_;have cq:=ag aZ ((et.trans (Mv.hg dr)).trans ci);clear aZ ci a0 aj af a7 am aF cx co bX dr;go_wp2;refine⟨?_,by simp[jt,intOf];omega⟩;unfold iV
   iterate 240 apply Exists.intro
   refine⟨?_,rfl⟩;unfold oJ;obtain⟨aT,a9,a1,hS,bn,a8,cm,ca,bM⟩:=bh.o;have wf:=(show e6 G d aY aw rest by cases d<;>exact a1.2.2)
   exact⟨k+1,rest,aO,aY,aw,aP,ab+1,u++[lE v.n (v.kind == 1) (bO aO ex)],y++[(ab:Int)],bH,bd,bP,bV,cj,cA,cI,by go_num,ad,a3.symm,(by rw[<-ey,<-fO];exact aT),by simp only[an.num] at a9;omega,wf,hS,bn,by simp only[an.num] at a8;simp only[Lm,Lv];omega,by simp only[Lm,Lv];omega,by simp only[an.num] at ca;omega,by simp only[an.num] at bM;omega,cq.1,by rw[Lm,Lm];exact cq.2⟩
  ·
   simp only[an.list,List.cons.injEq] at bo;obtain⟨rfl,a3⟩:=bo;have az:aq X wr.heap.size 207 #[.int .i64 1,.string nm,.int .i64 eo,.int .i64 en,.string es,.slice EA em ec,.string rs,.slice ce cD rc,.slice bZ n1 c1,.slice A2 n2 c2,.slice cE n3 c3]:=br;clear br;have cN:=ae az;obtain⟨a0,aj,af⟩:=az.two;clear az;have ep:=(show nm∉aw/\ex.src aY 2 by have:=bh.2.2.1;cases d<;>exact⟨this.2.1,this.2.2.1⟩)
   have ak:dD aO nm=none:=jY λj x bi hx=>ep.1 (hx▸bh.2.2.2.1.taken x (Ln bi));have ay:=bh.2.2.2.1.fV 2 ex ep.2;have b1:(bp ex).rep X (av X) [.int .i64 eo,.int .i64 en,.string es,.slice EA em ec]:=D.aL (λ_ h=>h.1) _ _ (D.cS (d:=bp ex) cf.expr dH.o);obtain⟨du,eh⟩:=z.names;have df:=eh.mono (λb (O:off _ X b)=>(show av X b from O.1));have aQ:=aE b1 df ay;have eD:(aO.map b2).length=bd:=df.1;clear b1 eh;go_upto_region 9 with(fail)
   exact AV
 | call bb nm aV rest=>
  cases bb
  case' false=>let bb:=false
  case' true=>let bb:=true
  all_goals
   simp only[an.list,List.cons.injEq] at bo;obtain⟨rfl,a3⟩:=bo;have az:aq X wr.heap.size 207 #[.int .i64 _,.string nm,.int .i64 eo,.int .i64 en,.string es,.slice EA em ec,.string rs,.slice ce cD rc,.slice bZ n1 c1,.slice A2 n2 c2,.slice cE n3 c3]:=br;clear br;have cN:=ae az;obtain⟨a0,aj,af⟩:=az.two;clear az;have ep:=(show ∃ps,(nm,ps)∈G.funcs/\iR G aY ps aV by have:=bh.2.2.1;cases d<;>exact this.1)
   obtain⟨ps,cg,aK⟩:=ep;obtain⟨v,f,J,ez,h0,fL,rfl⟩:=bh.2.2.2.2.1 nm ps cg;have f8:=bh.2.2.2.1.jk _ _ aK;have ey:jn aO nm=v.n:=by simp[jn,J]
   have cU:=dY.o f (Ln fL);have dA:Sl X (av X) bZ n1 (aV.map gN):=(Sl.cS (l:=aV.map gN) cf.args dH.o).mono (λ_ h=>h.1);go_wp2_with(fail);refine(D2 dR g aO U.af F bb nm aV v f J ez h0 fL f8 cU eo en es EA em ec rs ce cD rc bZ n1 c1 A2 n2 c2 cE n3 c3 (ab:Int) _ z.L z.M_ z.F_ dA).mono ?_;rintro e aS ⟨IA,i,ic,KA,j,kc,rfl,co,ar⟩;have c7:=z.aj ar;have be:=ij z.o co;clear dA f8 co;go_wp2_with(fail);refine(g8 c7 (lK bb v.n (bW aO aV) (cB aO aV)) (ab:Int) (be) ad ad).mono ?_;rintro e aU ⟨rfl,bV,cj,cA,cI,aZ,ci⟩;have cq:=ag aZ ((et.trans (Mv.hg ar)).trans ci);clear aZ ci a0 aj af a7 am aF c7 be ar cg aK J ez h0 fL cU;go_wp2;refine⟨?_,by simp[jt,intOf];omega⟩;unfold iV
   iterate 240 apply Exists.intro
   refine⟨?_,rfl⟩;unfold oJ;obtain⟨aT,a9,a1,hS,bn,a8,cm,ca,bM⟩:=bh.o;have wf:=(show e6 G d aY aw rest by cases d<;>exact a1.2)
   exact⟨k+1,rest,aO,aY,aw,aP,ab+1,u++[lK bb v.n (bW aO aV) (cB aO aV)],y++[(ab:Int)],bH,bd,bP,bV,cj,cA,cI,by go_num,ad,a3.symm,(by rw[<-ey];exact aT),by simp only[an.num] at a9;omega,wf,hS,bn,by simp only[an.num] at a8;simp only[Lm,Lv];omega,by simp only[Lm,Lv];omega,by simp only[an.num] at ca;omega,by simp only[an.num] at bM;omega,cq.1,by rw[Lm,Lm];exact cq.2⟩
 | lock bb r rest=>
  cases bb
  case' false=>let bb:=false
  case' true=>let bb:=true
  all_goals
   simp only[an.list,List.cons.injEq] at bo;obtain⟨rfl,a3⟩:=bo;have az:aq X wr.heap.size 207 #[.int .i64 _,.string ⟨#[]⟩,.int .i64 eo,.int .i64 en,.string es,.slice EA em ec,.string rs,.slice ce cD rc,.slice bZ n1 c1,.slice A2 n2 c2,.slice cE n3 c3]:=br;clear br;have cN:=ae az;obtain⟨a0,aj,af⟩:=az.two;clear az;have eF:=(show su G aY r by have:=bh.2.2.1;cases d<;>exact this.1)
   have gj:=bh.2.2.2.1.qN r eF;have b1:(kG r).rep X (av X) [.string rs,.slice ce cD rc]:=D.aL (λ_ h=>h.1) _ _ (D.cS (d:=kG r) cf.ref dH.o);go_wp2_with(fail);refine(dR g aO U.af r gj (ab:Int) rs ce cD rc _ z.L z.M_ b1).mono ?_;rintro e aS ⟨g6,g7,cw,cc,cC,rfl,co,ar⟩;have c7:=z.aj ar;have be:=ij z.o co;clear b1 gj co;go_wp2_with(fail);refine(g8 c7 (qk bb (mo aO r)) (ab:Int) (wu be) ad ad).mono ?_;rintro e aU ⟨rfl,bV,cj,cA,cI,aZ,ci⟩;have cq:=ag aZ ((et.trans (Mv.hg ar)).trans ci);clear aZ ci a0 aj af a7 am aF c7 be ar eF;go_wp2;refine⟨?_,by simp[jt,intOf];omega⟩;unfold iV
   iterate 240 apply Exists.intro
   refine⟨?_,rfl⟩;unfold oJ;obtain⟨aT,a9,a1,hS,bn,a8,cm,ca,bM⟩:=bh.o;have wf:=(show e6 G d aY aw rest by cases d<;>exact a1.2)
   exact⟨k+1,rest,aO,aY,aw,aP,ab+1,u++[qk bb (mo aO r)],y++[(ab:Int)],bH,bd,bP,bV,cj,cA,cI,by go_num,ad,a3.symm,aT,by simp only[an.num] at a9;omega,wf,hS,bn,by simp only[an.num] at a8;simp only[Lm,Lv];omega,by simp only[Lm,Lv];omega,by simp only[an.num] at ca;omega,by simp only[an.num] at bM;omega,cq.1,by rw[Lm,Lm];exact cq.2⟩
 | ite ex th el rest=>
  simp only[an.list,List.cons.injEq] at bo;obtain⟨rfl,a3⟩:=bo;have az:aq X wr.heap.size 207 #[.int .i64 7,.string ⟨#[]⟩,.int .i64 eo,.int .i64 en,.string es,.slice EA em ec,.string rs,.slice ce cD rc,.slice bZ n1 c1,.slice A2 n2 c2,.slice cE n3 c3]:=br;clear br;have cN:=ae az;obtain⟨a0,aj,af⟩:=az.two;clear az;have hd:∃c8,d=c8+1:=by
   exact Ab
  obtain⟨c8,hd⟩:=hd;subst hd;have dF:=bh.2.2.1;have ay:=bh.2.2.2.1.fV 2 ex dF.1;have aL:=dF.2.1;have dk:=dV (U:=U) (nk:=nk) th c8 aO aY aw aP (u++[ks (bO aO ex) 0]) aL bh.2.2.2.1;have e5:=bh.2.2.2.2.2.1;have e8:=bh.2.2.2.2.2.2.2.1;have e7:=bh.2.2.2.2.2.2.2.2;have ff:=bh.2.1;simp only[an.num] at e5 e8 e7 ff;have b1:(bp ex).rep X (av X) [.int .i64 eo,.int .i64 en,.string es,.slice EA em ec]:=D.aL (λ_ h=>h.1) _ _ (D.cS (d:=bp ex) cf.expr dH.o);go_wp2_with(fail);refine(gk aO ex ay g (ab:Int) _ _ _ _ _ _ _ z.L b1).mono ?_;rintro e aS ⟨o1,q1,s1,fi,de,cr,rfl,co,ar⟩;have c7:=z.aj ar;have be:=ij z.o co;clear b1 co;go_wp2_with(fail);refine(g8 c7 (ks (bO aO ex) 0) (ab:Int) (k4 be) ad ad).mono ?_;rintro e aU ⟨rfl,bV,cj,cA,cI,aZ,ci⟩;have eb:Mv g (.slice Y u.length ah) (.slice aH y.length bc) aS (.slice bV (u++[ks (bO aO ex) 0]).length cj) (.slice cA (y++[(ab:Int)]).length cI) aU:=by rw[Lm,Lm];exact ci
  have bI:=(Mv.hg (g:=g) (cv:=.slice Y u.length ah) (sv:=.slice aH y.length bc) ar).trans eb;have e9:¬Ms g (.slice Y u.length ah) (.slice aH y.length bc) wr.heap.size:=by
   exact zP
  obtain⟨bC,fb⟩:=cN.cS e9 bI;have eY:=Sl.cS (l:=c6 th) cf.th (dH.trans bI);have eO:=ae (et.trans bI);have eP:=ae (dH.trans bI);obtain⟨cn,bB⟩:=aJ aZ bC;clear ci eb bI a0 aj af a7 am aF c7 be ar aZ;obtain⟨a0,aj,af⟩:=bC.two;clear bC;go_wp2_with(fail);refine((show lQ U nk F th from fF.1) G c8 aO aY aw aP (ab+1) (u++[ks (bO aO ex) 0]) (y++[(ab:Int)]) g B bH bd bP bV cj cA cI A2 n2 c2 aU aL bh.2.2.2.1 bh.2.2.2.2.1 dY.o cn.o eY (by simp only[Lm,Lv];omega) (by simp only[Lm,Lv];omega) ad ad ad).mono ?_;rintro e b6 ⟨rfl,dG,dn,dM,dS,aM,cQ,cx,dc⟩;have dK:=bh.1;rw[dL] at dK;generalize dL th aO aP (u++[ks (bO aO ex) 0])=p at *;obtain⟨bf,eL⟩:=p;obtain⟨⟨gI,cZ,ej,_⟩,bg,dd⟩:=dk;simp only[] at cQ cx dc cZ bg dd dK;have fc:u.length+1<=bf.length/\bf.length<=u.length+1+2*th.num:=by rw[cZ];simp only[Lm,Lv];omega
  obtain⟨gh,gi⟩:=fc;clear cZ ej;have eq:=ae (eO.trans dc);have fl:=ae (eP.trans dc);obtain⟨bD,fA⟩:=bB.cS fb dc;obtain⟨a4,dW⟩:=aJ bD cx;clear dc cx a0 aj af;obtain⟨a0,aj,af⟩:=bD.two;clear bD;cases bL:el.isNil
  ·
   rw[if_neg (by rw[bL];simp)] at dK;have gf:0<n3:=by have:=cf.el.1;rw[uq,show aA.el (.ite ex th el)=el from rfl] at this;rw[qo] at bL;simp at bL;rw[<-this];exact Nat.pos_of_ne_zero (by simpa using bL)
   have gX:decide ((n3:Int) > 0)=true:=by simpa using gf
   go_wp2_with(fail);refine(g8 dW.o (er 0) (ab:Int) (jB (is:=[]) (ps:=[]) (Sl.bR _) (Sl.bR _) (Lk _) (Lk _)) ad ad).mono ?_;rintro e cK ⟨rfl,fD,eJ,eI,eM,db,dN⟩;have cJ:Mv g (.slice dG bf.length dn) (.slice dM aM.length dS) b6 (.slice fD (bf++[er 0]).length eJ) (.slice eI (aM++[(ab:Int)]).length eM) cK:=by rw[Lm,Lm];exact dN
   have cX:=ae (eq.trans cJ);have fT:=ae (fl.trans cJ);obtain⟨b4,gg⟩:=a4.cS fA cJ;have T:=ae b4;clear dN cJ a0 aj af b4;have dl:=db;obtain⟨ev,ea,ed,ee,⟨fY,ef⟩,b8⟩:=dl.target (b:=u.length) (by simp only[Lm,Lv];omega) (((bf.length+1:Nat):Int));subst ea;obtain⟨fR,fs,fr,fU,fC,fB,fQ,fq,fo,bw,_⟩:=db.blk
   try simp only[Lm,Lv] at bw
   have eg:((u.length:Nat):Int)<(bf.length:Int)+1:=ad;obtain⟨dw,fm⟩:=aJ b8 db;clear b8 dl;obtain⟨a7,am,aF⟩:=bw.two;clear bw;go_wp2;refine eC (λ_=>False) [(0,3),(1,3),(2,3),(3,0),(4,3),(5,3),(6,3),(7,3),(8,0),(9,3),(10,3),(11,3),(12,2)] ?_
   iterate 3 refine pf ?_
   refine ph ?_
   iterate 4 refine pf ?_
   refine ph ?_
   iterate 3 refine pf ?_
   exact eT
  ·
   rw[if_pos bL] at dK;have ge:n3=0:=by have:=cf.el.1;rw[uq,show aA.el (.ite ex th el)=el from rfl] at this;rw[qo] at bL;simp at bL;rw[<-this,bL];rfl
   subst ge;have dl:=dW.o;obtain⟨ev,ea,ed,ee,⟨fY,ef⟩,b8⟩:=dl.target (b:=u.length) ad ((bf.length:Int));subst ea;obtain⟨fR,fs,fr,fU,fC,fB,fQ,fq,fo,bw,_⟩:=dW.blk
   try simp only[Lm,Lv,cy] at bw
   have eg:((u.length:Nat):Int)<(bf.length:Int):=ad;obtain⟨dw,fm⟩:=aJ b8 dW.o;clear b8 dl;obtain⟨a7,am,aF⟩:=bw.two;clear bw;go_wp2;refine eC (λ_=>False) [(0,3),(1,3),(2,3),(3,0),(4,3),(5,3),(6,3),(7,3),(8,0),(9,3),(10,3),(11,3),(12,2)] ?_
   iterate 3 refine pf ?_
   refine ph ?_
   iterate 4 refine pf ?_
   refine ph ?_
   iterate 3 refine pf ?_
   refine ax rfl (λK hK=>?_);go_simp;refine dP hK ?_;clear hK K;refine aC ?_;generalize dm:World.setCell _ _ _=c5;clear a7 am aF ed ee ef eg;obtain⟨dU,dJ⟩:=dw.o c5 dm;have dy:=(eq.trans dJ).trans (Mv.hg (Fr.refl _ c5).drew);have cq:=ag (dU.aj LW.drew) (show Mv g (.slice bz code.length b3) (.slice bU sites.length bE) w (.slice (some ⟨ev,0,none⟩) (ga bf u.length (bf.length:Int)).length dn) (.slice dM aM.length dS) c5.drew by rw[cy];exact dy);clear dU dJ dy dm;have gV:el.num=0:=by cases el<;>simp_all [an.isNil,an.num]
   go_wp2;refine⟨?_,by simp[jt,intOf];omega⟩;unfold iV
   iterate 240 apply Exists.intro
   refine⟨?_,rfl⟩;unfold oJ;obtain⟨_,a9,a1,hS,bn,a8,cm,ca,bM⟩:=bh.o
   exact⟨k+1,rest,aO,aY,aw,eL,ab+1+th.num,ga bf u.length (bf.length:Int),aM,bH,bd,bP,some ⟨ev,0,none⟩,dn,dM,dS,by go_num,ad,a3.symm,dK,ad,a1.2.2.2,hS.mono bg,bn,by simp only[cy];omega,by simp only[cy];omega,ad,ad,cq.1,cq.2⟩
 | gz ex th rest=>
  simp only[an.list,List.cons.injEq] at bo;obtain⟨rfl,a3⟩:=bo;have az:aq X wr.heap.size 207 #[.int .i64 8,.string ⟨#[]⟩,.int .i64 eo,.int .i64 en,.string es,.slice EA em ec,.string rs,.slice ce cD rc,.slice bZ n1 c1,.slice A2 n2 c2,.slice cE n3 c3]:=br;clear br;have cN:=ae az;obtain⟨a0,aj,af⟩:=az.two;clear az;have hd:∃c8,d=c8+1:=by
   exact Ab
  obtain⟨c8,hd⟩:=hd;subst hd;have dF:=bh.2.2.1;have ay:=bh.2.2.2.1.fV 2 ex dF.1;have aL:=dF.2.1;have dk:=dV (U:=U) (nk:=nk) th c8 aO aY aw aP (u++[ks (bO aO ex) 0]) aL bh.2.2.2.1;have e5:=bh.2.2.2.2.2.1;have e8:=bh.2.2.2.2.2.2.2.1;have e7:=bh.2.2.2.2.2.2.2.2;have ff:=bh.2.1;simp only[an.num] at e5 e8 e7 ff;have b1:(bp ex).rep X (av X) [.int .i64 eo,.int .i64 en,.string es,.slice EA em ec]:=D.aL (λ_ h=>h.1) _ _ (D.cS (d:=bp ex) cf.expr dH.o);go_wp2_with(fail);refine(gk aO ex ay g (ab:Int) _ _ _ _ _ _ _ z.L b1).mono ?_;rintro e aS ⟨o1,q1,s1,fi,de,cr,rfl,co,ar⟩;have c7:=z.aj ar;have be:=ij z.o co;clear b1 co;go_wp2_with(fail);refine(g8 c7 (ks (bO aO ex) 0) (ab:Int) (k4 be) ad ad).mono ?_;rintro e aU ⟨rfl,bV,cj,cA,cI,aZ,ci⟩;have eb:Mv g (.slice Y u.length ah) (.slice aH y.length bc) aS (.slice bV (u++[ks (bO aO ex) 0]).length cj) (.slice cA (y++[(ab:Int)]).length cI) aU:=by rw[Lm,Lm];exact ci
  have bI:=(Mv.hg (g:=g) (cv:=.slice Y u.length ah) (sv:=.slice aH y.length bc) ar).trans eb;have e9:¬Ms g (.slice Y u.length ah) (.slice aH y.length bc) wr.heap.size:=by
   exact zP
  obtain⟨bC,fb⟩:=cN.cS e9 bI;have eY:=Sl.cS (l:=c6 th) cf.th (dH.trans bI);have eO:=ae (et.trans bI);have eP:=ae (dH.trans bI);obtain⟨cn,bB⟩:=aJ aZ bC;clear ci eb bI a0 aj af a7 am aF c7 be ar aZ;obtain⟨a0,aj,af⟩:=bC.two;clear bC;go_wp2_with(fail);refine((show lQ U nk F th from fF.1) G c8 aO aY aw aP (ab+1) (u++[ks (bO aO ex) 0]) (y++[(ab:Int)]) g B bH bd bP bV cj cA cI A2 n2 c2 aU aL bh.2.2.2.1 bh.2.2.2.2.1 dY.o cn.o eY (by simp only[Lm,Lv];omega) (by simp only[Lm,Lv];omega) ad ad ad).mono ?_;rintro e b6 ⟨rfl,dG,dn,dM,dS,aM,cQ,cx,dc⟩;have dK:dL rest aO (dL th aO aP (u++[ks (bO aO ex) 0])).2 (ga ((dL th aO aP (u++[ks (bO aO ex) 0])).1++[er (u.length:Int)]) u.length (((dL th aO aP (u++[ks (bO aO ex) 0])).1.length+1:Nat):Int))=dL b l n code:=bh.1;generalize dL th aO aP (u++[ks (bO aO ex) 0])=p at *;obtain⟨bf,eL⟩:=p;obtain⟨⟨gI,cZ,ej,_⟩,bg,dd⟩:=dk;simp only[] at cQ cx dc cZ bg dd dK;have fc:u.length+1<=bf.length/\bf.length<=u.length+1+2*th.num:=by rw[cZ];simp only[Lm,Lv];omega
  obtain⟨gh,gi⟩:=fc;clear cZ ej;have eq:=ae (eO.trans dc);have fl:=ae (eP.trans dc);obtain⟨bD,fA⟩:=bB.cS fb dc;obtain⟨a4,dW⟩:=aJ bD cx;clear dc cx a0 aj af;obtain⟨a0,aj,af⟩:=bD.two;clear bD;go_wp2_with(fail);refine(g8 dW.o (er (u.length:Int)) (ab:Int) (jB (is:=[]) (ps:=[]) (Sl.bR _) (Sl.bR _) (Lk _) (Lk _)) ad ad).mono ?_;rintro e cK ⟨rfl,fD,eJ,eI,eM,db,dN⟩;have cJ:Mv g (.slice dG bf.length dn) (.slice dM aM.length dS) b6 (.slice fD (bf++[er (u.length:Int)]).length eJ) (.slice eI (aM++[(ab:Int)]).length eM) cK:=by rw[Lm,Lm];exact dN
  have cX:=ae (eq.trans cJ);clear dN cJ a0 aj af;have dl:=db;obtain⟨ev,ea,ed,ee,⟨fY,ef⟩,b8⟩:=dl.target (b:=u.length) (by simp only[Lm,Lv];omega) (((bf.length+1:Nat):Int));subst ea;obtain⟨fR,fs,fr,fU,fC,fB,fQ,fq,fo,bw,_⟩:=db.blk
  try simp only[Lm,Lv] at bw
  have eg:((u.length:Nat):Int)<(bf.length:Int)+1:=ad;obtain⟨dw,fm⟩:=aJ b8 db;clear b8 dl;obtain⟨a7,am,aF⟩:=bw.two;clear bw;go_wp2;refine eC (λ_=>False) [(0,3),(1,3),(2,3),(3,0),(4,3),(5,3),(6,3),(7,3),(8,0),(9,3),(10,3),(11,3),(12,2)] ?_
  iterate 3 refine pf ?_
  refine ph ?_
  iterate 4 refine pf ?_
  refine ph ?_
  iterate 3 refine pf ?_
  refine ax rfl (λK hK=>?_);go_simp;refine dP hK ?_;clear hK K;refine aC ?_;generalize dm:World.setCell _ _ _=c5;clear a7 am aF ed ee ef eg;obtain⟨dU,dJ⟩:=dw.o c5 (by rw[<-dm];simp);have dy:=(cX.trans dJ).trans (Mv.hg (Fr.refl _ c5).drew);have cq:=ag (dU.aj LW.drew) (show Mv g (.slice bz code.length b3) (.slice bU sites.length bE) w (.slice (some ⟨ev,0,none⟩) (ga (bf++[er (u.length:Int)]) u.length ((bf.length+1:Nat):Int)).length eJ) (.slice eI (aM++[(ab:Int)]).length eM) c5.drew by rw[cy];exact dy);clear dU dJ dy dm;go_wp2;refine⟨?_,by simp[jt,intOf];omega⟩;unfold iV
  iterate 240 apply Exists.intro
  refine⟨?_,rfl⟩;unfold oJ;obtain⟨_,a9,a1,hS,bn,a8,cm,ca,bM⟩:=bh.o
  exact⟨k+1,rest,aO,aY,aw,eL,ab+1+th.num,ga (bf++[er (u.length:Int)]) u.length ((bf.length+1:Nat):Int),aM++[(ab:Int)],bH,bd,bP,some ⟨ev,0,none⟩,eJ,eI,eM,by go_num,ad,a3.symm,dK,ad,a1.2.2,hS.mono bg,bn,by simp only[cy,Lm,Lv];omega,by simp only[cy,Lm,Lv];omega,ad,ad,cq.1,cq.2⟩
 | ret rest=>
  simp only[an.list,List.cons.injEq] at bo;obtain⟨rfl,a3⟩:=bo;have az:aq X wr.heap.size 207 #[.int .i64 9,.string ⟨#[]⟩,.int .i64 eo,.int .i64 en,.string es,.slice EA em ec,.string rs,.slice ce cD rc,.slice bZ n1 c1,.slice A2 n2 c2,.slice cE n3 c3]:=br;clear br;have cN:=ae az;obtain⟨a0,aj,af⟩:=az.two;clear az;go_wp2_with(fail);refine(g8 z.o (nF) (ab:Int) (jB (is:=[]) (ps:=[]) (Sl.bR _) (Sl.bR _) (Lk _) (Lk _)) ad ad).mono ?_;rintro e aS ⟨rfl,bV,cj,cA,cI,aZ,ci⟩;have cq:=ag aZ (et.trans ci);clear aZ ci a0 aj af a7 am aF;go_wp2;refine⟨?_,by simp[jt,intOf];omega⟩;unfold iV
  iterate 240 apply Exists.intro
  refine⟨?_,rfl⟩;unfold oJ;obtain⟨aT,a9,a1,hS,bn,a8,cm,ca,bM⟩:=bh.o;have wf:=(show e6 G d aY aw rest by cases d<;>exact a1)
  exact⟨k+1,rest,aO,aY,aw,aP,ab+1,u++[nF],y++[(ab:Int)],bH,bd,bP,bV,cj,cA,cI,by go_num,ad,a3.symm,aT,by simp only[an.num] at a9;omega,wf,hS,bn,by simp only[an.num] at a8;simp only[Lm,Lv];omega,by simp only[Lm,Lv];omega,by simp only[an.num] at ca;omega,by simp only[an.num] at bM;omega,cq.1,by rw[Lm,Lm];exact cq.2⟩
 ):p:=h
end Cn
open Cn in
theorem H0(bl:an):BK bl:=by
 intro dR U nk F b G d l n st code sites g B S ln lc bz b3 bU bE A m c w bq ck dY bJ e4 e0 k aO aY aw aP ab u y bH bd bP Y ah aH bc wr al bA aT a9 a1 hS bn a8 cm ca bM aX hM dt hQ0;intros
 conv=>arg 2;whnf
 have ap:k<=m:=ad;obtain⟨bF,cp,a5,eu,gp,eB,cM,fZ,cH,aR,_⟩:=aX.blk;obtain⟨gs,g5,s,cs,rfl,gl,ch,dQ,f2,Z⟩:=(bq.cS hM).g6 nE al;have gn:(bj s).rep wr (av wr) cs:=D.aL (λ_ h=>h.1) _ _ dQ;obtain⟨eo,en,es,EA,em,ec,rs,ce,cD,rc,bZ,n1,c1,A2,n2,c2,cE,n3,c3,rfl,eK⟩:=lv dQ;exact vR
end Go.Proofs.YtkhnkojkplbioaaGreat

/- Part 34 of the proof. No condition of its own. -/
import Derived.Test.YtglbpimocmhojaaGreatQ33
namespace Go.Proofs.YtglbpimocmhojaaGreat
open Go.RowKit Go.Proofs.Tryz
set_option maxRecDepth 1000000
set_option maxHeartbeats 25600000
set_option linter.unusedVariables false
variable{p:Prop}
namespace BC
theorem dB(h:p:=by
 generalize dm:World.setCell _ _ _=c9;clear a8 am aF ee ef eg ei;obtain⟨dZ,dK⟩:=dw.o c9 (by rw[<-dm];simp);have cD:=T.cO gf dK;have dx:=(c7.trans dK).trans (Mv.g8 (Fr.refl _ c9).drew);have eZ:=(fS.trans dK).trans (Mv.g8 (Fr.refl _ c9).drew);have gX:=cD.2;have eU:=dZ.ai (Fr.refl (λ_=>False) c9).drew;have a5:=cD.1.ai (Fr.refl (λ_=>False) c9).drew;have ct:(fX (be++[ej 0]) u.length ((be.length+1:Nat):Int)).length=be.length+1:=by rw[cu,KF];rfl
 have fu:=Sl.cO (l:=c4 el) ce.el eZ;have fg:=bf.2.2.1.2.2.1;obtain⟨gy,gJ,gu,fD⟩:=iS dx eZ eU a5;clear dZ dK cD dx eZ dm eU;generalize c9.drew=gS at *;obtain⟨a0,ai,af⟩:=a5.two;clear a5;have fL:=dR (U:=U) (nk:=nk) el dh aO aU a9 eM (fX (be++[ej 0]) u.length ((be.length+1:Nat):Int)) fg (bf.2.2.2.1.mono bd);go_wp2_with(fail);refine((show lB U nk F el from fE.2) G dh aO aU a9 eM (ab+1+th.num) (fX (be++[ej 0]) u.length ((be.length+1:Nat):Int)) (aM++[(ab:Int)]) g B bZ a2 cK (some ⟨ew,0,none⟩) eJ eI eO cC n3 c3 gS fg (bf.2.2.2.1.mono bd) bf.2.2.2.2.1 dN.o gu.o (by rw[cu];exact fu) (by rw[ct];omega) (by rw[ct];simp only[KF,KO];omega) ad ad ad).mono ?_;rintro e hf ⟨rfl,g8,fW,fU,gp,eG,fd,ea,ey⟩;rw[cu] at ey;generalize dH el aO eM (fX (be++[ej 0]) u.length ((be.length+1:Nat):Int))=q at *;obtain⟨q1,gC⟩:=q;obtain⟨⟨ih,fO,gn,_⟩,fy,fx⟩:=fL;simp only[] at fd ea ey fO fy fx dL;have ep:be.length+1<=q1.length/\q1.length<=be.length+1+2*el.num:=by rw[fO];simp only[KF,ct];omega
 obtain⟨gY,gZ⟩:=ep;have fF:=ae (gy.trans ey);clear fO gn ey a0 ai af fu;have fv:=ea;obtain⟨fV,f6,f9,ga,⟨hi,gb⟩,fe⟩:=fv.target (b:=be.length) ad ((q1.length:Int));subst f6;obtain⟨hb,gR,gQ,he,g4,g2,g9,gP,gO,eW,_⟩:=ea.blk
 try simp only[KF,KO,cu] at eW
 have gc:((be.length:Nat):Int)<(q1.length:Int):=ad;obtain⟨fH,gK⟩:=aH fe ea;clear fe fv;obtain⟨a8,am,aF⟩:=eW.two;clear eW;go_wp2;refine eK (λ_=>False) [(0,3),(1,3),(2,3),(3,0),(4,3),(5,3),(6,3),(7,3),(8,0),(9,3),(10,3),(11,3),(12,2)] ?_
 iterate 3 refine pf ?_
 refine ph ?_
 iterate 4 refine pf ?_
 refine ph ?_
 iterate 3 refine pf ?_
 refine ax rfl (λK hK=>?_);go_simp;refine dO hK ?_;clear hK K;refine aE ?_;generalize fw:World.setCell _ _ _=fI;clear a8 am aF f9 ga gb gc;obtain⟨f3,fl⟩:=fH.o fI fw;have dx:=(fF.trans fl).trans (Mv.g8 (Fr.refl _ fI).drew);have cn:=ah (f3.ai Ll.drew) (show Mv g (.slice bx code.length bK) (.slice bR sites.length bC) w (.slice (some ⟨fV,0,none⟩) (fX q1 be.length (q1.length:Int)).length fW) (.slice fU eG.length gp) fI.drew by rw[cu];exact dx);clear f3 fl dx fw;go_wp2;refine⟨?_,by simp[jm,intOf];omega⟩;unfold iQ
 iterate 240 apply Exists.intro
 refine⟨?_,rfl⟩;unfold oe;obtain⟨_,aw,a4,hS,bF,bj,cf,bH,bI⟩:=bf.o;exact⟨k+1,rest,aO,aU,a9,gC,ab+1+th.num+el.num,fX q1 be.length (q1.length:Int),eG,bZ,a2,cK,some ⟨fV,0,none⟩,fW,fU,gp,by go_num,ad,bA.symm,dL,ad,a4.2.2.2,hS.mono ad,bF,by simp only[cu];omega,by simp only[cu];omega,ad,ad,cn.1,cn.2⟩
 ):p:=h
theorem eQ(h:p:=by
 refine tf ?_;refine b3 ?_;generalize fM:World.setCell _ _ _=gM;obtain⟨_,eY,_⟩:=pI b7 bm aj fM;have eH:=ae eY;clear fM c0 bV bt b7 bm aj de;have gq:=c5.ai eY;obtain⟨a0,ai,af⟩:=gq.two;clear eY gq;go_wp2_with(fail);refine(gg aO ex ay g (ab:Int) _ _ _ _ _ _ _ (z.ai eH.o).L (D.on aQ.1 (Fr.ext eH.o))).mono ?_;rintro e aS ⟨o1,q1,s1,fi,da,cp,rfl,cg,ar⟩;have bu:=ae (eH.trans ar);have fG:=ae cg;clear a0 ai af ar cg;go_upto_region 13 with(fail);generalize hV:World.alloc _ _=dQ;have L:=aX hV;have dr:=aK hV;have a3:=z.ai (bu.trans L);obtain⟨h7,hD,hy,ie,hQ,hJ,h2,hr,hk,bE,_⟩:=a3.blk;have di:=ae (bu.trans L);have aW:(bk (bJ aO ex)).rep dQ (fresh X dQ) [.int .i64 o1,.int .i64 q1,.string s1,.slice fi da cp]:=
  D.aL (λb O=>⟨KU eH.size O.1,KE O.2 L.size⟩) _ _ (D.aS (λb O=>L.block b O.2 λh=>h) _ _ fG.o)
 have gA:=ae aW;clear hV aW a3;obtain⟨a0,ai,af⟩:=dr.two;obtain⟨a8,am,aF⟩:=bE.two;clear dr bE;go_wp2;refine eK (λ_=>False) [(0,3),(1,3),(2,3),(3,3),(4,0),(5,0),(6,3),(7,3),(8,2)] ?_
 iterate 4 refine pf ?_
 iterate 2 refine ph ?_
 iterate 2 refine pf ?_
 refine ax rfl (λK hK=>?_);go_simp;have a3:=z.ai di.drew;refine(g3 a3 (lj aP false (bJ aO ex)) (ab:Int) (kS (h8 z.o (Dz gA.o Ll.drew))) ad ad).mono ?_;rintro e df ⟨rfl,cx,ch,cM,cT,dp,dS⟩;refine dO hK ?_;clear hK K;refine aE ?_;clear a0 ai af a8 am aF a3;have fk:=ae dp;have ci:Mv g (.slice Y u.length ag) (.slice al y.length aG) dQ.drew (.slice cx (u++[lj aP false (bJ aO ex)]).length ch) (.slice cM (y++[(ab:Int)]).length cT) df:=by rw[KF,KF];exact dS
 have gV:a2<=100000:=by have ac:=bf.2.2.2.2.2.2.2.2;rw[<-eE,KH];omega
 have c7:=ae (et.trans ((Mv.g8 di.drew).trans ci));clear ci;have b6:=(c5.ai di.drew).on dS.fr (by
  intro hm;rcases hm with hm|hm|hm
  .have:=HA.lt;omega
  .have:=(HA.rows.one.lt hm).2;omega
  .have:=(HA.rows.two.lt hm).2;omega)
 obtain⟨a0,ai,af⟩:=b6.two;obtain⟨h9,hE,hz,ig,hT,hL,h3,hs,hl,bh,_⟩:=dp.blk;obtain⟨a8,am,aF⟩:=bh.two;have dC:=dp.names.2.mono (λb (O:off _ df b)=>(show av df b from O.1));obtain⟨cZ,dy⟩:∃N,N=df.heap.size:=⟨_,rfl⟩
 have gD:¬cZ<=g:=ad;have gE:¬cZ<=wr.heap.size:=ad;clear dp dS b6 bh;go_wp2;refine qY (λb=>cZ<=b) [15,18] (.free 0 (.free 2 (.free 3 (.free 4 (.held 5 (.free 7 (.held 8 (.free 9 (.free 10 (.free 11 (.held 12 (.free 13 (.pick [1,14] (λi=>bif i == 1 then .pick [6,14] (λi=>bif i == 6 then .pick [14] (λ_=>.pick [15] (λ_=>.free 16 (.free 17 (.pick [18] (λ_=>.stop))))) else .pick [6] (λ_=>.pick [15] (λ_=>.free 16 (.free 17 (.pick [18] (λ_=>.stop)))))) else .pick [1] (λ_=>.pick [6] (λ_=>.pick [15] (λ_=>.free 16 (.free 17 (.pick [18] (λ_=>.stop)))))))))))))))))))) ?_
 iterate 4 refine tf ?_
 refine mU ?_;refine tf ?_;refine mU ?_
 iterate 3 refine tf ?_
 refine mU ?_;refine tf ?_;clear a0 ai af;refine iL (P:=?ow) (ops:=?Hq) (Q:=?Hs) (R:=?Hu) (tails:=?HE) (rest:=.pick [15] (λ_=>.free 16 (.free 17 (.pick [18] (λ_=>.stop))))) (aa:=?G3)
  (C:=λ(_:Nat) b2 A2 bO V=>Ext df V/\Gr (λ_=>False) cZ 145 3 V A2 a2 bO (aO.map bY)/\aq V b2 145 #[.string nm,.int .i64 4,.int .i64 aP]) (λkey=>?vY) ?vR
 case vY=>
  refine aY ?_ ?_
  ·
   refine dP ?_;generalize hV:World.drew (World.alloc _ _)=bG;have e1:=gG hV;have cP:Gr (λ_=>False) cZ 145 3 bG (some ⟨df.heap.size,0,none⟩) 0 0 []:=by rw[<-hV,dy];exact(Gr.lit (w:=df) (n:=0) (l:=[]) rfl (by rfl) ad (by simp only[D.aQ])).ai Ll.drew
   have eB:=ky (dC.on (Fr.ext e1));clear hV;refine aY ?_ ?_
   ·
    refine aB rfl (λK hK=>?_) rfl;rw[if_pos (by rfl)];refine jl jd (.tmp 77) (.tmp 81) (by rfl) cP (kT aO) eE eB (λh=>by subst h;exact Sl.none_ dC) (by rfl) (by rfl) ad ad (by rw[dy];exact e1.size) ?_;intro A2 bO cU ca f1 o1 c1;refine dz hK (f1.mono λb O=>ad) ?_;clear hK K;refine ao ?_;refine dP ?_;have e2:Ext df cU:=Fr.low (M:=λb=>df.heap.size<=b) ((e1.mono λ_ h=>h.elim).trans (f1.mono λb O=>ad)) λ_ h=>h;have F:Ext df (cU.alloc (.cells #[.string nm,.int .i64 4,.int .i64 aP] 145))/\Gr (λ_=>False) cZ 145 3 (cU.alloc (.cells #[.string nm,.int .i64 4,.int .i64 aP] 145)) A2 a2 bO (aO.map bY)/\
      aq (cU.alloc (.cells #[.string nm,.int .i64 4,.int .i64 aP] 145)) cU.heap.size 145 #[.string nm,.int .i64 4,.int .i64 aP]:=⟨e2.alloc _,ca.ai (Ll.alloc _),Lm⟩
    clear ca cP f1 o1 e1 e2 eB;revert F;generalize cU.heap.size=b2;generalize df.heap.size=eX;intro F;exact key eX b2 A2 bO _ F
   ·
    refine dP ?_;generalize hV:World.alloc _ _=eR;have e2:=aX hV;have cd:aq eR bG.heap.size 145 #[.string nm,.int .i64 4,.int .i64 aP]:=hV▸Lm;have dE:=ky (dC.on (Fr.ext (e1.trans e2)));clear hV eB;have dJ:df.heap.size<bG.heap.size:=(cP.lt (g:=df.heap.size) rfl).2;refine ao ?_;refine aB rfl (λK hK=>?_) rfl;rw[if_pos (by rfl)];refine jl jd (.tmp 77) (.tmp 81) (by rfl) (cP.ai e2) (kT aO) eE dE (λh=>by subst h;exact Sl.none_ dC) (by rfl) (by rfl) ad ad (by rw[dy];exact(e1.trans e2).size) ?_;intro A2 bO cU ca f1 o1 c1;refine dz hK (f1.mono λb O=>ad) ?_;clear hK K;have e3:Ext df cU:=Fr.low (M:=λb=>df.heap.size<=b) (((e1.trans e2).mono λ_ h=>h.elim).trans (f1.mono λb O=>ad)) λ_ h=>h;have F:Ext df cU/\Gr (λ_=>False) cZ 145 3 cU A2 a2 bO (aO.map bY)/\aq cU bG.heap.size 145 #[.string nm,.int .i64 4,.int .i64 aP]:=⟨e3,ca,cd.on f1 ad⟩
    clear ca cP f1 o1 e1 e2 e3 dE cd dJ;revert F;generalize bG.heap.size=b2;generalize df.heap.size=eX;intro F;exact key eX b2 A2 bO _ F
  ·
   refine dP ?_;generalize hV:World.drew (World.alloc _ _)=bG;have e1:=gG hV;have cd:aq bG df.heap.size 145 #[.string nm,.int .i64 4,.int .i64 aP]:=hV▸Lm;clear hV;refine ao ?_;refine dP ?_;generalize hV:World.alloc _ _=eR;have e2:=aX hV;have cP:Gr (λ_=>False) bG.heap.size 145 3 eR (some ⟨bG.heap.size,0,none⟩) 0 0 []:=hV▸Gr.lit (w:=bG) (n:=0) (l:=[]) rfl (by rfl) ad (by simp only[D.aQ]);have dj:=cd.ai e2;have dE:=ky (dC.on (Fr.ext (e1.trans e2)));have dJ:df.heap.size<bG.heap.size:=cd.lt;clear hV cd;refine ao ?_;refine aB rfl (λK hK=>?_) rfl;rw[if_pos (by rfl)];refine jl jd (.tmp 77) (.tmp 81) (by rfl) cP (kT aO) eE dE (λh=>by subst h;exact Sl.none_ dC) (by rfl) (by rfl) ad ad e2.size ?_;intro A2 bO cU ca f1 o1 c1;refine dz hK (f1.mono λb O=>ad) ?_;clear hK K;have e3:Ext df cU:=Fr.low (M:=λb=>df.heap.size<=b) (((e1.trans e2).mono λ_ h=>h.elim).trans (f1.mono λb O=>ad)) λ_ h=>h;have F:Ext df cU/\Gr (λ_=>False) cZ 145 3 cU A2 a2 bO (aO.map bY)/\aq cU df.heap.size 145 #[.string nm,.int .i64 4,.int .i64 aP]:=⟨e3,ca.base ad,dj.on f1 ad⟩
   clear ca cP f1 o1 e1 e2 e3 dE dj;revert F;generalize bG.heap.size=eX;generalize df.heap.size=b2;intro F;exact key eX b2 A2 bO _ F
 case vR=>
  rintro eX b2 A2 bO gL ⟨b0,c8,cd⟩;have eD:=b0.size;have f0:=fk.ai b0;obtain⟨hc,hF,hA,hg,hU,hN,ha,ht,hn,bh,_⟩:=f0.blk;clear a8 am aF f0;refine ao ?_;refine bM rfl (λK hK=>?_) rfl;rw[if_pos (by rfl)];refine e5 jd (.tmp 82) (.tmp 90) (by rfl) c8 cd (jQ ⟨nm,4,aP⟩) (by rfl) (by rfl) (by rfl) ad ad ad ?_;intro gs cV gS fh f5 gF gN;have ct:Ext df gS:=Fr.low (M:=λb=>df.heap.size<=b) ((b0.mono λ_ h=>h.elim).trans (f5.mono λb O=>by have:=(c8.lt O).1;omega)) λ_ h=>h;have a5:=bh.on f5 (λO=>by have:=(c8.lt O).1;omega);have dv:=ah fh ct;clear fh f5 gF c8 cd bh b0 ct eD;obtain⟨a8,am,aF⟩:=a5.two;refine dO hK ?_;clear hK K
  iterate 2 refine tf ?_
  refine ao ?_;refine bM rfl (λK hK=>?_) rfl;go_simp;refine dO hK ?_;clear hK K;refine b3 ?_;generalize bq:World.setCell _ _ _=gB;have eU:=fk.ai dv.2;have g1:=dv.2.size;obtain⟨ea,ey⟩:=eU.DR (aO:=aO++[⟨nm,4,aP⟩]) ad (by
   rw[KK];refine dv.1.sl (λb _ h=>h.elim) λb ac au=>⟨ac,λhm=>?_⟩
   rcases hm with hm|hm|hm
   .omega
   .have:=(fk.rows.one.lt hm).2;omega
   .have:=(fk.rows.two.lt hm).2;omega) bq
  have gw:=ae ea;have fF:=ae (c7.trans ((Mv.g8 dv.2).trans ey));obtain⟨h5,hG,hB,MW,hW,hO,hZ,hu,ho,cm,_⟩:=ea.blk;clear a8 am aF a5 bq eU ea ey dC;obtain⟨a8,am,aF⟩:=cm.two;clear cm;go_upto_region 3 with(fail);generalize e6:World.setCell _ _ _=hh;have hw:wrap64 (aP+1)=aP+1:=IntWalk.wrap64_in _ (by have h0:=bf.2.2.2.1.n0;have ac:=bf.2.2.2.2.2.2.2.1;omega);rw[hw] at e6;obtain⟨fs,ft⟩:=gw.locals e6;have cn:=ah fs (fF.trans ft);clear e6 fs ft a8 am aF;go_wp2;refine⟨?_,by simp[jm,intOf];omega⟩;unfold iQ
  iterate 240 apply Exists.intro
  refine⟨?_,rfl⟩;unfold oe;obtain⟨aV,aw,a4,hS,bF,bj,cf,bH,bI⟩:=bf.o;have wf:=(show e4 G d (aU++[nm]) (a9++[nm]) rest by cases d<;>exact a4.2.2.2)
  exact⟨k+1,rest,aO++[⟨nm,4,aP⟩],aU++[nm],a9++[nm],aP+1,ab+1,u++[lj aP false (bJ aO ex)],y++[(ab:Int)],gs,(a2+1),cV,cx,ch,cM,cT,by go_num,ad,bA.symm,(show dH rest (aO++[⟨nm,4,aP⟩]) (aP+1) (u++[lj aP false (bJ aO ex)])=dH b l n code from aV),by simp only[an.num] at aw;omega,wf,hS.add er.1,bF.app _,by simp only[an.num] at bj;simp only[KF,KO];omega,by simp only[KF,KO];omega,by simp only[an.num] at bH;omega,by simp only[an.num] at bI;simp only[KF,KO];omega,cn.1,cn.2⟩
 ):p:=h
theorem vq(h:p:=by
 refine(dV bZ a2 cK aO nm V.drew (de.on (Fr.ext bm.drew)) dt).mono ?_;rintro e aS ⟨rfl,ar⟩;rw[a6];simp only[iU];refine dO hK ?_;clear hK K
 iterate 3 refine tf ?_
 have cE:=aR.ai (Fr.aF ar);have aN:=bm.trans (Fr.aF ar);clear aR bm ar;exact key X.heap.size aS ⟨aN,cE,KD _⟩
 ):p:=h
theorem Ac(h:p:=by
 refine k9 (P:=?JA) (ops:=?JJ) (Q:=?JK) (R:=?JL) (tails:=?JM) (rest:=.pick [11] (λ_=>.free 12 (.stop))) (aa:=?JB) (C:=λc6 V=>Ext X V/\aq V c6 145 #[.string ⟨#[]⟩,.int .i64 0,.int .i64 0]/\X.heap.size<=c6) (λkey=>?Ip) ?Ij
 case Ip=>
  refine aY ?_ ?_
  ·
   refine bM rfl (λK hK=>?_) rfl;go_simp;refine(dV bZ a2 cK aO nm X.drew (de.on (Fr.ext Ll.drew)) dt).mono ?_;rintro e aS ⟨rfl,ar⟩;rw[a6];simp only[iU];refine dO hK ?_;clear hK K
   iterate 3 refine tf ?_
   refine ao ?_;refine dP ?_;generalize hV:World.alloc _ _=V;have aR:=aK hV;have bm:Ext X V:=hV▸(Fr.aF ar).alloc _;exact C1
  ·
   exact vp
 case Ij=>
  rintro c6 V ⟨bm,b7,aj⟩;obtain⟨c0,bV,bt⟩:=b7.two;clear a0 ai af a8 am aF;exact fj
 ):p:=h
theorem vg(h:p:=by
 have gl:gt<wr.heap.size:=gk.1;have bQ:=KG cy;have bW:bl.list=s::b.list.drop (k+1):=ba▸(List.drop_eq_getElem?_toList_append▸(by rw[cy];rfl));obtain⟨a8,am,aF⟩:=aR.two;obtain⟨HA,cQ,ce⟩:=eh bw hM eL;have fE:=ae (cq.o s bQ);clear aR bw hM dW gm Z gk eL f2;have cY:¬gt=wr.heap.size:=ad;have cG:¬g=wr.heap.size:=ad;go_wp2;refine eK (λb=>b=wr.heap.size) [(0,3),(1,3),(2,3),(3,0),(4,3),(5,3),(6,3),(7,0),(8,1),(9,1),(10,3)] ?_
 iterate 3 refine pf ?_
 refine oq ?_
 iterate 3 refine pf ?_
 refine oq ?_;refine qV ?_;refine aI rfl (λK hK=>?_);go_simp;generalize hV:World.drew (World.alloc _ _)=V;have L:=gG hV;have f4:aq V wr.heap.size 174 #[.int .i64 s.kind,.string s.name,.int .i64 eo,.int .i64 en,.string es,.slice EA em ec,.string rs,.slice cc cI rc,.slice bU n1 c1,.slice A2 n2 c2,.slice cC n3 c3]:=hV▸(Lm).drew;refine dz hK (Hh (Ll.alloc _).drew L (by simp) (by rw[<-hV];simp)) ?_;clear hK K;refine pf ?_;refine aE ?_;have fR:=ae f4;have fJ:=HA.ai L;have f7:=cQ.trans (Mv.g8 L);obtain⟨h4,bn,bP,ia,dg,cw,hY,hp,hR,b7,_⟩:=fJ.blk;obtain⟨bN,gx,gz⟩:=eh L fJ f7;clear hV L a8 am aF d0 d1 d2 d3 d4 d5 d6 d7 d8 d9 d10 cY cG gl fJ f7 f4;obtain⟨a8,am,aF⟩:=b7.two;clear b7;go_upto_region 6 with(fail);generalize hX:World.setCell _ _ _=X;obtain⟨eV,dT⟩:=gx.stmt (X:=X) (by rw[<-hX,Int.natCast_add];rfl);have b8:=cJ hX;have bz:=fR.on b8 (aC HA.lt);have bp:Ext wr V:=bN.o;have z:=ae eV;have et:=ae (gz.trans dT);have dI:=ae ((Mv.g8 bp).trans dT);have gT:u.length<=100000:=ad;have g0:=cf;have bf:=w6 aV aw a4 hS bF bj cf bH bI;obtain⟨h6,hC,hv,ib,hP,hH,h1,hq,hj,cz,_⟩:=eV.blk;have gr:=cz.lt;clear hX b8 a8 am aF eV dT bp aV aw a4 hS bF fR;obtain⟨a8,am,aF⟩:=cz.two;clear cz
 cases bl with
 | nil=>simp[an.list] at bW
 | set bv nm ex rest=>
  cases bv
  ·
   simp only[an.list,List.cons.injEq] at bW;obtain⟨rfl,bA⟩:=bW;have az:aq X wr.heap.size 174 #[.int .i64 2,.string nm,.int .i64 eo,.int .i64 en,.string es,.slice EA em ec,.string rs,.slice cc cI rc,.slice bU n1 c1,.slice A2 n2 c2,.slice cC n3 c3]:=bz;clear bz;have c5:=ae az;obtain⟨a0,ai,af⟩:=az.two;clear az;have er:=(show nm∈aU/\ex.src aU 2 by have:=bf.2.2.1;cases d<;>exact⟨this.1,this.2.1⟩)
   obtain⟨v,J,cb⟩:=bf.2.2.2.1.vars nm er.1;have cN:v.kind=1\/v.kind=4:=cb.imp (λh=>h.1) (λh=>h.1);have ay:=bf.2.2.2.1.fS 2 ex er.2;have ez:jh aO nm=v.n:=by simp[jh,J]
   have fN:tD aO nm=v.kind:=by simp[tD,J]
   have b5:(bk ex).rep X (av X) [.int .i64 eo,.int .i64 en,.string es,.slice EA em ec]:=D.aL (λ_ h=>h.1) _ _ (D.cO (d:=bk ex) ce.expr dI.o);have aQ:=ah b5 ay;clear b5 cb;go_wp2_with(fail);refine(mW g aO nm v J cN (ab:Int) X z.L).mono ?_;rintro e aS ⟨rfl,ar⟩;simp only[qT];go_upto_region 18 with(fail);generalize hV:World.alloc _ _=dQ;have L:Ext X dQ:=hV▸ar.alloc _;have dr:=aK hV;have bs:=c5.ai L;have di:=ae L;clear hV a0 ai af a8 am aF ar L;obtain⟨a0,ai,af⟩:=bs.two;obtain⟨a8,am,aF⟩:=dr.two;clear dr bs;go_wp2;refine eK (λ_=>False) [(0,3),(1,3),(2,0),(3,3),(4,0),(5,3),(6,3),(7,3),(8,0),(9,3),(12,3),(10,1),(11,3),(13,2)] ?_
   iterate 2 refine pf ?_
   refine ph ?_;refine pf ?_;refine ph ?_
   iterate 3 refine pf ?_
   refine ph ?_
   iterate 2 refine pf ?_
   refine aI rfl (λK hK=>?_);go_simp;refine(gg aO ex ay g (ab:Int) _ _ _ _ _ _ _ (z.ai di.drew).L (D.on aQ.1 (Fr.ext di.drew))).mono ?_;rintro e bX ⟨o1,q1,s1,fi,da,cp,rfl,cg,bT⟩;refine dz hK (bT) ?_;clear hK K;refine pf ?_;refine ax rfl (λK hK=>?_);go_simp;have du:Ext X bX:=di.trans (Fr.aF bT);have cX:=z.ai du;refine(g3 cX (lj v.n (v.kind == 1) (bJ aO ex)) (ab:Int) (kS (h8 z.o (vJ cg di.size))) ad ad).mono ?_;rintro e aT ⟨rfl,cx,ch,cM,cT,a3,ck⟩;refine dO hK ?_;clear hK K;refine aE ?_;have cn:=ah a3 ((et.trans (Mv.g8 du)).trans ck);clear a3 ck a0 ai af a8 am aF cX cg bT du;go_wp2;refine⟨?_,by simp[jm,intOf];omega⟩;unfold iQ
   iterate 240 apply Exists.intro
   refine⟨?_,rfl⟩;unfold oe;obtain⟨aV,aw,a4,hS,bF,bj,cf,bH,bI⟩:=bf.o;have wf:=(show e4 G d aU a9 rest by cases d<;>exact a4.2.2)
   exact⟨k+1,rest,aO,aU,a9,aP,ab+1,u++[lj v.n (v.kind == 1) (bJ aO ex)],y++[(ab:Int)],bZ,a2,cK,cx,ch,cM,cT,by go_num,ad,bA.symm,(by rw[<-ez,<-fN];exact aV),by simp only[an.num] at aw;omega,wf,hS,bF,by simp only[an.num] at bj;simp only[KF,KO];omega,by simp only[KF,KO];omega,by simp only[an.num] at bH;omega,by simp only[an.num] at bI;omega,cn.1,by rw[KF,KF];exact cn.2⟩
  ·
   simp only[an.list,List.cons.injEq] at bW;obtain⟨rfl,bA⟩:=bW;have az:aq X wr.heap.size 174 #[.int .i64 1,.string nm,.int .i64 eo,.int .i64 en,.string es,.slice EA em ec,.string rs,.slice cc cI rc,.slice bU n1 c1,.slice A2 n2 c2,.slice cC n3 c3]:=bz;clear bz;have c5:=ae az;obtain⟨a0,ai,af⟩:=az.two;clear az;have er:=(show nm∉a9/\ex.src aU 2 by have:=bf.2.2.1;cases d<;>exact⟨this.2.1,this.2.2.1⟩)
   have a6:dA aO nm=none:=jR λj x bi hx=>er.1 (hx▸bf.2.2.2.1.taken x (KG bi));have ay:=bf.2.2.2.1.fS 2 ex er.2;have b5:(bk ex).rep X (av X) [.int .i64 eo,.int .i64 en,.string es,.slice EA em ec]:=D.aL (λ_ h=>h.1) _ _ (D.cO (d:=bk ex) ce.expr dI.o);obtain⟨dt,ek⟩:=z.names;have de:=ek.mono (λb (O:off _ X b)=>(show av X b from O.1));have aQ:=aD b5 de ay;have eE:(aO.map bY).length=a2:=de.1;clear b5 ek;go_upto_region 9 with(fail)
   exact Ab
 | call bb nm a1 rest=>
  cases bb
  case' false=>let bb:=false
  case' true=>let bb:=true
  all_goals
   simp only[an.list,List.cons.injEq] at bW;obtain⟨rfl,bA⟩:=bW;have az:aq X wr.heap.size 174 #[.int .i64 _,.string nm,.int .i64 eo,.int .i64 en,.string es,.slice EA em ec,.string rs,.slice cc cI rc,.slice bU n1 c1,.slice A2 n2 c2,.slice cC n3 c3]:=bz;clear bz;have c5:=ae az;obtain⟨a0,ai,af⟩:=az.two;clear az;have er:=(show ∃ps,(nm,ps)∈G.funcs/\iM G aU ps a1 by have:=bf.2.2.1;cases d<;>exact this.1)
   obtain⟨ps,cl,aJ⟩:=er;obtain⟨v,f,J,eA,h0,fK,rfl⟩:=bf.2.2.2.2.1 nm ps cl;have f8:=bf.2.2.2.1.je _ _ aJ;have ez:jh aO nm=v.n:=by simp[jh,J]
   have cW:=dN.o f (KG fK);have dD:Sl X (av X) bU n1 (a1.map gI):=(Sl.cO (l:=a1.map gI) ce.args dI.o).mono (λ_ h=>h.1);go_wp2_with(fail);refine(Df ds g aO U.af F bb nm a1 v f J eA h0 fK f8 cW eo en es EA em ec rs cc cI rc bU n1 c1 A2 n2 c2 cC n3 c3 (ab:Int) _ z.L z.M_ z.F_ dD).mono ?_;rintro e aS ⟨IA,i,ic,KA,j,kc,rfl,cg,ar⟩;have db:=z.ai ar;have aW:=h8 z.o cg;clear dD f8 cg;go_wp2_with(fail);refine(g3 db (lr bb v.n (bS aO a1) (cB aO a1)) (ab:Int) (aW) ad ad).mono ?_;rintro e aT ⟨rfl,cx,ch,cM,cT,a3,ck⟩;have cn:=ah a3 ((et.trans (Mv.g8 ar)).trans ck);clear a3 ck a0 ai af a8 am aF db aW ar cl aJ J eA h0 fK cW;go_wp2;refine⟨?_,by simp[jm,intOf];omega⟩;unfold iQ
   iterate 240 apply Exists.intro
   refine⟨?_,rfl⟩;unfold oe;obtain⟨aV,aw,a4,hS,bF,bj,cf,bH,bI⟩:=bf.o;have wf:=(show e4 G d aU a9 rest by cases d<;>exact a4.2)
   exact⟨k+1,rest,aO,aU,a9,aP,ab+1,u++[lr bb v.n (bS aO a1) (cB aO a1)],y++[(ab:Int)],bZ,a2,cK,cx,ch,cM,cT,by go_num,ad,bA.symm,(by rw[<-ez];exact aV),by simp only[an.num] at aw;omega,wf,hS,bF,by simp only[an.num] at bj;simp only[KF,KO];omega,by simp only[KF,KO];omega,by simp only[an.num] at bH;omega,by simp only[an.num] at bI;omega,cn.1,by rw[KF,KF];exact cn.2⟩
 | lock bb r rest=>
  cases bb
  case' false=>let bb:=false
  case' true=>let bb:=true
  all_goals
   simp only[an.list,List.cons.injEq] at bW;obtain⟨rfl,bA⟩:=bW;have az:aq X wr.heap.size 174 #[.int .i64 _,.string ⟨#[]⟩,.int .i64 eo,.int .i64 en,.string es,.slice EA em ec,.string rs,.slice cc cI rc,.slice bU n1 c1,.slice A2 n2 c2,.slice cC n3 c3]:=bz;clear bz;have c5:=ae az;obtain⟨a0,ai,af⟩:=az.two;clear az;have eF:=(show rT G aU r by have:=bf.2.2.1;cases d<;>exact this.1)
   have gj:=bf.2.2.2.1.ql r eF;have b5:(kx r).rep X (av X) [.string rs,.slice cc cI rc]:=D.aL (λ_ h=>h.1) _ _ (D.cO (d:=kx r) ce.ref dI.o);go_wp2_with(fail);refine(ds g aO U.af r gj (ab:Int) rs cc cI rc _ z.L z.M_ b5).mono ?_;rintro e aS ⟨g6,g7,cA,cj,cF,rfl,cg,ar⟩;have db:=z.ai ar;have aW:=h8 z.o cg;clear b5 gj cg;go_wp2_with(fail);refine(g3 db (pO bb (l6 aO r)) (ab:Int) (vF aW) ad ad).mono ?_;rintro e aT ⟨rfl,cx,ch,cM,cT,a3,ck⟩;have cn:=ah a3 ((et.trans (Mv.g8 ar)).trans ck);clear a3 ck a0 ai af a8 am aF db aW ar eF;go_wp2;refine⟨?_,by simp[jm,intOf];omega⟩;unfold iQ
   iterate 240 apply Exists.intro
   refine⟨?_,rfl⟩;unfold oe;obtain⟨aV,aw,a4,hS,bF,bj,cf,bH,bI⟩:=bf.o;have wf:=(show e4 G d aU a9 rest by cases d<;>exact a4.2)
   exact⟨k+1,rest,aO,aU,a9,aP,ab+1,u++[pO bb (l6 aO r)],y++[(ab:Int)],bZ,a2,cK,cx,ch,cM,cT,by go_num,ad,bA.symm,aV,by simp only[an.num] at aw;omega,wf,hS,bF,by simp only[an.num] at bj;simp only[KF,KO];omega,by simp only[KF,KO];omega,by simp only[an.num] at bH;omega,by simp only[an.num] at bI;omega,cn.1,by rw[KF,KF];exact cn.2⟩
 | ite ex th el rest=>
  simp only[an.list,List.cons.injEq] at bW;obtain⟨rfl,bA⟩:=bW;have az:aq X wr.heap.size 174 #[.int .i64 7,.string ⟨#[]⟩,.int .i64 eo,.int .i64 en,.string es,.slice EA em ec,.string rs,.slice cc cI rc,.slice bU n1 c1,.slice A2 n2 c2,.slice cC n3 c3]:=bz;clear bz;have c5:=ae az;obtain⟨a0,ai,af⟩:=az.two;clear az;have hd:∃dh,d=dh+1:=by
   exact zu
  obtain⟨dh,hd⟩:=hd;subst hd;have dF:=bf.2.2.1;have ay:=bf.2.2.2.1.fS 2 ex dF.1;have aL:=dF.2.1;have dk:=dR (U:=U) (nk:=nk) th dh aO aU a9 aP (u++[kk (bJ aO ex) 0]) aL bf.2.2.2.1;have e7:=bf.2.2.2.2.2.1;have e9:=bf.2.2.2.2.2.2.2.1;have e8:=bf.2.2.2.2.2.2.2.2;have ff:=bf.2.1;simp only[an.num] at e7 e9 e8 ff;have b5:(bk ex).rep X (av X) [.int .i64 eo,.int .i64 en,.string es,.slice EA em ec]:=D.aL (λ_ h=>h.1) _ _ (D.cO (d:=bk ex) ce.expr dI.o);go_wp2_with(fail);refine(gg aO ex ay g (ab:Int) _ _ _ _ _ _ _ z.L b5).mono ?_;rintro e aS ⟨o1,q1,s1,fi,da,cp,rfl,cg,ar⟩;have db:=z.ai ar;have aW:=h8 z.o cg;clear b5 cg;go_wp2_with(fail);refine(g3 db (kk (bJ aO ex) 0) (ab:Int) (kS aW) ad ad).mono ?_;rintro e aT ⟨rfl,cx,ch,cM,cT,a3,ck⟩;have ed:Mv g (.slice Y u.length ag) (.slice al y.length aG) aS (.slice cx (u++[kk (bJ aO ex) 0]).length ch) (.slice cM (y++[(ab:Int)]).length cT) aT:=by rw[KF,KF];exact ck
  have b1:=(Mv.g8 (g:=g) (cv:=.slice Y u.length ag) (sv:=.slice al y.length aG) ar).trans ed;have fa:¬Ms g (.slice Y u.length ag) (.slice al y.length aG) wr.heap.size:=by
   exact y8
  obtain⟨bs,fb⟩:=c5.cO fa b1;have e0:=Sl.cO (l:=c4 th) ce.th (dI.trans b1);have eS:=ae (et.trans b1);have eT:=ae (dI.trans b1);obtain⟨cH,br⟩:=aH a3 bs;clear ck ed b1 a0 ai af a8 am aF db aW ar a3;obtain⟨a0,ai,af⟩:=bs.two;clear bs;go_wp2_with(fail);refine((show lB U nk F th from fE.1) G dh aO aU a9 aP (ab+1) (u++[kk (bJ aO ex) 0]) (y++[(ab:Int)]) g B bZ a2 cK cx ch cM cT A2 n2 c2 aT aL bf.2.2.2.1 bf.2.2.2.2.1 dN.o cH.o e0 (by simp only[KF,KO];omega) (by simp only[KF,KO];omega) ad ad ad).mono ?_;rintro e bX ⟨rfl,dG,dn,dM,dX,aM,cO,cX,dc⟩;have dL:=bf.1;rw[dH] at dL;generalize dH th aO aP (u++[kk (bJ aO ex) 0])=p at *;obtain⟨be,eM⟩:=p;obtain⟨⟨gH,cS,eq,_⟩,bd,dd⟩:=dk;simp only[] at cO cX dc cS bd dd dL;have fc:u.length+1<=be.length/\be.length<=u.length+1+2*th.num:=by rw[cS];simp only[KF,KO];omega
  obtain⟨gh,gi⟩:=fc;clear cS eq;have eu:=ae (eS.trans dc);have fm:=ae (eT.trans dc);obtain⟨bD,fz⟩:=br.cO fb dc;obtain⟨a7,dY⟩:=aH bD cX;clear dc cX a0 ai af;obtain⟨a0,ai,af⟩:=bD.two;clear bD;cases b9:el.isNil
  ·
   rw[if_neg (by rw[b9];simp)] at dL;have ge:0<n3:=by have:=ce.el.1;rw[tx,show aA.el (.ite ex th el)=el from rfl] at this;rw[pR] at b9;simp at b9;rw[<-this];exact Nat.pos_of_ne_zero (by simpa using b9)
   have gW:decide ((n3:Int) > 0)=true:=by simpa using ge
   go_wp2_with(fail);refine(g3 dY.o (ej 0) (ab:Int) (ju (is:=[]) (ps:=[]) (Sl.bN _) (Sl.bN _) (KD _) (KD _)) ad ad).mono ?_;rintro e cL ⟨rfl,fC,eJ,eI,eO,dp,dS⟩;have ci:Mv g (.slice dG be.length dn) (.slice dM aM.length dX) bX (.slice fC (be++[ej 0]).length eJ) (.slice eI (aM++[(ab:Int)]).length eO) cL:=by rw[KF,KF];exact dS
   have c7:=ae (eu.trans ci);have fS:=ae (fm.trans ci);obtain⟨b6,gf⟩:=a7.cO fz ci;have T:=ae b6;clear dS ci a0 ai af b6;have dl:=dp;obtain⟨ew,eb,ee,ef,⟨fY,eg⟩,b4⟩:=dl.target (b:=u.length) (by simp only[KF,KO];omega) (((be.length+1:Nat):Int));subst eb;obtain⟨fQ,fr,fq,fT,fB,fA,fP,fp,fo,bB,_⟩:=dp.blk
   try simp only[KF,KO] at bB
   have ei:((u.length:Nat):Int)<(be.length:Int)+1:=ad;obtain⟨dw,fn⟩:=aH b4 dp;clear b4 dl;obtain⟨a8,am,aF⟩:=bB.two;clear bB;go_wp2;refine eK (λ_=>False) [(0,3),(1,3),(2,3),(3,0),(4,3),(5,3),(6,3),(7,3),(8,0),(9,3),(10,3),(11,3),(12,2)] ?_
   iterate 3 refine pf ?_
   refine ph ?_
   iterate 4 refine pf ?_
   refine ph ?_
   iterate 3 refine pf ?_
   exact eP
  ·
   rw[if_pos b9] at dL;have gd:n3=0:=by have:=ce.el.1;rw[tx,show aA.el (.ite ex th el)=el from rfl] at this;rw[pR] at b9;simp at b9;rw[<-this,b9];rfl
   subst gd;have dl:=dY.o;obtain⟨ew,eb,ee,ef,⟨fY,eg⟩,b4⟩:=dl.target (b:=u.length) ad ((be.length:Int));subst eb;obtain⟨fQ,fr,fq,fT,fB,fA,fP,fp,fo,bB,_⟩:=dY.blk
   try simp only[KF,KO,cu] at bB
   have ei:((u.length:Nat):Int)<(be.length:Int):=ad;obtain⟨dw,fn⟩:=aH b4 dY.o;clear b4 dl;obtain⟨a8,am,aF⟩:=bB.two;clear bB;go_wp2;refine eK (λ_=>False) [(0,3),(1,3),(2,3),(3,0),(4,3),(5,3),(6,3),(7,3),(8,0),(9,3),(10,3),(11,3),(12,2)] ?_
   iterate 3 refine pf ?_
   refine ph ?_
   iterate 4 refine pf ?_
   refine ph ?_
   iterate 3 refine pf ?_
   refine ax rfl (λK hK=>?_);go_simp;refine dO hK ?_;clear hK K;refine aE ?_;generalize dm:World.setCell _ _ _=c9;clear a8 am aF ee ef eg ei;obtain⟨dZ,dK⟩:=dw.o c9 dm;have dx:=(eu.trans dK).trans (Mv.g8 (Fr.refl _ c9).drew);have cn:=ah (dZ.ai Ll.drew) (show Mv g (.slice bx code.length bK) (.slice bR sites.length bC) w (.slice (some ⟨ew,0,none⟩) (fX be u.length (be.length:Int)).length dn) (.slice dM aM.length dX) c9.drew by rw[cu];exact dx);clear dZ dK dx dm;have gU:el.num=0:=by cases el<;>simp_all [an.isNil,an.num]
   go_wp2;refine⟨?_,by simp[jm,intOf];omega⟩;unfold iQ
   iterate 240 apply Exists.intro
   refine⟨?_,rfl⟩;unfold oe;obtain⟨_,aw,a4,hS,bF,bj,cf,bH,bI⟩:=bf.o
   exact⟨k+1,rest,aO,aU,a9,eM,ab+1+th.num,fX be u.length (be.length:Int),aM,bZ,a2,cK,some ⟨ew,0,none⟩,dn,dM,dX,by go_num,ad,bA.symm,dL,ad,a4.2.2.2,hS.mono bd,bF,by simp only[cu];omega,by simp only[cu];omega,ad,ad,cn.1,cn.2⟩
 | gv ex th rest=>
  simp only[an.list,List.cons.injEq] at bW;obtain⟨rfl,bA⟩:=bW;have az:aq X wr.heap.size 174 #[.int .i64 8,.string ⟨#[]⟩,.int .i64 eo,.int .i64 en,.string es,.slice EA em ec,.string rs,.slice cc cI rc,.slice bU n1 c1,.slice A2 n2 c2,.slice cC n3 c3]:=bz;clear bz;have c5:=ae az;obtain⟨a0,ai,af⟩:=az.two;clear az;have hd:∃dh,d=dh+1:=by
   exact zu
  obtain⟨dh,hd⟩:=hd;subst hd;have dF:=bf.2.2.1;have ay:=bf.2.2.2.1.fS 2 ex dF.1;have aL:=dF.2.1;have dk:=dR (U:=U) (nk:=nk) th dh aO aU a9 aP (u++[kk (bJ aO ex) 0]) aL bf.2.2.2.1;have e7:=bf.2.2.2.2.2.1;have e9:=bf.2.2.2.2.2.2.2.1;have e8:=bf.2.2.2.2.2.2.2.2;have ff:=bf.2.1;simp only[an.num] at e7 e9 e8 ff;have b5:(bk ex).rep X (av X) [.int .i64 eo,.int .i64 en,.string es,.slice EA em ec]:=D.aL (λ_ h=>h.1) _ _ (D.cO (d:=bk ex) ce.expr dI.o);go_wp2_with(fail);refine(gg aO ex ay g (ab:Int) _ _ _ _ _ _ _ z.L b5).mono ?_;rintro e aS ⟨o1,q1,s1,fi,da,cp,rfl,cg,ar⟩;have db:=z.ai ar;have aW:=h8 z.o cg;clear b5 cg;go_wp2_with(fail);refine(g3 db (kk (bJ aO ex) 0) (ab:Int) (kS aW) ad ad).mono ?_;rintro e aT ⟨rfl,cx,ch,cM,cT,a3,ck⟩;have ed:Mv g (.slice Y u.length ag) (.slice al y.length aG) aS (.slice cx (u++[kk (bJ aO ex) 0]).length ch) (.slice cM (y++[(ab:Int)]).length cT) aT:=by rw[KF,KF];exact ck
  have b1:=(Mv.g8 (g:=g) (cv:=.slice Y u.length ag) (sv:=.slice al y.length aG) ar).trans ed;have fa:¬Ms g (.slice Y u.length ag) (.slice al y.length aG) wr.heap.size:=by
   exact y8
  obtain⟨bs,fb⟩:=c5.cO fa b1;have e0:=Sl.cO (l:=c4 th) ce.th (dI.trans b1);have eS:=ae (et.trans b1);have eT:=ae (dI.trans b1);obtain⟨cH,br⟩:=aH a3 bs;clear ck ed b1 a0 ai af a8 am aF db aW ar a3;obtain⟨a0,ai,af⟩:=bs.two;clear bs;go_wp2_with(fail);refine((show lB U nk F th from fE.1) G dh aO aU a9 aP (ab+1) (u++[kk (bJ aO ex) 0]) (y++[(ab:Int)]) g B bZ a2 cK cx ch cM cT A2 n2 c2 aT aL bf.2.2.2.1 bf.2.2.2.2.1 dN.o cH.o e0 (by simp only[KF,KO];omega) (by simp only[KF,KO];omega) ad ad ad).mono ?_;rintro e bX ⟨rfl,dG,dn,dM,dX,aM,cO,cX,dc⟩;have dL:dH rest aO (dH th aO aP (u++[kk (bJ aO ex) 0])).2 (fX ((dH th aO aP (u++[kk (bJ aO ex) 0])).1++[ej (u.length:Int)]) u.length (((dH th aO aP (u++[kk (bJ aO ex) 0])).1.length+1:Nat):Int))=dH b l n code:=bf.1;generalize dH th aO aP (u++[kk (bJ aO ex) 0])=p at *;obtain⟨be,eM⟩:=p;obtain⟨⟨gH,cS,eq,_⟩,bd,dd⟩:=dk;simp only[] at cO cX dc cS bd dd dL;have fc:u.length+1<=be.length/\be.length<=u.length+1+2*th.num:=by rw[cS];simp only[KF,KO];omega
  obtain⟨gh,gi⟩:=fc;clear cS eq;have eu:=ae (eS.trans dc);have fm:=ae (eT.trans dc);obtain⟨bD,fz⟩:=br.cO fb dc;obtain⟨a7,dY⟩:=aH bD cX;clear dc cX a0 ai af;obtain⟨a0,ai,af⟩:=bD.two;clear bD;go_wp2_with(fail);refine(g3 dY.o (ej (u.length:Int)) (ab:Int) (ju (is:=[]) (ps:=[]) (Sl.bN _) (Sl.bN _) (KD _) (KD _)) ad ad).mono ?_;rintro e cL ⟨rfl,fC,eJ,eI,eO,dp,dS⟩;have ci:Mv g (.slice dG be.length dn) (.slice dM aM.length dX) bX (.slice fC (be++[ej (u.length:Int)]).length eJ) (.slice eI (aM++[(ab:Int)]).length eO) cL:=by rw[KF,KF];exact dS
  have c7:=ae (eu.trans ci);clear dS ci a0 ai af;have dl:=dp;obtain⟨ew,eb,ee,ef,⟨fY,eg⟩,b4⟩:=dl.target (b:=u.length) (by simp only[KF,KO];omega) (((be.length+1:Nat):Int));subst eb;obtain⟨fQ,fr,fq,fT,fB,fA,fP,fp,fo,bB,_⟩:=dp.blk
  try simp only[KF,KO] at bB
  have ei:((u.length:Nat):Int)<(be.length:Int)+1:=ad;obtain⟨dw,fn⟩:=aH b4 dp;clear b4 dl;obtain⟨a8,am,aF⟩:=bB.two;clear bB;go_wp2;refine eK (λ_=>False) [(0,3),(1,3),(2,3),(3,0),(4,3),(5,3),(6,3),(7,3),(8,0),(9,3),(10,3),(11,3),(12,2)] ?_
  iterate 3 refine pf ?_
  refine ph ?_
  iterate 4 refine pf ?_
  refine ph ?_
  iterate 3 refine pf ?_
  refine ax rfl (λK hK=>?_);go_simp;refine dO hK ?_;clear hK K;refine aE ?_;generalize dm:World.setCell _ _ _=c9;clear a8 am aF ee ef eg ei;obtain⟨dZ,dK⟩:=dw.o c9 (by rw[<-dm];simp);have dx:=(c7.trans dK).trans (Mv.g8 (Fr.refl _ c9).drew);have cn:=ah (dZ.ai Ll.drew) (show Mv g (.slice bx code.length bK) (.slice bR sites.length bC) w (.slice (some ⟨ew,0,none⟩) (fX (be++[ej (u.length:Int)]) u.length ((be.length+1:Nat):Int)).length eJ) (.slice eI (aM++[(ab:Int)]).length eO) c9.drew by rw[cu];exact dx);clear dZ dK dx dm;go_wp2;refine⟨?_,by simp[jm,intOf];omega⟩;unfold iQ
  iterate 240 apply Exists.intro
  refine⟨?_,rfl⟩;unfold oe;obtain⟨_,aw,a4,hS,bF,bj,cf,bH,bI⟩:=bf.o
  exact⟨k+1,rest,aO,aU,a9,eM,ab+1+th.num,fX (be++[ej (u.length:Int)]) u.length ((be.length+1:Nat):Int),aM++[(ab:Int)],bZ,a2,cK,some ⟨ew,0,none⟩,eJ,eI,eO,by go_num,ad,bA.symm,dL,ad,a4.2.2,hS.mono bd,bF,by simp only[cu,KF,KO];omega,by simp only[cu,KF,KO];omega,ad,ad,cn.1,cn.2⟩
 | ret rest=>
  simp only[an.list,List.cons.injEq] at bW;obtain⟨rfl,bA⟩:=bW;have az:aq X wr.heap.size 174 #[.int .i64 9,.string ⟨#[]⟩,.int .i64 eo,.int .i64 en,.string es,.slice EA em ec,.string rs,.slice cc cI rc,.slice bU n1 c1,.slice A2 n2 c2,.slice cC n3 c3]:=bz;clear bz;have c5:=ae az;obtain⟨a0,ai,af⟩:=az.two;clear az;go_wp2_with(fail);refine(g3 z.o (ni) (ab:Int) (ju (is:=[]) (ps:=[]) (Sl.bN _) (Sl.bN _) (KD _) (KD _)) ad ad).mono ?_;rintro e aS ⟨rfl,cx,ch,cM,cT,a3,ck⟩;have cn:=ah a3 (et.trans ck);clear a3 ck a0 ai af a8 am aF;go_wp2;refine⟨?_,by simp[jm,intOf];omega⟩;unfold iQ
  iterate 240 apply Exists.intro
  refine⟨?_,rfl⟩;unfold oe;obtain⟨aV,aw,a4,hS,bF,bj,cf,bH,bI⟩:=bf.o;have wf:=(show e4 G d aU a9 rest by cases d<;>exact a4)
  exact⟨k+1,rest,aO,aU,a9,aP,ab+1,u++[ni],y++[(ab:Int)],bZ,a2,cK,cx,ch,cM,cT,by go_num,ad,bA.symm,aV,by simp only[an.num] at aw;omega,wf,hS,bF,by simp only[an.num] at bj;simp only[KF,KO];omega,by simp only[KF,KO];omega,by simp only[an.num] at bH;omega,by simp only[an.num] at bI;omega,cn.1,by rw[KF,KF];exact cn.2⟩
 ):p:=h
end BC
open BC in
theorem He(bl:an):BK bl:=by
 intro ds U nk F b G d l n st code sites g B S ln lc bx bK bR bC A m c w bo cq dN bL eN dU k aO aU a9 aP ab u y bZ a2 cK Y ag al aG wr ak ba aV aw a4 hS bF bj cf bH bI bw hM dq hQ0;intros
 conv=>arg 2;whnf
 have ap:k<=m:=ad;obtain⟨aZ,cr,bc,ev,go,eC,cR,fZ,co,aR,_⟩:=bw.blk;obtain⟨gt,g5,s,cs,rfl,gk,cy,dW,f2,Z⟩:=(bo.cO hM).g0 nh ak;have gm:(bg s).rep wr (av wr) cs:=D.aL (λ_ h=>h.1) _ _ dW;obtain⟨eo,en,es,EA,em,ec,rs,cc,cI,rc,bU,n1,c1,A2,n2,c2,cC,n3,c3,rfl,eL⟩:=k7 dW;exact vf
end Go.Proofs.YtglbpimocmhojaaGreat

/- Part 29 of the proof. No condition of its own. -/
import Derived.Test.YtnhhdaggkiomoaaGreatQ28
namespace Go.Proofs.YtnhhdaggkiomoaaGreat
open Go.RowKit Go.Proofs.Tryz
set_option maxRecDepth 1000000
set_option maxHeartbeats 25600000
set_option linter.unusedVariables false
variable{p:Prop}
namespace BM
theorem dC(h:p:=by
 generalize dm:World.setCell _ _ _=c4;clear a8 am aF ee ef eg ei;obtain⟨dZ,dL⟩:=dx.o c4 (by rw[←dm];simp);have cD:=T.cQ gi dL;have dy:=(cZ.trans dL).trans (Mv.g8 (Fr.refl _ c4).drew);have eZ:=(fU.trans dL).trans (Mv.g8 (Fr.refl _ c4).drew);have gX:=cD.2;have eU:=dZ.ai (Fr.refl (fun _=>False) c4).drew;have a5:=cD.1.ai (Fr.refl (fun _=>False) c4).drew;have cr:(fW (bf++[ej 0]) u.length ((bf.length+1:Nat):Int)).length=bf.length+1:=by rw[cw,KI];rfl
 have fw:=Sl.cQ (l:=c5 el) ce.el eZ;have fh:=bd.2.2.1.2.2.1;obtain⟨gz,gK,gw,fF⟩:=iS dy eZ eU a5;clear dZ dL cD dy eZ dm eU;generalize c4.drew=fn at *;obtain⟨a0,ai,af⟩:=a5.two;clear a5;have fN:=dR (U:=U) (nk:=nk) el cK aO aV a4 eM (fW (bf++[ej 0]) u.length ((bf.length+1:Nat):Int)) fh (bd.2.2.2.1.mono be);go_wp2_with(fail);refine((show lC U nk F el from fG.2) G cK aO aV a4 eM (ab+1+th.num) (fW (bf++[ej 0]) u.length ((bf.length+1:Nat):Int)) (aM++[(ab:Int)]) g B a9 a2 cq (some ⟨ew,0,none⟩) eJ eI eO cC n3 c3 fn fh (bd.2.2.2.1.mono be) bd.2.2.2.2.1 dU.o gw.o (by rw[cw];exact fw) (by rw[cr];omega) (by rw[cr];simp only[KI,KR];omega) ad ad ad).mono ?_;rintro e hg ⟨rfl,g8,fZ,fX,gr,eG,fe,ea,ey⟩;rw[cw] at ey;generalize dI el aO eM (fW (bf++[ej 0]) u.length ((bf.length+1:Nat):Int))=q at *;obtain⟨q1,gG⟩:=q;obtain⟨⟨ih,fQ,gp,_⟩,fA,fz⟩:=fN;simp only[] at fe ea ey fQ fA fz dM;have ep:bf.length+1≤q1.length∧q1.length≤bf.length+1+2*el.num:=by rw[fQ];simp only[KI,cr];omega
 obtain⟨gY,gZ⟩:=ep;have fH:=ae (gz.trans ey);clear fQ gp ey a0 ai af fw;have fx:=ea;obtain⟨fY,f8,gb,gc,⟨hi,gd⟩,ff⟩:=fx.target (b:=bf.length) ad ((q1.length:Int));subst f8;obtain⟨hb,gS,gR,he,g4,g3,g9,gQ,gP,eW,_⟩:=ea.blk
 try simp only[KI,KR,cw] at eW
 have ge:((bf.length:Nat):Int)<(q1.length:Int):=ad;obtain⟨fJ,gL⟩:=aI ff ea;clear ff fx;obtain⟨a8,am,aF⟩:=eW.two;clear eW;go_wp2;refine eK (fun _=>False) [(0,3),(1,3),(2,3),(3,0),(4,3),(5,3),(6,3),(7,3),(8,0),(9,3),(10,3),(11,3),(12,2)] ?_
 iterate 3 refine pf ?_
 refine ph ?_
 iterate 4 refine pf ?_
 refine ph ?_
 iterate 3 refine pf ?_
 refine ax rfl (fun K hK=>?_);go_simp;refine dO hK ?_;clear hK K;refine aE ?_;generalize fy:World.setCell _ _ _=fK;clear a8 am aF gb gc gd ge;obtain⟨f6,fm⟩:=fJ.o fK fy;have dy:=(fH.trans fm).trans (Mv.g8 (Fr.refl _ fK).drew);have ck:=ag (f6.ai Lo.drew) (show Mv g (.slice bx code.length bJ) (.slice bS sites.length bD) w (.slice (some ⟨fY,0,none⟩) (fW q1 bf.length (q1.length:Int)).length fZ) (.slice fX eG.length gr) fK.drew by rw[cw];exact dy);clear f6 fm dy fy;go_wp2;refine⟨?_,by simp[jm,intOf];omega⟩;unfold iQ
 iterate 240 apply Exists.intro
 refine⟨?_,rfl⟩;unfold oi;obtain⟨_,aw,bn,hS,bE,bp,ch,b9,bO⟩:=bd.o;exact⟨k+1,rest,aO,aV,a4,gG,ab+1+th.num+el.num,fW q1 bf.length (q1.length:Int),eG,a9,a2,cq,some ⟨fY,0,none⟩,fZ,fX,gr,by go_num,ad,bA.symm,dM,ad,bn.2.2.2,hS.mono ad,bE,by simp only[cw];omega,by simp only[cw];omega,ad,ad,ck.1,ck.2⟩
 ):p:=h
theorem eQ(h:p:=by
 refine tf ?_;refine b3 ?_;generalize fO:World.setCell _ _ _=gN;obtain⟨_,eY,_⟩:=pM b5 bj aj fO;have eH:=ae eY;clear fO c0 b1 bt b5 bj aj c6;have f2:=cg.ai eY;obtain⟨a0,ai,af⟩:=f2.two;clear eY f2;go_wp2_with(fail);refine(gf aO ex ay g (ab:Int) _ _ _ _ _ _ _ (z.ai eH.o).L (D.on aQ.1 (Fr.ext eH.o))).mono ?_;rintro e aS ⟨o1,q1,s1,fi,da,cM,rfl,ct,ar⟩;have bu:=ae (eH.trans ar);have fI:=ae ct;clear a0 ai af ar ct;go_upto_region 13 with(fail);generalize hV:World.alloc _ _=dQ;have L:=aU hV;have dr:=aG hV;have a3:=z.ai (bu.trans L);obtain⟨h7,hD,hy,ie,hQ,hJ,h2,hr,hk,bI,_⟩:=a3.blk;have di:=ae (bu.trans L);have aW:(bk (bL aO ex)).rep dQ (fresh X dQ) [.int .i64 o1,.int .i64 q1,.string s1,.slice fi da cM]:=
  D.aL (fun b O=>⟨KX eH.size O.1,KH O.2 L.size⟩) _ _ (D.aS (fun b O=>L.block b O.2 fun h=>h) _ _ fI.o)
 have gB:=ae aW;clear hV aW a3;obtain⟨a0,ai,af⟩:=dr.two;obtain⟨a8,am,aF⟩:=bI.two;clear dr bI;go_wp2;refine eK (fun _=>False) [(0,3),(1,3),(2,3),(3,3),(4,0),(5,0),(6,3),(7,3),(8,2)] ?_
 iterate 4 refine pf ?_
 iterate 2 refine ph ?_
 iterate 2 refine pf ?_
 refine ax rfl (fun K hK=>?_);go_simp;have a3:=z.ai di.drew;refine(g1 a3 (ll aP false (bL aO ex)) (ab:Int) (kT (ia z.o (DI gB.o Lo.drew))) ad ad).mono ?_;rintro e df ⟨rfl,cJ,bG,cS,cX,dp,dT⟩;refine dO hK ?_;clear hK K;refine aE ?_;clear a0 ai af a8 am aF a3;have fl:=ae dp;have ca:Mv g (.slice Y u.length ah) (.slice al y.length aH) dQ.drew (.slice cJ (u++[ll aP false (bL aO ex)]).length bG) (.slice cS (y++[(ab:Int)]).length cX) df:=by rw[KI,KI];exact dT
 have gV:a2≤100000:=by have ac:=bd.2.2.2.2.2.2.2.2;rw[←eE,KK];omega
 have cZ:=ae (et.trans ((Mv.g8 di.drew).trans ca));clear ca;have b7:=(cg.ai di.drew).on dT.fr (by
  intro hm;rcases hm with hm|hm|hm
  ·have:=HA.lt;omega
  ·have:=(HA.rows.one.lt hm).2;omega
  ·have:=(HA.rows.two.lt hm).2;omega)
 obtain⟨a0,ai,af⟩:=b7.two;obtain⟨h8,hE,hz,ig,hR,hL,h3,hs,hl,bh,_⟩:=dp.blk;obtain⟨a8,am,aF⟩:=bh.two;have dD:=dp.names.2.mono (fun b (O:off _ df b)=>(show au df b from O.1));obtain⟨cY,dA⟩:∃N,N=df.heap.size:=⟨_,rfl⟩
 have gD:¬cY≤g:=ad;have gE:¬cY≤wr.heap.size:=ad;clear dp dT b7 bh;go_wp2;refine q4 (fun b=>cY≤b) [15,18] (.free 0 (.free 2 (.free 3 (.free 4 (.held 5 (.free 7 (.held 8 (.free 9 (.free 10 (.free 11 (.held 12 (.free 13 (.pick [1,14] (fun i=>bif i == 1 then .pick [6,14] (fun i=>bif i == 6 then .pick [14] (fun _=>.pick [15] (fun _=>.free 16 (.free 17 (.pick [18] (fun _=>.stop))))) else .pick [6] (fun _=>.pick [15] (fun _=>.free 16 (.free 17 (.pick [18] (fun _=>.stop)))))) else .pick [1] (fun _=>.pick [6] (fun _=>.pick [15] (fun _=>.free 16 (.free 17 (.pick [18] (fun _=>.stop)))))))))))))))))))) ?_
 iterate 4 refine tf ?_
 refine mV ?_;refine tf ?_;refine mV ?_
 iterate 3 refine tf ?_
 refine mV ?_;refine tf ?_;clear a0 ai af;refine iM (P:=?oB) (ops:=?Hu) (Q:=?Hw) (R:=?Hy) (tails:=?HI) (rest:=.pick [15] (fun _=>.free 16 (.free 17 (.pick [18] (fun _=>.stop))))) (aa:=?G6)
  (C:=fun(_:Nat) bK A2 bP V=>Ext df V∧Gr (fun _=>False) cY 152 3 V A2 a2 bP (aO.map bZ)∧aq V bK 152 #[.string nm,.int .i64 4,.int .i64 aP]) (fun key=>?wa) ?vY
 case wa=>
  refine aY ?_ ?_
  ·
   refine dP ?_;generalize hV:World.drew (World.alloc _ _)=bz;have e1:=gF hV;have c8:Gr (fun _=>False) cY 152 3 bz (some ⟨df.heap.size,0,none⟩) 0 0 []:=by rw[←hV,dA];exact(Gr.lit (w:=df) (n:=0) (l:=[]) rfl (by rfl) ad (by simp only[D.aQ])).ai Lo.drew
   have eB:=kz (dD.on (Fr.ext e1));clear hV;refine aY ?_ ?_
   ·
    refine aC rfl (fun K hK=>?_) rfl;rw[if_pos (by rfl)];refine jl jd (.tmp 77) (.tmp 81) (by rfl) c8 (kU aO) eE eB (fun h=>by subst h;exact Sl.none_ dD) (by rfl) (by rfl) ad ad (by rw[dA];exact e1.size) ?_;intro A2 bP cQ cd f1 o1 c1;refine dz hK (f1.mono fun b O=>ad) ?_;clear hK K;refine ao ?_;refine dP ?_;have e2:Ext df cQ:=Fr.low (M:=fun b=>df.heap.size≤b) ((e1.mono fun _ h=>h.elim).trans (f1.mono fun b O=>ad)) fun _ h=>h;have F:Ext df (cQ.alloc (.cells #[.string nm,.int .i64 4,.int .i64 aP] 152))∧Gr (fun _=>False) cY 152 3 (cQ.alloc (.cells #[.string nm,.int .i64 4,.int .i64 aP] 152)) A2 a2 bP (aO.map bZ)∧
      aq (cQ.alloc (.cells #[.string nm,.int .i64 4,.int .i64 aP] 152)) cQ.heap.size 152 #[.string nm,.int .i64 4,.int .i64 aP]:=⟨e2.alloc _,cd.ai (Lo.alloc _),Lp⟩
    clear cd c8 f1 o1 e1 e2 eB;revert F;generalize cQ.heap.size=bK;generalize df.heap.size=ds;intro F;exact key ds bK A2 bP _ F
   ·
    refine dP ?_;generalize hV:World.alloc _ _=eR;have e2:=aU hV;have cl:aq eR bz.heap.size 152 #[.string nm,.int .i64 4,.int .i64 aP]:=hV▸Lp;have dF:=kz (dD.on (Fr.ext (e1.trans e2)));clear hV eB;have dK:df.heap.size<bz.heap.size:=(c8.lt (g:=df.heap.size) rfl).2;refine ao ?_;refine aC rfl (fun K hK=>?_) rfl;rw[if_pos (by rfl)];refine jl jd (.tmp 77) (.tmp 81) (by rfl) (c8.ai e2) (kU aO) eE dF (fun h=>by subst h;exact Sl.none_ dD) (by rfl) (by rfl) ad ad (by rw[dA];exact(e1.trans e2).size) ?_;intro A2 bP cQ cd f1 o1 c1;refine dz hK (f1.mono fun b O=>ad) ?_;clear hK K;have e3:Ext df cQ:=Fr.low (M:=fun b=>df.heap.size≤b) (((e1.trans e2).mono fun _ h=>h.elim).trans (f1.mono fun b O=>ad)) fun _ h=>h;have F:Ext df cQ∧Gr (fun _=>False) cY 152 3 cQ A2 a2 bP (aO.map bZ)∧aq cQ bz.heap.size 152 #[.string nm,.int .i64 4,.int .i64 aP]:=⟨e3,cd,cl.on f1 ad⟩
    clear cd c8 f1 o1 e1 e2 e3 dF cl dK;revert F;generalize bz.heap.size=bK;generalize df.heap.size=ds;intro F;exact key ds bK A2 bP _ F
  ·
   refine dP ?_;generalize hV:World.drew (World.alloc _ _)=bz;have e1:=gF hV;have cl:aq bz df.heap.size 152 #[.string nm,.int .i64 4,.int .i64 aP]:=hV▸Lp;clear hV;refine ao ?_;refine dP ?_;generalize hV:World.alloc _ _=eR;have e2:=aU hV;have c8:Gr (fun _=>False) bz.heap.size 152 3 eR (some ⟨bz.heap.size,0,none⟩) 0 0 []:=hV▸Gr.lit (w:=bz) (n:=0) (l:=[]) rfl (by rfl) ad (by simp only[D.aQ]);have dj:=cl.ai e2;have dF:=kz (dD.on (Fr.ext (e1.trans e2)));have dK:df.heap.size<bz.heap.size:=cl.lt;clear hV cl;refine ao ?_;refine aC rfl (fun K hK=>?_) rfl;rw[if_pos (by rfl)];refine jl jd (.tmp 77) (.tmp 81) (by rfl) c8 (kU aO) eE dF (fun h=>by subst h;exact Sl.none_ dD) (by rfl) (by rfl) ad ad e2.size ?_;intro A2 bP cQ cd f1 o1 c1;refine dz hK (f1.mono fun b O=>ad) ?_;clear hK K;have e3:Ext df cQ:=Fr.low (M:=fun b=>df.heap.size≤b) (((e1.trans e2).mono fun _ h=>h.elim).trans (f1.mono fun b O=>ad)) fun _ h=>h;have F:Ext df cQ∧Gr (fun _=>False) cY 152 3 cQ A2 a2 bP (aO.map bZ)∧aq cQ df.heap.size 152 #[.string nm,.int .i64 4,.int .i64 aP]:=⟨e3,cd.base ad,dj.on f1 ad⟩
   clear cd c8 f1 o1 e1 e2 e3 dF dj;revert F;generalize bz.heap.size=ds;generalize df.heap.size=bK;intro F;exact key ds bK A2 bP _ F
 case vY=>
  rintro ds bK A2 bP gM ⟨cH,c9,cl⟩;have eD:=cH.size;have f4:=fl.ai cH;obtain⟨hc,hF,hA,hf,hU,hN,ha,ht,hn,bh,_⟩:=f4.blk;clear a8 am aF f4;refine ao ?_;refine bN rfl (fun K hK=>?_) rfl;rw[if_pos (by rfl)];refine e5 jd (.tmp 82) (.tmp 90) (by rfl) c9 cl (jQ ⟨nm,4,aP⟩) (by rfl) (by rfl) (by rfl) ad ad ad ?_;intro gt cU fn fk f5 gI gO;have cr:Ext df fn:=Fr.low (M:=fun b=>df.heap.size≤b) ((cH.mono fun _ h=>h.elim).trans (f5.mono fun b O=>by have:=(c9.lt O).1;omega)) fun _ h=>h;have a5:=bh.on f5 (fun O=>by have:=(c9.lt O).1;omega);have dw:=ag fk cr;clear fk f5 gI c9 cl bh cH cr eD;obtain⟨a8,am,aF⟩:=a5.two;refine dO hK ?_;clear hK K
  iterate 2 refine tf ?_
  refine ao ?_;refine bN rfl (fun K hK=>?_) rfl;go_simp;refine dO hK ?_;clear hK K;refine b3 ?_;generalize bq:World.setCell _ _ _=gC;have eU:=fl.ai dw.2;have g2:=dw.2.size;obtain⟨ea,ey⟩:=eU.DZ (aO:=aO++[⟨nm,4,aP⟩]) ad (by
   rw[KN];refine dw.1.sl (fun b _ h=>h.elim) fun b ac av=>⟨ac,fun hm=>?_⟩
   rcases hm with hm|hm|hm
   ·omega
   ·have:=(fl.rows.one.lt hm).2;omega
   ·have:=(fl.rows.two.lt hm).2;omega) bq
  have gx:=ae ea;have fH:=ae (cZ.trans ((Mv.g8 dw.2).trans ey));obtain⟨h5,hG,hB,MW,hW,hO,hZ,hu,ho,cm,_⟩:=ea.blk;clear a8 am aF a5 bq eU ea ey dD;obtain⟨a8,am,aF⟩:=cm.two;clear cm;go_upto_region 3 with(fail);generalize e7:World.setCell _ _ _=hh;have hw:wrap64 (aP+1)=aP+1:=IntWalk.wrap64_in _ (by have h0:=bd.2.2.2.1.n0;have ac:=bd.2.2.2.2.2.2.2.1;omega);rw[hw] at e7;obtain⟨fu,fv⟩:=gx.locals e7;have ck:=ag fu (fH.trans fv);clear e7 fu fv a8 am aF;go_wp2;refine⟨?_,by simp[jm,intOf];omega⟩;unfold iQ
  iterate 240 apply Exists.intro
  refine⟨?_,rfl⟩;unfold oi;obtain⟨aX,aw,bn,hS,bE,bp,ch,b9,bO⟩:=bd.o;have wf:=(show e4 G d (aV++[nm]) (a4++[nm]) rest by cases d<;>exact bn.2.2.2)
  exact⟨k+1,rest,aO++[⟨nm,4,aP⟩],aV++[nm],a4++[nm],aP+1,ab+1,u++[ll aP false (bL aO ex)],y++[(ab:Int)],gt,(a2+1),cU,cJ,bG,cS,cX,by go_num,ad,bA.symm,(show dI rest (aO++[⟨nm,4,aP⟩]) (aP+1) (u++[ll aP false (bL aO ex)])=dI b l n code from aX),by simp only[an.num] at aw;omega,wf,hS.add er.1,bE.app _,by simp only[an.num] at bp;simp only[KI,KR];omega,by simp only[KI,KR];omega,by simp only[an.num] at b9;omega,by simp only[an.num] at bO;simp only[KI,KR];omega,ck.1,ck.2⟩
 ):p:=h
theorem vy(h:p:=by
 refine(dV a9 a2 cq aO nm V.drew (c6.on (Fr.ext bj.drew)) dt).mono ?_;rintro e aS ⟨rfl,ar⟩;rw[a6];simp only[iU];refine dO hK ?_;clear hK K
 iterate 3 refine tf ?_
 have cE:=aR.ai (Fr.aF ar);have aN:=bj.trans (Fr.aF ar);clear aR bj ar;exact key X.heap.size aS ⟨aN,cE,KG _⟩
 ):p:=h
theorem Al(h:p:=by
 refine la (P:=?JD) (ops:=?JM) (Q:=?JN) (R:=?JO) (tails:=?JP) (rest:=.pick [11] (fun _=>.free 12 (.stop))) (aa:=?JE) (C:=fun db V=>Ext X V∧aq V db 152 #[.string ⟨#[]⟩,.int .i64 0,.int .i64 0]∧X.heap.size≤db) (fun key=>?Ix) ?Ir
 case Ix=>
  refine aY ?_ ?_
  ·
   refine bN rfl (fun K hK=>?_) rfl;go_simp;refine(dV a9 a2 cq aO nm X.drew (c6.on (Fr.ext Lo.drew)) dt).mono ?_;rintro e aS ⟨rfl,ar⟩;rw[a6];simp only[iU];refine dO hK ?_;clear hK K
   iterate 3 refine tf ?_
   refine ao ?_;refine dP ?_;generalize hV:World.alloc _ _=V;have aR:=aG hV;have bj:Ext X V:=hV▸(Fr.aF ar).alloc _;exact Da
  ·
   exact vx
 case Ir=>
  rintro db V ⟨bj,b5,aj⟩;obtain⟨c0,b1,bt⟩:=b5.two;clear a0 ai af a8 am aF;exact fj
 ):p:=h
theorem vn(h:p:=by
 have gn:gu<wr.heap.size:=gm.1;have bR:=KJ co;have bM:bl.list=s::b.list.drop (k+1):=ba▸(List.drop_eq_getElem?_toList_append▸(by rw[co];rfl));obtain⟨a8,am,aF⟩:=aR.two;obtain⟨HA,cR,ce⟩:=eh bw hM eL;have fG:=ae (cp.o s bR);clear aR bw hM dv go Z gm eL eX;have dg:¬gu=wr.heap.size:=ad;have cF:¬g=wr.heap.size:=ad;go_wp2;refine eK (fun b=>b=wr.heap.size) [(0,3),(1,3),(2,3),(3,0),(4,3),(5,3),(6,3),(7,0),(8,1),(9,1),(10,3)] ?_
 iterate 3 refine pf ?_
 refine ow ?_
 iterate 3 refine pf ?_
 refine ow ?_;refine q0 ?_;refine aJ rfl (fun K hK=>?_);go_simp;generalize hV:World.drew (World.alloc _ _)=V;have L:=gF hV;have f7:aq V wr.heap.size 180 #[.int .i64 s.kind,.string s.name,.int .i64 eo,.int .i64 en,.string es,.slice EA em ec,.string rs,.slice cc c7 rc,.slice bY n1 c1,.slice A2 n2 c2,.slice cC n3 c3]:=hV▸(Lp).drew;refine dz hK (Hk (Lo.alloc _).drew L (by simp) (by rw[←hV];simp)) ?_;clear hK K;refine pf ?_;refine aE ?_;have fT:=ae f7;have fL:=HA.ai L;have f9:=cR.trans (Mv.g8 L);obtain⟨h4,bB,bQ,h9,dh,cj,hY,hp,hT,b5,_⟩:=fL.blk;obtain⟨cn,gy,gA⟩:=eh L fL f9;clear hV L a8 am aF d0 d1 d2 d3 d4 d5 d6 d7 d8 d9 d10 dg cF gn fL f9 f7;obtain⟨a8,am,aF⟩:=b5.two;clear b5;go_upto_region 6 with(fail);generalize hX:World.setCell _ _ _=X;obtain⟨eV,dW⟩:=gy.stmt (X:=X) (by rw[←hX,Int.natCast_add];rfl);have b8:=cL hX;have bo:=fT.on b8 (aD HA.lt);have br:Ext wr V:=cn.o;have z:=ae eV;have et:=ae (gA.trans dW);have dJ:=ae ((Mv.g8 br).trans dW);have gT:u.length≤100000:=ad;have g0:=ch;have bd:=xd aX aw bn hS bE bp ch b9 bO;obtain⟨h6,hC,hv,ib,hP,hH,h1,hq,hj,cz,_⟩:=eV.blk;have gs:=cz.lt;clear hX b8 a8 am aF eV dW br aX aw bn hS bE fT;obtain⟨a8,am,aF⟩:=cz.two;clear cz
 cases bl with
 | nil=>simp[an.list] at bM
 | set bv nm ex rest=>
  cases bv
  ·
   simp only[an.list,List.cons.injEq] at bM;obtain⟨rfl,bA⟩:=bM;have az:aq X wr.heap.size 180 #[.int .i64 2,.string nm,.int .i64 eo,.int .i64 en,.string es,.slice EA em ec,.string rs,.slice cc c7 rc,.slice bY n1 c1,.slice A2 n2 c2,.slice cC n3 c3]:=bo;clear bo;have cg:=ae az;obtain⟨a0,ai,af⟩:=az.two;clear az;have er:=(show nm∈aV∧ex.src aV 2 by have:=bd.2.2.1;cases d<;>exact⟨this.1,this.2.1⟩)
   obtain⟨v,J,cf⟩:=bd.2.2.2.1.vars nm er.1;have bX:v.kind=1∨v.kind=4:=cf.imp (fun h=>h.1) (fun h=>h.1);have ay:=bd.2.2.2.1.fR 2 ex er.2;have ez:jh aO nm=v.n:=by simp[jh,J]
   have fP:tH aO nm=v.kind:=by simp[tH,J]
   have bU:(bk ex).rep X (au X) [.int .i64 eo,.int .i64 en,.string es,.slice EA em ec]:=D.aL (fun _ h=>h.1) _ _ (D.cQ (d:=bk ex) ce.expr dJ.o);have aQ:=ag bU ay;clear bU cf;go_wp2_with(fail);refine(mX g aO nm v J bX (ab:Int) X z.L).mono ?_;rintro e aS ⟨rfl,ar⟩;simp only[qY];go_upto_region 18 with(fail);generalize hV:World.alloc _ _=dQ;have L:Ext X dQ:=hV▸ar.alloc _;have dr:=aG hV;have bs:=cg.ai L;have di:=ae L;clear hV a0 ai af a8 am aF ar L;obtain⟨a0,ai,af⟩:=bs.two;obtain⟨a8,am,aF⟩:=dr.two;clear dr bs;go_wp2;refine eK (fun _=>False) [(0,3),(1,3),(2,0),(3,3),(4,0),(5,3),(6,3),(7,3),(8,0),(9,3),(12,3),(10,1),(11,3),(13,2)] ?_
   iterate 2 refine pf ?_
   refine ph ?_;refine pf ?_;refine ph ?_
   iterate 3 refine pf ?_
   refine ph ?_
   iterate 2 refine pf ?_
   refine aJ rfl (fun K hK=>?_);go_simp;refine(gf aO ex ay g (ab:Int) _ _ _ _ _ _ _ (z.ai di.drew).L (D.on aQ.1 (Fr.ext di.drew))).mono ?_;rintro e b6 ⟨o1,q1,s1,fi,da,cM,rfl,ct,bV⟩;refine dz hK (bV) ?_;clear hK K;refine pf ?_;refine ax rfl (fun K hK=>?_);go_simp;have du:Ext X b6:=di.trans (Fr.aF bV);have cx:=z.ai du;refine(g1 cx (ll v.n (v.kind == 1) (bL aO ex)) (ab:Int) (kT (ia z.o (vQ ct di.size))) ad ad).mono ?_;rintro e aT ⟨rfl,cJ,bG,cS,cX,a3,ci⟩;refine dO hK ?_;clear hK K;refine aE ?_;have ck:=ag a3 ((et.trans (Mv.g8 du)).trans ci);clear a3 ci a0 ai af a8 am aF cx ct bV du;go_wp2;refine⟨?_,by simp[jm,intOf];omega⟩;unfold iQ
   iterate 240 apply Exists.intro
   refine⟨?_,rfl⟩;unfold oi;obtain⟨aX,aw,bn,hS,bE,bp,ch,b9,bO⟩:=bd.o;have wf:=(show e4 G d aV a4 rest by cases d<;>exact bn.2.2)
   exact⟨k+1,rest,aO,aV,a4,aP,ab+1,u++[ll v.n (v.kind == 1) (bL aO ex)],y++[(ab:Int)],a9,a2,cq,cJ,bG,cS,cX,by go_num,ad,bA.symm,(by rw[←ez,←fP];exact aX),by simp only[an.num] at aw;omega,wf,hS,bE,by simp only[an.num] at bp;simp only[KI,KR];omega,by simp only[KI,KR];omega,by simp only[an.num] at b9;omega,by simp only[an.num] at bO;omega,ck.1,by rw[KI,KI];exact ck.2⟩
  ·
   simp only[an.list,List.cons.injEq] at bM;obtain⟨rfl,bA⟩:=bM;have az:aq X wr.heap.size 180 #[.int .i64 1,.string nm,.int .i64 eo,.int .i64 en,.string es,.slice EA em ec,.string rs,.slice cc c7 rc,.slice bY n1 c1,.slice A2 n2 c2,.slice cC n3 c3]:=bo;clear bo;have cg:=ae az;obtain⟨a0,ai,af⟩:=az.two;clear az;have er:=(show nm∉a4∧ex.src aV 2 by have:=bd.2.2.1;cases d<;>exact⟨this.2.1,this.2.2.1⟩)
   have a6:dB aO nm=none:=jR fun j x bi hx=>er.1 (hx▸bd.2.2.2.1.taken x (KJ bi));have ay:=bd.2.2.2.1.fR 2 ex er.2;have bU:(bk ex).rep X (au X) [.int .i64 eo,.int .i64 en,.string es,.slice EA em ec]:=D.aL (fun _ h=>h.1) _ _ (D.cQ (d:=bk ex) ce.expr dJ.o);obtain⟨dt,ek⟩:=z.names;have c6:=ek.mono (fun b (O:off _ X b)=>(show au X b from O.1));have aQ:=aB bU c6 ay;have eE:(aO.map bZ).length=a2:=c6.1;clear bU ek;go_upto_region 9 with(fail)
   exact Ak
 | call bb nm a1 rest=>
  cases bb
  case' false=>let bb:=false
  case' true=>let bb:=true
  all_goals
   simp only[an.list,List.cons.injEq] at bM;obtain⟨rfl,bA⟩:=bM;have az:aq X wr.heap.size 180 #[.int .i64 _,.string nm,.int .i64 eo,.int .i64 en,.string es,.slice EA em ec,.string rs,.slice cc c7 rc,.slice bY n1 c1,.slice A2 n2 c2,.slice cC n3 c3]:=bo;clear bo;have cg:=ae az;obtain⟨a0,ai,af⟩:=az.two;clear az;have er:=(show ∃ps,(nm,ps)∈G.funcs∧iN G aV ps a1 by have:=bd.2.2.1;cases d<;>exact this.1)
   obtain⟨ps,cA,aK⟩:=er;obtain⟨v,f,J,eA,h0,fM,rfl⟩:=bd.2.2.2.2.1 nm ps cA;have ga:=bd.2.2.2.1.je _ _ aK;have ez:jh aO nm=v.n:=by simp[jh,J]
   have cW:=dU.o f (KJ fM);have dE:Sl X (au X) bY n1 (a1.map gH):=(Sl.cQ (l:=a1.map gH) ce.args dJ.o).mono (fun _ h=>h.1);go_wp2_with(fail);refine(Dp dN g aO U.af F bb nm a1 v f J eA h0 fM ga cW eo en es EA em ec rs cc c7 rc bY n1 c1 A2 n2 c2 cC n3 c3 (ab:Int) _ z.L z.M_ z.F_ dE).mono ?_;rintro e aS ⟨IA,i,ic,KA,j,kc,rfl,ct,ar⟩;have dc:=z.ai ar;have aW:=ia z.o ct;clear dE ga ct;go_wp2_with(fail);refine(g1 dc (lu bb v.n (bT aO a1) (cB aO a1)) (ab:Int) (aW) ad ad).mono ?_;rintro e aT ⟨rfl,cJ,bG,cS,cX,a3,ci⟩;have ck:=ag a3 ((et.trans (Mv.g8 ar)).trans ci);clear a3 ci a0 ai af a8 am aF dc aW ar cA aK J eA h0 fM cW;go_wp2;refine⟨?_,by simp[jm,intOf];omega⟩;unfold iQ
   iterate 240 apply Exists.intro
   refine⟨?_,rfl⟩;unfold oi;obtain⟨aX,aw,bn,hS,bE,bp,ch,b9,bO⟩:=bd.o;have wf:=(show e4 G d aV a4 rest by cases d<;>exact bn.2)
   exact⟨k+1,rest,aO,aV,a4,aP,ab+1,u++[lu bb v.n (bT aO a1) (cB aO a1)],y++[(ab:Int)],a9,a2,cq,cJ,bG,cS,cX,by go_num,ad,bA.symm,(by rw[←ez];exact aX),by simp only[an.num] at aw;omega,wf,hS,bE,by simp only[an.num] at bp;simp only[KI,KR];omega,by simp only[KI,KR];omega,by simp only[an.num] at b9;omega,by simp only[an.num] at bO;omega,ck.1,by rw[KI,KI];exact ck.2⟩
 | lock bb r rest=>
  cases bb
  case' false=>let bb:=false
  case' true=>let bb:=true
  all_goals
   simp only[an.list,List.cons.injEq] at bM;obtain⟨rfl,bA⟩:=bM;have az:aq X wr.heap.size 180 #[.int .i64 _,.string ⟨#[]⟩,.int .i64 eo,.int .i64 en,.string es,.slice EA em ec,.string rs,.slice cc c7 rc,.slice bY n1 c1,.slice A2 n2 c2,.slice cC n3 c3]:=bo;clear bo;have cg:=ae az;obtain⟨a0,ai,af⟩:=az.two;clear az;have eF:=(show rX G aV r by have:=bd.2.2.1;cases d<;>exact this.1)
   have gl:=bd.2.2.2.1.qq r eF;have bU:(ky r).rep X (au X) [.string rs,.slice cc c7 rc]:=D.aL (fun _ h=>h.1) _ _ (D.cQ (d:=ky r) ce.ref dJ.o);go_wp2_with(fail);refine(dN g aO U.af r gl (ab:Int) rs cc c7 rc _ z.L z.M_ bU).mono ?_;rintro e aS ⟨g6,g7,cO,cG,cV,rfl,ct,ar⟩;have dc:=z.ai ar;have aW:=ia z.o ct;clear bU gl ct;go_wp2_with(fail);refine(g1 dc (pS bb (l6 aO r)) (ab:Int) (vM aW) ad ad).mono ?_;rintro e aT ⟨rfl,cJ,bG,cS,cX,a3,ci⟩;have ck:=ag a3 ((et.trans (Mv.g8 ar)).trans ci);clear a3 ci a0 ai af a8 am aF dc aW ar eF;go_wp2;refine⟨?_,by simp[jm,intOf];omega⟩;unfold iQ
   iterate 240 apply Exists.intro
   refine⟨?_,rfl⟩;unfold oi;obtain⟨aX,aw,bn,hS,bE,bp,ch,b9,bO⟩:=bd.o;have wf:=(show e4 G d aV a4 rest by cases d<;>exact bn.2)
   exact⟨k+1,rest,aO,aV,a4,aP,ab+1,u++[pS bb (l6 aO r)],y++[(ab:Int)],a9,a2,cq,cJ,bG,cS,cX,by go_num,ad,bA.symm,aX,by simp only[an.num] at aw;omega,wf,hS,bE,by simp only[an.num] at bp;simp only[KI,KR];omega,by simp only[KI,KR];omega,by simp only[an.num] at b9;omega,by simp only[an.num] at bO;omega,ck.1,by rw[KI,KI];exact ck.2⟩
 | ite ex th el rest=>
  simp only[an.list,List.cons.injEq] at bM;obtain⟨rfl,bA⟩:=bM;have az:aq X wr.heap.size 180 #[.int .i64 7,.string ⟨#[]⟩,.int .i64 eo,.int .i64 en,.string es,.slice EA em ec,.string rs,.slice cc c7 rc,.slice bY n1 c1,.slice A2 n2 c2,.slice cC n3 c3]:=bo;clear bo;have cg:=ae az;obtain⟨a0,ai,af⟩:=az.two;clear az;have hd:∃cK,d=cK+1:=by
   exact zD
  obtain⟨cK,hd⟩:=hd;subst hd;have dG:=bd.2.2.1;have ay:=bd.2.2.2.1.fR 2 ex dG.1;have aL:=dG.2.1;have dk:=dR (U:=U) (nk:=nk) th cK aO aV a4 aP (u++[kk (bL aO ex) 0]) aL bd.2.2.2.1;have e8:=bd.2.2.2.2.2.1;have fa:=bd.2.2.2.2.2.2.2.1;have e9:=bd.2.2.2.2.2.2.2.2;have fg:=bd.2.1;simp only[an.num] at e8 fa e9 fg;have bU:(bk ex).rep X (au X) [.int .i64 eo,.int .i64 en,.string es,.slice EA em ec]:=D.aL (fun _ h=>h.1) _ _ (D.cQ (d:=bk ex) ce.expr dJ.o);go_wp2_with(fail);refine(gf aO ex ay g (ab:Int) _ _ _ _ _ _ _ z.L bU).mono ?_;rintro e aS ⟨o1,q1,s1,fi,da,cM,rfl,ct,ar⟩;have dc:=z.ai ar;have aW:=ia z.o ct;clear bU ct;go_wp2_with(fail);refine(g1 dc (kk (bL aO ex) 0) (ab:Int) (kT aW) ad ad).mono ?_;rintro e aT ⟨rfl,cJ,bG,cS,cX,a3,ci⟩;have ed:Mv g (.slice Y u.length ah) (.slice al y.length aH) aS (.slice cJ (u++[kk (bL aO ex) 0]).length bG) (.slice cS (y++[(ab:Int)]).length cX) aT:=by rw[KI,KI];exact ci
  have b2:=(Mv.g8 (g:=g) (cv:=.slice Y u.length ah) (sv:=.slice al y.length aH) ar).trans ed;have fb:¬Ms g (.slice Y u.length ah) (.slice al y.length aH) wr.heap.size:=by
   exact zh
  obtain⟨bs,fc⟩:=cg.cQ fb b2;have e6:=Sl.cQ (l:=c5 th) ce.th (dJ.trans b2);have eS:=ae (et.trans b2);have eT:=ae (dJ.trans b2);obtain⟨bW,cb⟩:=aI a3 bs;clear ci ed b2 a0 ai af a8 am aF dc aW ar a3;obtain⟨a0,ai,af⟩:=bs.two;clear bs;go_wp2_with(fail);refine((show lC U nk F th from fG.1) G cK aO aV a4 aP (ab+1) (u++[kk (bL aO ex) 0]) (y++[(ab:Int)]) g B a9 a2 cq cJ bG cS cX A2 n2 c2 aT aL bd.2.2.2.1 bd.2.2.2.2.1 dU.o bW.o e6 (by simp only[KI,KR];omega) (by simp only[KI,KR];omega) ad ad ad).mono ?_;rintro e b6 ⟨rfl,dH,dn,dS,dX,aM,cP,cx,dd⟩;have dM:=bd.1;rw[dI] at dM;generalize dI th aO aP (u++[kk (bL aO ex) 0])=p at *;obtain⟨bf,eM⟩:=p;obtain⟨⟨gJ,cI,eq,_⟩,be,de⟩:=dk;simp only[] at cP cx dd cI be de dM;have fd:u.length+1≤bf.length∧bf.length≤u.length+1+2*th.num:=by rw[cI];simp only[KI,KR];omega
  obtain⟨gj,gk⟩:=fd;clear cI eq;have eu:=ae (eS.trans dd);have fo:=ae (eT.trans dd);obtain⟨bF,fB⟩:=cb.cQ fc dd;obtain⟨a7,dY⟩:=aI bF cx;clear dd cx a0 ai af;obtain⟨a0,ai,af⟩:=bF.two;clear bF;cases b0:el.isNil
  ·
   rw[if_neg (by rw[b0];simp)] at dM;have gh:0<n3:=by have:=ce.el.1;rw[tC,show aA.el (.ite ex th el)=el from rfl] at this;rw[pV] at b0;simp at b0;rw[←this];exact Nat.pos_of_ne_zero (by simpa using b0)
   have gW:decide ((n3:Int) > 0)=true:=by simpa using gh
   go_wp2_with(fail);refine(g1 dY.o (ej 0) (ab:Int) (ju (is:=[]) (ps:=[]) (Sl.bO _) (Sl.bO _) (KG _) (KG _)) ad ad).mono ?_;rintro e cN ⟨rfl,fE,eJ,eI,eO,dp,dT⟩;have ca:Mv g (.slice dH bf.length dn) (.slice dS aM.length dX) b6 (.slice fE (bf++[ej 0]).length eJ) (.slice eI (aM++[(ab:Int)]).length eO) cN:=by rw[KI,KI];exact dT
   have cZ:=ae (eu.trans ca);have fU:=ae (fo.trans ca);obtain⟨b7,gi⟩:=a7.cQ fB ca;have T:=ae b7;clear dT ca a0 ai af b7;have dl:=dp;obtain⟨ew,eb,ee,ef,⟨f0,eg⟩,b4⟩:=dl.target (b:=u.length) (by simp only[KI,KR];omega) (((bf.length+1:Nat):Int));subst eb;obtain⟨fS,ft,fs,fV,fD,fC,fR,fr,fq,bC,_⟩:=dp.blk
   try simp only[KI,KR] at bC
   have ei:((u.length:Nat):Int)<(bf.length:Int)+1:=ad;obtain⟨dx,fp⟩:=aI b4 dp;clear b4 dl;obtain⟨a8,am,aF⟩:=bC.two;clear bC;go_wp2;refine eK (fun _=>False) [(0,3),(1,3),(2,3),(3,0),(4,3),(5,3),(6,3),(7,3),(8,0),(9,3),(10,3),(11,3),(12,2)] ?_
   iterate 3 refine pf ?_
   refine ph ?_
   iterate 4 refine pf ?_
   refine ph ?_
   iterate 3 refine pf ?_
   exact eP
  ·
   rw[if_pos b0] at dM;have gg:n3=0:=by have:=ce.el.1;rw[tC,show aA.el (.ite ex th el)=el from rfl] at this;rw[pV] at b0;simp at b0;rw[←this,b0];rfl
   subst gg;have dl:=dY.o;obtain⟨ew,eb,ee,ef,⟨f0,eg⟩,b4⟩:=dl.target (b:=u.length) ad ((bf.length:Int));subst eb;obtain⟨fS,ft,fs,fV,fD,fC,fR,fr,fq,bC,_⟩:=dY.blk
   try simp only[KI,KR,cw] at bC
   have ei:((u.length:Nat):Int)<(bf.length:Int):=ad;obtain⟨dx,fp⟩:=aI b4 dY.o;clear b4 dl;obtain⟨a8,am,aF⟩:=bC.two;clear bC;go_wp2;refine eK (fun _=>False) [(0,3),(1,3),(2,3),(3,0),(4,3),(5,3),(6,3),(7,3),(8,0),(9,3),(10,3),(11,3),(12,2)] ?_
   iterate 3 refine pf ?_
   refine ph ?_
   iterate 4 refine pf ?_
   refine ph ?_
   iterate 3 refine pf ?_
   refine ax rfl (fun K hK=>?_);go_simp;refine dO hK ?_;clear hK K;refine aE ?_;generalize dm:World.setCell _ _ _=c4;clear a8 am aF ee ef eg ei;obtain⟨dZ,dL⟩:=dx.o c4 dm;have dy:=(eu.trans dL).trans (Mv.g8 (Fr.refl _ c4).drew);have ck:=ag (dZ.ai Lo.drew) (show Mv g (.slice bx code.length bJ) (.slice bS sites.length bD) w (.slice (some ⟨ew,0,none⟩) (fW bf u.length (bf.length:Int)).length dn) (.slice dS aM.length dX) c4.drew by rw[cw];exact dy);clear dZ dL dy dm;have gU:el.num=0:=by cases el<;>simp_all [an.isNil,an.num]
   go_wp2;refine⟨?_,by simp[jm,intOf];omega⟩;unfold iQ
   iterate 240 apply Exists.intro
   refine⟨?_,rfl⟩;unfold oi;obtain⟨_,aw,bn,hS,bE,bp,ch,b9,bO⟩:=bd.o
   exact⟨k+1,rest,aO,aV,a4,eM,ab+1+th.num,fW bf u.length (bf.length:Int),aM,a9,a2,cq,some ⟨ew,0,none⟩,dn,dS,dX,by go_num,ad,bA.symm,dM,ad,bn.2.2.2,hS.mono be,bE,by simp only[cw];omega,by simp only[cw];omega,ad,ad,ck.1,ck.2⟩
 | gv ex th rest=>
  simp only[an.list,List.cons.injEq] at bM;obtain⟨rfl,bA⟩:=bM;have az:aq X wr.heap.size 180 #[.int .i64 8,.string ⟨#[]⟩,.int .i64 eo,.int .i64 en,.string es,.slice EA em ec,.string rs,.slice cc c7 rc,.slice bY n1 c1,.slice A2 n2 c2,.slice cC n3 c3]:=bo;clear bo;have cg:=ae az;obtain⟨a0,ai,af⟩:=az.two;clear az;have hd:∃cK,d=cK+1:=by
   exact zD
  obtain⟨cK,hd⟩:=hd;subst hd;have dG:=bd.2.2.1;have ay:=bd.2.2.2.1.fR 2 ex dG.1;have aL:=dG.2.1;have dk:=dR (U:=U) (nk:=nk) th cK aO aV a4 aP (u++[kk (bL aO ex) 0]) aL bd.2.2.2.1;have e8:=bd.2.2.2.2.2.1;have fa:=bd.2.2.2.2.2.2.2.1;have e9:=bd.2.2.2.2.2.2.2.2;have fg:=bd.2.1;simp only[an.num] at e8 fa e9 fg;have bU:(bk ex).rep X (au X) [.int .i64 eo,.int .i64 en,.string es,.slice EA em ec]:=D.aL (fun _ h=>h.1) _ _ (D.cQ (d:=bk ex) ce.expr dJ.o);go_wp2_with(fail);refine(gf aO ex ay g (ab:Int) _ _ _ _ _ _ _ z.L bU).mono ?_;rintro e aS ⟨o1,q1,s1,fi,da,cM,rfl,ct,ar⟩;have dc:=z.ai ar;have aW:=ia z.o ct;clear bU ct;go_wp2_with(fail);refine(g1 dc (kk (bL aO ex) 0) (ab:Int) (kT aW) ad ad).mono ?_;rintro e aT ⟨rfl,cJ,bG,cS,cX,a3,ci⟩;have ed:Mv g (.slice Y u.length ah) (.slice al y.length aH) aS (.slice cJ (u++[kk (bL aO ex) 0]).length bG) (.slice cS (y++[(ab:Int)]).length cX) aT:=by rw[KI,KI];exact ci
  have b2:=(Mv.g8 (g:=g) (cv:=.slice Y u.length ah) (sv:=.slice al y.length aH) ar).trans ed;have fb:¬Ms g (.slice Y u.length ah) (.slice al y.length aH) wr.heap.size:=by
   exact zh
  obtain⟨bs,fc⟩:=cg.cQ fb b2;have e6:=Sl.cQ (l:=c5 th) ce.th (dJ.trans b2);have eS:=ae (et.trans b2);have eT:=ae (dJ.trans b2);obtain⟨bW,cb⟩:=aI a3 bs;clear ci ed b2 a0 ai af a8 am aF dc aW ar a3;obtain⟨a0,ai,af⟩:=bs.two;clear bs;go_wp2_with(fail);refine((show lC U nk F th from fG.1) G cK aO aV a4 aP (ab+1) (u++[kk (bL aO ex) 0]) (y++[(ab:Int)]) g B a9 a2 cq cJ bG cS cX A2 n2 c2 aT aL bd.2.2.2.1 bd.2.2.2.2.1 dU.o bW.o e6 (by simp only[KI,KR];omega) (by simp only[KI,KR];omega) ad ad ad).mono ?_;rintro e b6 ⟨rfl,dH,dn,dS,dX,aM,cP,cx,dd⟩;have dM:dI rest aO (dI th aO aP (u++[kk (bL aO ex) 0])).2 (fW ((dI th aO aP (u++[kk (bL aO ex) 0])).1++[ej (u.length:Int)]) u.length (((dI th aO aP (u++[kk (bL aO ex) 0])).1.length+1:Nat):Int))=dI b l n code:=bd.1;generalize dI th aO aP (u++[kk (bL aO ex) 0])=p at *;obtain⟨bf,eM⟩:=p;obtain⟨⟨gJ,cI,eq,_⟩,be,de⟩:=dk;simp only[] at cP cx dd cI be de dM;have fd:u.length+1≤bf.length∧bf.length≤u.length+1+2*th.num:=by rw[cI];simp only[KI,KR];omega
  obtain⟨gj,gk⟩:=fd;clear cI eq;have eu:=ae (eS.trans dd);have fo:=ae (eT.trans dd);obtain⟨bF,fB⟩:=cb.cQ fc dd;obtain⟨a7,dY⟩:=aI bF cx;clear dd cx a0 ai af;obtain⟨a0,ai,af⟩:=bF.two;clear bF;go_wp2_with(fail);refine(g1 dY.o (ej (u.length:Int)) (ab:Int) (ju (is:=[]) (ps:=[]) (Sl.bO _) (Sl.bO _) (KG _) (KG _)) ad ad).mono ?_;rintro e cN ⟨rfl,fE,eJ,eI,eO,dp,dT⟩;have ca:Mv g (.slice dH bf.length dn) (.slice dS aM.length dX) b6 (.slice fE (bf++[ej (u.length:Int)]).length eJ) (.slice eI (aM++[(ab:Int)]).length eO) cN:=by rw[KI,KI];exact dT
  have cZ:=ae (eu.trans ca);clear dT ca a0 ai af;have dl:=dp;obtain⟨ew,eb,ee,ef,⟨f0,eg⟩,b4⟩:=dl.target (b:=u.length) (by simp only[KI,KR];omega) (((bf.length+1:Nat):Int));subst eb;obtain⟨fS,ft,fs,fV,fD,fC,fR,fr,fq,bC,_⟩:=dp.blk
  try simp only[KI,KR] at bC
  have ei:((u.length:Nat):Int)<(bf.length:Int)+1:=ad;obtain⟨dx,fp⟩:=aI b4 dp;clear b4 dl;obtain⟨a8,am,aF⟩:=bC.two;clear bC;go_wp2;refine eK (fun _=>False) [(0,3),(1,3),(2,3),(3,0),(4,3),(5,3),(6,3),(7,3),(8,0),(9,3),(10,3),(11,3),(12,2)] ?_
  iterate 3 refine pf ?_
  refine ph ?_
  iterate 4 refine pf ?_
  refine ph ?_
  iterate 3 refine pf ?_
  refine ax rfl (fun K hK=>?_);go_simp;refine dO hK ?_;clear hK K;refine aE ?_;generalize dm:World.setCell _ _ _=c4;clear a8 am aF ee ef eg ei;obtain⟨dZ,dL⟩:=dx.o c4 (by rw[←dm];simp);have dy:=(cZ.trans dL).trans (Mv.g8 (Fr.refl _ c4).drew);have ck:=ag (dZ.ai Lo.drew) (show Mv g (.slice bx code.length bJ) (.slice bS sites.length bD) w (.slice (some ⟨ew,0,none⟩) (fW (bf++[ej (u.length:Int)]) u.length ((bf.length+1:Nat):Int)).length eJ) (.slice eI (aM++[(ab:Int)]).length eO) c4.drew by rw[cw];exact dy);clear dZ dL dy dm;go_wp2;refine⟨?_,by simp[jm,intOf];omega⟩;unfold iQ
  iterate 240 apply Exists.intro
  refine⟨?_,rfl⟩;unfold oi;obtain⟨_,aw,bn,hS,bE,bp,ch,b9,bO⟩:=bd.o
  exact⟨k+1,rest,aO,aV,a4,eM,ab+1+th.num,fW (bf++[ej (u.length:Int)]) u.length ((bf.length+1:Nat):Int),aM++[(ab:Int)],a9,a2,cq,some ⟨ew,0,none⟩,eJ,eI,eO,by go_num,ad,bA.symm,dM,ad,bn.2.2,hS.mono be,bE,by simp only[cw,KI,KR];omega,by simp only[cw,KI,KR];omega,ad,ad,ck.1,ck.2⟩
 | ret rest=>
  simp only[an.list,List.cons.injEq] at bM;obtain⟨rfl,bA⟩:=bM;have az:aq X wr.heap.size 180 #[.int .i64 9,.string ⟨#[]⟩,.int .i64 eo,.int .i64 en,.string es,.slice EA em ec,.string rs,.slice cc c7 rc,.slice bY n1 c1,.slice A2 n2 c2,.slice cC n3 c3]:=bo;clear bo;have cg:=ae az;obtain⟨a0,ai,af⟩:=az.two;clear az;go_wp2_with(fail);refine(g1 z.o (nj) (ab:Int) (ju (is:=[]) (ps:=[]) (Sl.bO _) (Sl.bO _) (KG _) (KG _)) ad ad).mono ?_;rintro e aS ⟨rfl,cJ,bG,cS,cX,a3,ci⟩;have ck:=ag a3 (et.trans ci);clear a3 ci a0 ai af a8 am aF;go_wp2;refine⟨?_,by simp[jm,intOf];omega⟩;unfold iQ
  iterate 240 apply Exists.intro
  refine⟨?_,rfl⟩;unfold oi;obtain⟨aX,aw,bn,hS,bE,bp,ch,b9,bO⟩:=bd.o;have wf:=(show e4 G d aV a4 rest by cases d<;>exact bn)
  exact⟨k+1,rest,aO,aV,a4,aP,ab+1,u++[nj],y++[(ab:Int)],a9,a2,cq,cJ,bG,cS,cX,by go_num,ad,bA.symm,aX,by simp only[an.num] at aw;omega,wf,hS,bE,by simp only[an.num] at bp;simp only[KI,KR];omega,by simp only[KI,KR];omega,by simp only[an.num] at b9;omega,by simp only[an.num] at bO;omega,ck.1,by rw[KI,KI];exact ck.2⟩
 ):p:=h
end BM
open BM in
theorem Hh(bl:an):BK bl:=by
 intro dN U nk F b G d l n st code sites g B S ln lc bx bJ bS bD A m c w bm cp dU bH e0 eN k aO aV a4 aP ab u y a9 a2 cq Y ah al aH wr ak ba aX aw bn hS bE bp ch b9 bO bw hM dq hQ0;intros
 conv=>arg 2;whnf
 have ap:k≤m:=ad;obtain⟨aZ,cu,bc,ev,gq,eC,cT,f3,cy,aR,_⟩:=bw.blk;obtain⟨gu,g5,s,cs,rfl,gm,co,dv,eX,Z⟩:=(bm.cQ hM).gZ ni ak;have go:(bg s).rep wr (au wr) cs:=D.aL (fun _ h=>h.1) _ _ dv;obtain⟨eo,en,es,EA,em,ec,rs,cc,c7,rc,bY,n1,c1,A2,n2,c2,cC,n3,c3,rfl,eL⟩:=k8 dv;exact vm
theorem Dk(dN:va)(U:ho)(nk:Int)(F:List aK)(b:an)(G:Env)(d:Nat)(l:List dL)(n:Int)(st:Nat)(code:List az)(sites:List Int)(g B:Nat)(S:Ls)(ln lc:Nat)(bx:Ls)(bJ:Nat)(bS:Ls)(bD:Nat)(A:Ls)(m c:Nat)(w:World)(bm:Lu (Sl w (off (Ms g (.slice bx code.length bJ) (.slice bS sites.length bD)) w) A m (b.list.map bg)))(cp:Lu (∀s∈b.list,lC U nk F s.th∧lC U nk F s.el))(dU:Lu (∀f∈F,f.params.length≤1000))(bH:Lu (b.list.length=m))(e0:m≤100000)(eN:st+b.num≤100000)(dq:Exit→Act→World→Prop)(hQ0:∀c a d v w,dq (.panic c) (a.put d v) w→dq (.panic c) a w)(x:∀r j,EM U nk F b G d l n st code sites g B S ln lc bx bJ bS bD A m c w r j→dq (.exit 0) r j)
  (a:Act) (wr:World) (hI:iQ U nk F b G d l n st code sites g B S ln lc bx bJ bS bD A m c w a wr):Code.wp prog sE (Exit.then (fun r j=>iQ U nk F b G d l n st code sites g B S ln lc bx bJ bS bD A m c w r j∧jm m r j<jm m a wr) dq) a wr:=by
 unfold iQ at hI
 iterate 240 obtain⟨_,hI⟩:=hI
 obtain⟨hI,rfl⟩:=hI;have e:=hI;obtain⟨k,rest,aO,aV,a4,aP,ab,u,y,a9,a2,cq,Y,ah,al,aH,rfl,ap,ba,aX,aw,bn,hS,bE,bp,ch,b9,bO,bw,hM⟩:=hI;by_cases ak:k<m
 ·suffices aR:BK rest from aR dN U nk F b G d l n st code sites g B S ln lc bx bJ bS bD A m c w bm cp dU bH e0 eN k aO aV a4 aP ab u y a9 a2 cq Y ah al aH wr ak ba aX aw bn hS bE bp ch b9 bO bw hM dq hQ0
  exact Hh rest
 ·obtain rfl:m=k:=ad;have a7:=ae e;clear e ba aX aw bn hS bE bp ch b9 bO bw hM;conv=>arg 2;whnf
  go_wp2;unfold EM
  iterate 240 apply Exists.intro
  exact⟨a7.o,rfl,rfl⟩
theorem E0(dN:va)(U:ho)(nk:Int)(F:List aK)(b:an)(G:Env)(d:Nat)(l:List dL)(n:Int)(st:Nat)(code:List az)(sites:List Int)(g B:Nat)(S:Ls)(ln lc:Nat)(bx:Ls)(bJ:Nat)(bS:Ls)(bD:Nat)(A:Ls)(m c:Nat)(w:World)(bm:Lu (Sl w (off (Ms g (.slice bx code.length bJ) (.slice bS sites.length bD)) w) A m (b.list.map bg)))(cp:Lu (∀s∈b.list,lC U nk F s.th∧lC U nk F s.el))(dU:Lu (∀f∈F,f.params.length≤1000))(bH:Lu (b.list.length=m))(e0:m≤100000)(eN:st+b.num≤100000)(dq:Exit→Act→World→Prop)(hQ0:∀c a d v w,dq (.panic c) (a.put d v) w→dq (.panic c) a w)(x:∀r j,EM U nk F b G d l n st code sites g B S ln lc bx bJ bS bD A m c w r j→dq (.exit 0) r j)
  (wr:World) {gK gO z u8 gL eO go gp cc bR eR eS eT eU eV eW eY eZ e3 e6 e7 e8 e9 u32 fa fb fd fe ff fh fi fk fl fm fo fp fq fr fs ft fv fw fx fy fz fA fB fC fD fE fF fG fH fI fJ u64 fK fL fM fN fO fP fQ fR fS fT fU fV fW fX fY fZ f3 f4 f5 f6 f7 f8 f9 ga gb gd ge gf gg gh gi gj gk gl gm H I am aF aL aM aN aU a1 a8 bb be bj bo br bt bA bF bG bL bM bW bZ b1 b2 b8 ca cb ce cj cn co cw cy cz cA cD cE cF cG cH cJ cM cO cP cQ cS cT cU cV cW cX cY cZ c4 c5 c6 c7 c8 c9 da db dc dd de df dg dh di dj dk dl dm dn dp dr dt du dv dw dx dy dA dB dD dE dF dG dH dJ dK dM dQ dR dS dT dV dW dX dY dZ d0 d1 d2 d3 d4 d5 d6 d7 d8 d9 ea eb ec ed ee ef eg eh ei ej ek el em en eo ep eq er es et eu ev ew ex ey ez eA eB eC eD eE eF eG eH eI eJ eL eM:Value} (hI:oi U nk F b G d l n st code sites g B S ln lc bx bJ bS bD A m c w gK wr):Code.wp prog (Code.loop sE) dq ⟨#[.pointer (some ⟨g,0,none⟩),.slice A m c,undef,undef,.slice S ln lc,gK,gO,z,u8,gL,eO,go,gp,cc,bR,.pointer (some ⟨g,0,none⟩),.pointer (some ⟨g,0,none⟩),.pointer (some ⟨g,3,none⟩),.slice S ln lc,eR,eS,eT,eU,eV,eW,eY,eZ,e3,e6,e7,e8,e9,u32,fa,fb,fd,fe,ff,fh,fi,fk,fl,fm,fo,fp,fq,fr,fs,ft,fv,fw,fx,fy,fz,fA,fB,fC,fD,fE,fF,fG,fH,fI,fJ,u64,fK,fL,fM,fN,fO,fP,fQ,fR,fS,fT,fU,fV,fW,fX,fY,fZ,f3,f4,f5,f6,f7,f8,f9,ga,gb,gd,ge,gf,gg,gh,gi,gj,gk,gl,gm,H,I,am,aF,aL,aM,aN,aU,a1,a8,bb,be,bj,bo,br,bt,bA,bF,bG,bL,bM,bW,bZ,b1,b2,b8,ca,cb,ce,cj,cn,co,cw,cy,cz,cA,cD,cE,cF,cG,cH,cJ,cM,cO,cP,cQ,cS,cT,cU,cV,cW,cX,cY,cZ,c4,c5,c6,c7,c8,c9,da,db,dc,dd,de,df,dg,dh,di,dj,dk,dl,dm,dn,dp,dr,dt,du,dv,dw,dx,dy,dA,dB,dD,dE,dF,dG,dH,dJ,dK,dM,dQ,dR,dS,dT,dV,dW,dX,dY,dZ,d0,d1,d2,d3,d4,d5,d6,d7,d8,d9,ea,eb,ec,ed,ee,ef,eg,eh,ei,ej,ek,el,em,en,eo,ep,eq,er,es,et,eu,ev,ew,ex,ey,ez,eA,eB,eC,eD,eE,eF,eG,eH,eI,eJ,eL,eM,undef,undef,undef,undef],[]⟩ wr:=by
 refine wp_loop (iQ U nk F b G d l n st code sites g B S ln lc bx bJ bS bD A m c w) (jm m) ?_ (fun a j hI=>Dk dN U nk F b G d l n st code sites g B S ln lc bx bJ bS bD A m c w bm cp dU bH e0 eN dq hQ0 x a j hI);unfold iQ
 iterate 240 apply Exists.intro
 exact⟨hI,rfl⟩
theorem vI(dN:va)(U:ho)(nk:Int)(F:List aK)(b:an)(ao:∀s∈b.list,lC U nk F s.th∧lC U nk F s.el):lC U nk F b:=by
 intro G d l V T n st code sites g B S ln lc bx bJ bS bD A m c w bn hS bE i h hs bp ch b9 eN bO;have ce:b.list.length=m:=by rw[←hs.1,cF,KK]
 have e0:m≤100000:=by have:=gJ b;omega
 rw[cF] at hs;obtain⟨GA,gn,gc,MA,mn,mc,FA,fn,fc,aR,_⟩:=h.blk;obtain⟨bm,cp,dU,bH⟩:=iS hs ao i ce;obtain⟨a8,am,aF⟩:=aR.two;have aW:=ae (show oi U nk F b G d l n st code sites g B S ln lc bx bJ bS bD A m c w (.int .i64 0) w from
  ⟨0,b,l,V,T,n,st,code,sites,S,ln,lc,bx,bJ,bS,bD,rfl,ad,rfl,rfl,rfl,bn,hS,bE,bp,ch,b9,bO,h,Mv.refl _ _ _ _⟩)
 have ca:=ag h.names.1 h.names.2;clear hs ao bn hS bE i h bp ch b9 bO aR ce;go_enter func113,ntmps113;go_wp2;clear a8 am aF;refine E0 dN U nk F b G d l n st code sites g B S ln lc bx bJ bS bD A m c w bm cp dU bH e0 eN _ ?hQ ?hX _ aW.o
 case hQ=>exact fun _ _ d _ _ h=>by cases d<;>exact h
 case hX=>
  intro r wr e;unfold EM at e
  iterate 240 obtain⟨_,e⟩:=e
  obtain⟨hI,f,rfl⟩:=e;obtain⟨k,rest,aO,aV,a4,aP,ab,u,y,a9,a2,cq,Y,ah,al,aH,j,ap,ba,aX,aw,bn,hS,bE,bp,ch,b9,bO,bw,hM⟩:=hI;have L:m=k:=by
   rw[j] at f;injection f with _ ac;omega
  subst L;clear aW j f;obtain⟨aZ,cu,bc,ev,gq,eC,cT,f3,cy,aR,_⟩:=bw.blk;have bM:rest.list=[]:=ba▸Lk (by rw[bH.o];exact KG _);obtain rfl:rest=.nil:=by cases rest<;>simp_all [an.list]
  have d3:dI b l n code=(u,aP):=aX.symm;obtain⟨a8,am,aF⟩:=aR.two;obtain⟨HA,cR⟩:=aI bw hM;clear bw hM aR;go_wp2;generalize hX:World.setCell _ _ _=X;obtain⟨eV,dW⟩:=HA.DZ ca.1 (ca.2.cQ cR.o) hX;have fm:=cR.trans dW;clear a8 am aF hX dW;rw[d3];refine bodyPost_end (v:=.tuple #[]) (by simp[results,Tryz.results113,go_sem]) rfl ?_;obtain rfl:ab=st+b.num:=by simp only[an.num] at aw;omega
  exact⟨rfl,Y,ah,al,aH,y,ch,eV,fm⟩
theorem yc(dN:va)(U:ho)(nk:Int)(F:List aK):∀b:an,lC U nk F b:=an.Dl (C:=lC U nk F) fun b ao=>vI dN U nk F b ao
end Go.Proofs.YtnhhdaggkiomoaaGreat

/- Part 25 of the proof. No condition of its own. -/
import Derived.Test.YtbkhhfajcgkpgaaGreatQ24
namespace Go.Proofs.YtbkhhfajcgkpgaaGreat
open Go.RowKit Go.Proofs.Tryz
set_option maxRecDepth 1000000
set_option maxHeartbeats 25600000
set_option linter.unusedVariables false
variable{p:Prop}
namespace Bv
theorem fK(h:p:=by
 generalize dg:World.setCell _ _ _=cY;clear a6 am aI dV dX dY dZ;obtain⟨dQ,dC⟩:=dp.o cY (by rw[←dg];simp);have a1:=bD.cG f9 dC;have dq:=(cS.trans dC).trans (Mv.gR (Fr.refl _ cY).drew);have eR:=(fN.trans dC).trans (Mv.gR (Fr.refl _ cY).drew);have gR:=a1.2;have eK:=dQ.ak (Fr.refl (fun _=>False) cY).drew;have aU:=a1.1.ak (Fr.refl (fun _=>False) cY).drew;have cG:(fG (aT++[dS 0]) o.length ((aT.length+1:Nat):Int)).length=aT.length+1:=by rw[cc,JS];rfl
 have fl:=Sl.cG (l:=cP el) cA.el eR;have e8:=ba.2.2.1.2.2.1;obtain⟨gs,gB,go,fv⟩:=iF dq eR eK aU;clear dQ dC a1 dq eR dg eK;generalize cY.drew=fn at *;obtain⟨a0,ap,ak⟩:=aU.two;clear aU;have fD:=dH (U:=U) (nk:=nk) el cz aV ac aJ eC (fG (aT++[dS 0]) o.length ((aT.length+1:Nat):Int)) e8 (ba.2.2.2.1.mono bM);go_wp2_with(fail);refine((show lq U nk F el from fw.2) G cz aV ac aJ eC (z+1+th.num) (fG (aT++[dS 0]) o.length ((aT.length+1:Nat):Int)) (ay++[(z:Int)]) g B aY aF bg (some ⟨ei,0,none⟩) eA ey eF cf n3 c3 fn e8 (ba.2.2.2.1.mono bM) ba.2.2.2.2.1 dL.o go.o (by rw[cc];exact fl) (by rw[cG];omega) (by rw[cG];simp only[JS,J1];omega) ab ab ab).mono ?_;rintro e gN ⟨rfl,g1,fS,fQ,gk,ev,e4,dR,ej⟩;rw[cc] at ej;generalize dw el aV eC (fG (aT++[dS 0]) o.length ((aT.length+1:Nat):Int))=q at *;obtain⟨q1,gy⟩:=q;obtain⟨⟨h7,fH,gh,_⟩,fq,fp⟩:=fD;simp only[] at e4 dR ej fH fq fp dD;have e5:aT.length+1≤q1.length∧q1.length≤aT.length+1+2*el.num:=by rw[fH];simp only[JS,cG];omega
 obtain⟨gS,gT⟩:=e5;have fx:=ad (gs.trans ej);clear fH gh ej a0 ap ak fl;have fm:=dR;obtain⟨fR,fX,f0,f3,⟨ha,f4⟩,e6⟩:=fm.target (b:=aT.length) ab ((q1.length:Int));subst fX;obtain⟨g4,gL,gJ,g6,gX,gW,g2,gI,gH,eP,_⟩:=dR.blk
 try simp only[JS,J1,cc] at eP
 have f6:((aT.length:Nat):Int)<(q1.length:Int):=ab;obtain⟨fz,gC⟩:=aM e6 dR;clear e6 fm;obtain⟨a6,am,aI⟩:=eP.two;clear eP;go_wp2;refine eE (fun _=>False) [(0,3),(1,3),(2,3),(3,0),(4,3),(5,3),(6,3),(7,3),(8,0),(9,3),(10,3),(11,3),(12,2)] ?_
 iterate 3 refine pf ?_
 refine ph ?_
 iterate 4 refine pf ?_
 refine ph ?_
 iterate 3 refine pf ?_
 refine aq rfl (fun K hK=>?_);go_simp;refine eD hK ?_;clear hK K;refine aA ?_;generalize fo:World.setCell _ _ _=fA;clear a6 am aI f0 f3 f4 f6;obtain⟨fW,fd⟩:=fz.o fA fo;have dq:=(fx.trans fd).trans (Mv.gR (Fr.refl _ fA).drew);have b4:=ai (fW.ak Kn.drew) (show Mv g (.slice bI code.length bO) (.slice bp sites.length a7) w (.slice (some ⟨fR,0,none⟩) (fG q1 aT.length (q1.length:Int)).length fS) (.slice fQ ev.length gk) fA.drew by rw[cc];exact dq);clear fW fd dq fo;go_wp2;refine⟨?_,by simp[jd,intOf];omega⟩;unfold iC
 iterate 240 apply Exists.intro
 refine⟨?_,rfl⟩;unfold nV;obtain⟨_,W,S,hS,bn,a3,bT,bB,be⟩:=ba.o;exact⟨k+1,rest,aV,ac,aJ,gy,z+1+th.num+el.num,fG q1 aT.length (q1.length:Int),ev,aY,aF,bg,some ⟨fR,0,none⟩,fS,fQ,gk,by go_num,ab,c5.symm,dD,ab,S.2.2.2,hS.mono ab,bn,by simp only[cc];omega,by simp only[cc];omega,ab,ab,b4.1,b4.2⟩
 ):p:=h
theorem gq(h:p:=by
 refine tf ?_;refine cw ?_;generalize fE:World.setCell _ _ _=gF;obtain⟨_,eQ,_⟩:=pr bV bf ah fE;have ew:=ad eQ;clear fE c0 cC bi bV bf ah c7;have gi:=cW.ak eQ;obtain⟨a0,ap,ak⟩:=gi.two;clear eQ gi;go_wp2_with(fail);refine(fP aV ex av g (z:Int) _ _ _ _ _ _ _ (y.ak ew.o).L (D.on aP.1 (Fr.ext ew.o))).mono ?_;rintro e aN ⟨o1,q1,s1,eG,cQ,cL,rfl,b5,ar⟩;have br:=ad (ew.trans ar);have fy:=ad b5;clear a0 ap ak ar b5;go_upto_region 13 with(fail);generalize hV:World.alloc _ _=dn;have t:Ext aN dn:=hV▸Kn.alloc _;have cK:af dn aN.heap.size 57 #[.int .i64 o1,.int .i64 q1,.string s1,.slice eG cQ cL]:=hV▸Ko;have bL:=y.ak (br.trans t);obtain⟨h1,hu,hp,h5,hG,hB,hT,hj,hc,bt,_⟩:=bL.blk;have c9:=ad (br.trans t);have aX:(bb (bx aV ex)).rep dn (fresh X dn) [.int .i64 o1,.int .i64 q1,.string s1,.slice eG cQ cL]:=
  D.aF (fun b O=>⟨J7 ew.size O.1,JR O.2 t.size⟩) _ _ (D.aN (fun b O=>t.block b O.2 fun h=>h) _ _ fy.o)
 have gv:=ad aX;clear hV aX bL;obtain⟨a0,ap,ak⟩:=cK.two;obtain⟨a6,am,aI⟩:=bt.two;clear cK bt;go_wp2;refine eE (fun _=>False) [(0,3),(1,3),(2,3),(3,3),(4,0),(5,0),(6,3),(7,3),(8,2)] ?_
 iterate 4 refine pf ?_
 iterate 2 refine ph ?_
 iterate 2 refine pf ?_
 refine aq rfl (fun K hK=>?_);go_simp;have bL:=y.ak c9.drew;refine(gK bL (k8 aZ false (bx aV ex)) (z:Int) (kM (hO y.o (CL gv.o Kn.drew))) ab ab).mono ?_;rintro e cX ⟨rfl,cE,b2,cF,cH,di,dF⟩;refine eD hK ?_;clear hK K;refine aA ?_;clear a0 ap ak a6 am aI bL;have fb:=ad di;have cB:Mv g (.slice J o.length Y) (.slice an u.length aB) dn.drew (.slice cE (o++[k8 aZ false (bx aV ex)]).length b2) (.slice cF (u++[(z:Int)]).length cH) cX:=by rw[JS,JS];exact dF
 have gP:aF≤100000:=by have ae:=ba.2.2.2.2.2.2.2.2;rw[←et,JU];omega
 have cS:=ad (eg.trans ((Mv.gR c9.drew).trans cB));clear cB;have bG:=(cW.ak c9.drew).on dF.fr (by
  intro hm;rcases hm with hm|hm|hm
  ·have:=HA.lt;omega
  ·have:=(HA.rows.one.lt hm).2;omega
  ·have:=(HA.rows.two.lt hm).2;omega)
 obtain⟨a0,ap,ak⟩:=bG.two;obtain⟨h2,hv,hq,h6,hH,hC,hU,hk,he,bC,_⟩:=di.blk;obtain⟨a6,am,aI⟩:=bC.two;have dt:=di.names.2.mono (fun b (O:off _ cX b)=>(show au cX b from O.1));obtain⟨cO,dr⟩:∃N,N=cX.heap.size:=⟨_,rfl⟩
 have gw:¬cO≤g:=ab;have gx:¬cO≤wr.heap.size:=ab;clear di dF bG bC;go_wp2;refine tX (fun b=>cO≤b) [15,18] (.free 0 (.free 2 (.free 3 (.free 4 (.held 5 (.free 7 (.held 8 (.free 9 (.free 10 (.free 11 (.held 12 (.free 13 (.pick [1,14] (fun i=>bif i == 1 then .pick [6,14] (fun i=>bif i == 6 then .pick [14] (fun _=>.pick [15] (fun _=>.free 16 (.free 17 (.pick [18] (fun _=>.stop))))) else .pick [6] (fun _=>.pick [15] (fun _=>.free 16 (.free 17 (.pick [18] (fun _=>.stop)))))) else .pick [1] (fun _=>.pick [6] (fun _=>.pick [15] (fun _=>.free 16 (.free 17 (.pick [18] (fun _=>.stop)))))))))))))))))))) ?_
 iterate 4 refine tf ?_
 refine n8 ?_;refine tf ?_;refine n8 ?_
 iterate 3 refine tf ?_
 refine n8 ?_;refine tf ?_;clear a0 ap ak;refine ix (P:=?oK) (ops:=?G4) (Q:=?G6) (R:=?G7) (tails:=?G8) (rest:=.pick [15] (fun _=>.free 16 (.free 17 (.pick [18] (fun _=>.stop))))) (aa:=?G3)
  (C:=fun(_:Nat) bm A2 bE V=>Ext cX V∧Gr (fun _=>False) cO 153 3 V A2 aF bE (aV.map bN)∧af V bm 153 #[.string nm,.int .i64 4,.int .i64 aZ]) (fun key=>?x6) ?xZ
 case x6=>
  refine bq ?_ ?_
  ·
   refine eZ ?_;generalize hV:World.drew (World.alloc _ _)=T;have e1:Ext cX T:=hV▸(Kn.alloc _).drew;have cI:Gr (fun _=>False) cO 153 3 T (some ⟨cX.heap.size,0,none⟩) 0 0 []:=by rw[←hV,dr];exact(Gr.lit (w:=cX) (n:=0) (l:=[]) rfl (by rfl) ab (by simp only[D.aI])).ak Kn.drew
   have eq:=kn (dt.on (Fr.ext e1));clear hV;refine bq ?_ ?_
   ·
    refine aE rfl (fun K hK=>?_) rfl;rw[if_pos (by rfl)];refine jc iV (.tmp 77) (.tmp 81) (by rfl) cI (kN aV) et eq (fun h=>by subst h;exact Sl.none_ dt) (by rfl) (by rfl) ab ab (by rw[dr];exact e1.size) ?_;intro A2 bE cp b7 f1 o1 c1;refine dW hK (f1.mono fun b O=>ab) ?_;clear hK K;refine ao ?_;refine eZ ?_;have e2:Ext cX cp:=Fr.low (M:=fun b=>cX.heap.size≤b) ((e1.mono fun _ h=>h.elim).trans (f1.mono fun b O=>ab)) fun _ h=>h;have F:Ext cX (cp.alloc (.cells #[.string nm,.int .i64 4,.int .i64 aZ] 153))∧Gr (fun _=>False) cO 153 3 (cp.alloc (.cells #[.string nm,.int .i64 4,.int .i64 aZ] 153)) A2 aF bE (aV.map bN)∧
      af (cp.alloc (.cells #[.string nm,.int .i64 4,.int .i64 aZ] 153)) cp.heap.size 153 #[.string nm,.int .i64 4,.int .i64 aZ]:=⟨e2.alloc _,b7.ak (Kn.alloc _),Ko⟩
    clear b7 cI f1 o1 e1 e2 eq;revert F;generalize cp.heap.size=bm;generalize cX.heap.size=df;intro F;exact key df bm A2 bE _ F
   ·
    refine eZ ?_;generalize hV:World.alloc _ _=dO;have e2:Ext T dO:=hV▸Kn.alloc _;have a8:af dO T.heap.size 153 #[.string nm,.int .i64 4,.int .i64 aZ]:=hV▸Ko;have du:=kn (dt.on (Fr.ext (e1.trans e2)));clear hV eq;have dB:cX.heap.size<T.heap.size:=(cI.lt (g:=cX.heap.size) rfl).2;refine ao ?_;refine aE rfl (fun K hK=>?_) rfl;rw[if_pos (by rfl)];refine jc iV (.tmp 77) (.tmp 81) (by rfl) (cI.ak e2) (kN aV) et du (fun h=>by subst h;exact Sl.none_ dt) (by rfl) (by rfl) ab ab (by rw[dr];exact(e1.trans e2).size) ?_;intro A2 bE cp b7 f1 o1 c1;refine dW hK (f1.mono fun b O=>ab) ?_;clear hK K;have e3:Ext cX cp:=Fr.low (M:=fun b=>cX.heap.size≤b) (((e1.trans e2).mono fun _ h=>h.elim).trans (f1.mono fun b O=>ab)) fun _ h=>h;have F:Ext cX cp∧Gr (fun _=>False) cO 153 3 cp A2 aF bE (aV.map bN)∧af cp T.heap.size 153 #[.string nm,.int .i64 4,.int .i64 aZ]:=⟨e3,b7,a8.on f1 ab⟩
    clear b7 cI f1 o1 e1 e2 e3 du a8 dB;revert F;generalize T.heap.size=bm;generalize cX.heap.size=df;intro F;exact key df bm A2 bE _ F
  ·
   refine eZ ?_;generalize hV:World.drew (World.alloc _ _)=T;have e1:Ext cX T:=hV▸(Kn.alloc _).drew;have a8:af T cX.heap.size 153 #[.string nm,.int .i64 4,.int .i64 aZ]:=hV▸Ko;clear hV;refine ao ?_;refine eZ ?_;generalize hV:World.alloc _ _=dO;have e2:Ext T dO:=hV▸Kn.alloc _;have cI:Gr (fun _=>False) T.heap.size 153 3 dO (some ⟨T.heap.size,0,none⟩) 0 0 []:=hV▸Gr.lit (w:=T) (n:=0) (l:=[]) rfl (by rfl) ab (by simp only[D.aI]);have da:=a8.ak e2;have du:=kn (dt.on (Fr.ext (e1.trans e2)));have dB:cX.heap.size<T.heap.size:=a8.lt;clear hV a8;refine ao ?_;refine aE rfl (fun K hK=>?_) rfl;rw[if_pos (by rfl)];refine jc iV (.tmp 77) (.tmp 81) (by rfl) cI (kN aV) et du (fun h=>by subst h;exact Sl.none_ dt) (by rfl) (by rfl) ab ab e2.size ?_;intro A2 bE cp b7 f1 o1 c1;refine dW hK (f1.mono fun b O=>ab) ?_;clear hK K;have e3:Ext cX cp:=Fr.low (M:=fun b=>cX.heap.size≤b) (((e1.trans e2).mono fun _ h=>h.elim).trans (f1.mono fun b O=>ab)) fun _ h=>h;have F:Ext cX cp∧Gr (fun _=>False) cO 153 3 cp A2 aF bE (aV.map bN)∧af cp cX.heap.size 153 #[.string nm,.int .i64 4,.int .i64 aZ]:=⟨e3,b7.base ab,da.on f1 ab⟩
   clear b7 cI f1 o1 e1 e2 e3 du da;revert F;generalize T.heap.size=df;generalize cX.heap.size=bm;intro F;exact key df bm A2 bE _ F
 case xZ=>
  rintro df bm A2 bE gE ⟨bs,cJ,a8⟩;have fa:=bs.size;have fV:=fb.ak bs;obtain⟨g5,hy,hr,g7,hL,hD,g3,hl,hf,bC,_⟩:=fV.blk;clear a6 am aI fV;refine ao ?_;refine bS rfl (fun K hK=>?_) rfl;rw[if_pos (by rfl)];refine eO iV (.tmp 82) (.tmp 90) (by rfl) cJ a8 (jH ⟨nm,4,aZ⟩) (by rfl) (by rfl) (by rfl) ab ab ab ?_;intro gn cx fn e9 f5 gz gG;have cG:Ext cX fn:=Fr.low (M:=fun b=>cX.heap.size≤b) ((bs.mono fun _ h=>h.elim).trans (f5.mono fun b O=>by have:=(cJ.lt O).1;omega)) fun _ h=>h;have aU:=bC.on f5 (fun O=>by have:=(cJ.lt O).1;omega);have dm:=ai e9 cG;clear e9 f5 gz cJ a8 bC bs cG fa;obtain⟨a6,am,aI⟩:=aU.two;refine eD hK ?_;clear hK K
  iterate 2 refine tf ?_
  refine ao ?_;refine bS rfl (fun K hK=>?_) rfl;go_simp;refine eD hK ?_;clear hK K;refine cw ?_;generalize bJ:World.setCell _ _ _=gl;have eK:=fb.ak dm.2;have gV:=dm.2.size;obtain⟨dR,ej⟩:=eK.C1 (aV:=aV++[⟨nm,4,aZ⟩]) ab (by
   rw[JX];refine dm.1.sl (fun b _ h=>h.elim) fun b ae aC=>⟨ae,fun hm=>?_⟩
   rcases hm with hm|hm|hm
   ·omega
   ·have:=(fb.rows.one.lt hm).2;omega
   ·have:=(fb.rows.two.lt hm).2;omega) bJ
  have gp:=ad dR;have fx:=ad (cS.trans ((Mv.gR dm.2).trans ej));obtain⟨hY,hz,hs,MW,hN,hE,hQ,hn,hg,cq,_⟩:=dR.blk;clear a6 am aI aU bJ eK dR ej dt;obtain⟨a6,am,aI⟩:=cq.two;clear cq;go_upto_region 3 with(fail);generalize eT:World.setCell _ _ _=g9;have hw:wrap64 (aZ+1)=aZ+1:=IntWalk.wrap64_in _ (by have h0:=ba.2.2.2.1.n0;have ae:=ba.2.2.2.2.2.2.2.1;omega);rw[hw] at eT;obtain⟨fj,fk⟩:=gp.locals eT;have b4:=ai fj (fx.trans fk);clear eT fj fk a6 am aI;go_wp2;refine⟨?_,by simp[jd,intOf];omega⟩;unfold iC
  iterate 240 apply Exists.intro
  refine⟨?_,rfl⟩;unfold nV;obtain⟨aW,W,S,hS,bn,a3,bT,bB,be⟩:=ba.o;have wf:=(show eN G d (ac++[nm]) (aJ++[nm]) rest by cases d<;>exact S.2.2.2)
  exact⟨k+1,rest,aV++[⟨nm,4,aZ⟩],ac++[nm],aJ++[nm],aZ+1,z+1,o++[k8 aZ false (bx aV ex)],u++[(z:Int)],gn,(aF+1),cx,cE,b2,cF,cH,by go_num,ab,c5.symm,(show dw rest (aV++[⟨nm,4,aZ⟩]) (aZ+1) (o++[k8 aZ false (bx aV ex)])=dw b l n code from aW),by simp only[al.num] at W;omega,wf,hS.add ed.1,bn.app _,by simp only[al.num] at a3;simp only[JS,J1];omega,by simp only[JS,J1];omega,by simp only[al.num] at bB;omega,by simp only[al.num] at be;simp only[JS,J1];omega,b4.1,b4.2⟩
 ):p:=h
theorem uW(h:p:=by
 have bf:Ext X V:=hV▸(Fr.aO ar).alloc _;exact Cd
 ):p:=h
theorem zJ(h:p:=by
 refine k3 (P:=?IJ) (ops:=?IT) (Q:=?IU) (R:=?IW) (tails:=?IX) (rest:=.pick [11] (fun _=>.free 12 (.stop))) (aa:=?IK) (C:=fun db V=>Ext X V∧af V db 153 #[.string ⟨#[]⟩,.int .i64 0,.int .i64 0]∧X.heap.size≤db) (fun key=>?HG) ?HC
 case HG=>
  refine bq ?_ ?_
  ·
   refine bS rfl (fun K hK=>?_) rfl;go_simp;refine(dM aY aF bg aV nm X.drew (c7.on (Fr.ext Kn.drew)) dl).mono ?_;rintro e aN ⟨rfl,ar⟩;rw[bd];simp only[iK];exact uV
  ·
   refine eZ ?_;refine ao ?_;refine bS rfl (fun K hK=>?_) rfl;go_simp;generalize hV:World.alloc _ _=V;have aL:af V X.heap.size 153 #[.string ⟨#[]⟩,.int .i64 0,.int .i64 0]:=hV▸Ko;have bf:Ext X V:=hV▸Kn.alloc _;clear hV;refine(dM aY aF bg aV nm V.drew (c7.on (Fr.ext bf.drew)) dl).mono ?_;rintro e aN ⟨rfl,ar⟩;rw[bd];simp only[iK];refine eD hK ?_;clear hK K
   iterate 3 refine tf ?_
   have b3:=aL.ak (Fr.aO ar);have aG:=bf.trans (Fr.aO ar);clear aL bf ar;exact key X.heap.size aN ⟨aG,b3,JQ _⟩
 case HC=>
  rintro db V ⟨bf,bV,ah⟩;obtain⟨c0,cC,bi⟩:=bV.two;clear a0 ap ak a6 am aI;exact g8
 ):p:=h
theorem uS(h:p:=by
 have gf:gm<wr.heap.size:=ge.1;have bQ:=JT a5;have b6:bl.list=s::b.list.drop (k+1):=bA▸(List.drop_eq_getElem?_toList_append▸(by rw[a5];rfl));obtain⟨a6,am,aI⟩:=aL.two;obtain⟨HA,dv,cA⟩:=ez bk hM eB;have fw:=ad (b9.o s bQ);clear aL bk hM dG gg Z ge eB f2;have cy:¬gm=wr.heap.size:=ab;have co:¬g=wr.heap.size:=ab;go_wp2;refine eE (fun b=>b=wr.heap.size) [(0,3),(1,3),(2,3),(3,0),(4,3),(5,3),(6,3),(7,0),(8,1),(9,1),(10,3)] ?_
 iterate 3 refine pf ?_
 refine pV ?_
 iterate 3 refine pf ?_
 refine pV ?_;refine ru ?_;refine aK rfl (fun K hK=>?_);go_simp;generalize hV:World.drew (World.alloc _ _)=V;have t:Ext wr V:=hV▸(Kn.alloc _).drew;have a4:af V wr.heap.size 192 #[.int .i64 s.kind,.string s.name,.int .i64 eo,.int .i64 en,.string es,.slice EA em ec,.string rs,.slice cj a9 rc,.slice ce n1 c1,.slice A2 n2 c2,.slice cf n3 c3]:=hV▸(Ko).drew;refine dW hK (Gt (Kn.alloc _).drew t (by simp) (by rw[←hV];simp)) ?_;clear hK K;refine pf ?_;refine aA ?_;have fM:=ad a4;have fB:=HA.ak t;have fY:=dv.trans (Mv.gR t);obtain⟨hW,bR,bW,h3,dK,cV,hP,hh,hJ,bV,_⟩:=fB.blk;obtain⟨b1,gr,gt⟩:=ez t fB fY;clear hV t a6 am aI d0 d1 d2 d3 d4 d5 d6 d7 d8 d9 d10 cy co gf fB fY a4;obtain⟨a6,am,aI⟩:=bV.two;clear bV;go_upto_region 6 with(fail);generalize hX:World.setCell _ _ _=X;obtain⟨eM,dI⟩:=gr.stmt (X:=X) (by rw[←hX,Int.natCast_add];rfl);have bZ:Fr (fun b=>b=g) V X:=hX▸(Fr.refl (fun b=>b=g) V).setCell (.inl rfl) _;have bh:=fM.on bZ (aH HA.lt);have bo:Ext wr V:=b1.o;have y:=ad eM;have eg:=ad (gt.trans dI);have dy:=ad ((Mv.gR bo).trans dI);have gM:o.length≤100000:=ab;have gU:=bT;have ba:=wH aW W S hS bn a3 bT bB be;obtain⟨hZ,ht,ho,h4,hF,hA,hR,hi,hb,cT,_⟩:=eM.blk;have gD:=cT.lt;clear hX bZ a6 am aI eM dI bo aW W S hS bn fM;obtain⟨a6,am,aI⟩:=cT.two;clear cT
 cases bl with
 | nil=>simp[al.list] at b6
 | set bv nm ex rest=>
  cases bv
  ·
   simp only[al.list,List.cons.injEq] at b6;obtain⟨rfl,c5⟩:=b6;have ag:af X wr.heap.size 192 #[.int .i64 2,.string nm,.int .i64 eo,.int .i64 en,.string es,.slice EA em ec,.string rs,.slice cj a9 rc,.slice ce n1 c1,.slice A2 n2 c2,.slice cf n3 c3]:=bh;clear bh;have cW:=ad ag;obtain⟨a0,ap,ak⟩:=ag.two;clear ag;have ed:=(show nm∈ac∧ex.src ac 2 by have:=ba.2.2.1;cases d<;>exact⟨this.1,this.2.1⟩)
   obtain⟨v,aD,cd⟩:=ba.2.2.2.1.vars nm ed.1;have cn:v.kind=1∨v.kind=4:=cd.imp (fun h=>h.1) (fun h=>h.1);have av:=ba.2.2.2.1.fC 2 ex ed.2;have ek:iY aV nm=v.n:=by simp[iY,aD]
   have fF:tt aV nm=v.kind:=by simp[tt,aD]
   have L:(bb ex).rep X (au X) [.int .i64 eo,.int .i64 en,.string es,.slice EA em ec]:=D.aF (fun _ h=>h.1) _ _ (D.cG (d:=bb ex) cA.expr dy.o);have aP:=ai L av;clear L cd;go_wp2_with(fail);refine(mJ g aV nm v aD cn (z:Int) X y.L).mono ?_;rintro e aN ⟨rfl,ar⟩;simp only[qE];go_upto_region 18 with(fail);generalize hV:World.alloc _ _=dn;have t:Ext X dn:=hV▸ar.alloc _;have cK:af dn aN.heap.size 153 #[.string v.name,.int .i64 v.kind,.int .i64 v.n]:=hV▸Ko;have bH:=cW.ak t;have c9:=ad t;clear hV a0 ap ak a6 am aI ar t;obtain⟨a0,ap,ak⟩:=bH.two;obtain⟨a6,am,aI⟩:=cK.two;clear cK bH;go_wp2;refine eE (fun _=>False) [(0,3),(1,3),(2,0),(3,3),(4,0),(5,3),(6,3),(7,3),(8,0),(9,3),(12,3),(10,1),(11,3),(13,2)] ?_
   iterate 2 refine pf ?_
   refine ph ?_;refine pf ?_;refine ph ?_
   iterate 3 refine pf ?_
   refine ph ?_
   iterate 2 refine pf ?_
   refine aK rfl (fun K hK=>?_);go_simp;refine(fP aV ex av g (z:Int) _ _ _ _ _ _ _ (y.ak c9.drew).L (D.on aP.1 (Fr.ext c9.drew))).mono ?_;rintro e bU ⟨o1,q1,s1,eG,cQ,cL,rfl,b5,bX⟩;refine dW hK (bX) ?_;clear hK K;refine pf ?_;refine aq rfl (fun K hK=>?_);go_simp;have dj:Ext X bU:=c9.trans (Fr.aO bX);have cN:=y.ak dj;refine(gK cN (k8 v.n (v.kind == 1) (bx aV ex)) (z:Int) (kM (hO y.o (vn b5 c9.size))) ab ab).mono ?_;rintro e aO ⟨rfl,cE,b2,cF,cH,bL,dz⟩;refine eD hK ?_;clear hK K;refine aA ?_;have b4:=ai bL ((eg.trans (Mv.gR dj)).trans dz);clear bL dz a0 ap ak a6 am aI cN b5 bX dj;go_wp2;refine⟨?_,by simp[jd,intOf];omega⟩;unfold iC
   iterate 240 apply Exists.intro
   refine⟨?_,rfl⟩;unfold nV;obtain⟨aW,W,S,hS,bn,a3,bT,bB,be⟩:=ba.o;have wf:=(show eN G d ac aJ rest by cases d<;>exact S.2.2)
   exact⟨k+1,rest,aV,ac,aJ,aZ,z+1,o++[k8 v.n (v.kind == 1) (bx aV ex)],u++[(z:Int)],aY,aF,bg,cE,b2,cF,cH,by go_num,ab,c5.symm,(by rw[←ek,←fF];exact aW),by simp only[al.num] at W;omega,wf,hS,bn,by simp only[al.num] at a3;simp only[JS,J1];omega,by simp only[JS,J1];omega,by simp only[al.num] at bB;omega,by simp only[al.num] at be;omega,b4.1,by rw[JS,JS];exact b4.2⟩
  ·
   simp only[al.list,List.cons.injEq] at b6;obtain⟨rfl,c5⟩:=b6;have ag:af X wr.heap.size 192 #[.int .i64 1,.string nm,.int .i64 eo,.int .i64 en,.string es,.slice EA em ec,.string rs,.slice cj a9 rc,.slice ce n1 c1,.slice A2 n2 c2,.slice cf n3 c3]:=bh;clear bh;have cW:=ad ag;obtain⟨a0,ap,ak⟩:=ag.two;clear ag;have ed:=(show nm∉aJ∧ex.src ac 2 by have:=ba.2.2.1;cases d<;>exact⟨this.2.1,this.2.2.1⟩)
   have bd:dk aV nm=none:=jI fun j x bc hx=>ed.1 (hx▸ba.2.2.2.1.taken x (JT bc));have av:=ba.2.2.2.1.fC 2 ex ed.2;have L:(bb ex).rep X (au X) [.int .i64 eo,.int .i64 en,.string es,.slice EA em ec]:=D.aF (fun _ h=>h.1) _ _ (D.cG (d:=bb ex) cA.expr dy.o);obtain⟨dl,ea⟩:=y.names;have c7:=ea.mono (fun b (O:off _ X b)=>(show au X b from O.1));have aP:=aQ L c7 av;have et:(aV.map bN).length=aF:=c7.1;clear L ea;go_upto_region 9 with(fail)
   exact zI
 | call c8 nm aS rest=>
  cases c8
  case' false=>let c8:=false
  case' true=>let c8:=true
  all_goals
   simp only[al.list,List.cons.injEq] at b6;obtain⟨rfl,c5⟩:=b6;have ag:af X wr.heap.size 192 #[.int .i64 _,.string nm,.int .i64 eo,.int .i64 en,.string es,.slice EA em ec,.string rs,.slice cj a9 rc,.slice ce n1 c1,.slice A2 n2 c2,.slice cf n3 c3]:=bh;clear bh;have cW:=ad ag;obtain⟨a0,ap,ak⟩:=ag.two;clear ag;have ed:=(show ∃ps,(nm,ps)∈G.funcs∧iz G ac ps aS by have:=ba.2.2.1;cases d<;>exact this.1)
   obtain⟨ps,ch,az⟩:=ed;obtain⟨v,f,aD,ep,h0,fC,rfl⟩:=ba.2.2.2.2.1 nm ps ch;have fZ:=ba.2.2.2.1.iW _ _ az;have ek:iY aV nm=v.n:=by simp[iY,aD]
   have cr:=dL.o f (JT fC);have ds:Sl X (au X) ce n1 (aS.map gu):=(Sl.cG (l:=aS.map gu) cA.args dy.o).mono (fun _ h=>h.1);go_wp2_with(fail);refine(Cq dA g aV U.ae F c8 nm aS v f aD ep h0 fC fZ cr eo en es EA em ec rs cj a9 rc ce n1 c1 A2 n2 c2 cf n3 c3 (z:Int) _ y.L y.M_ y.F_ ds).mono ?_;rintro e aN ⟨IA,i,ic,KA,j,kc,rfl,b5,ar⟩;have cZ:=y.ak ar;have aX:=hO y.o b5;clear ds fZ b5;go_wp2_with(fail);refine(gK cZ (ld c8 v.n (bF aV aS) (cm aV aS)) (z:Int) (aX) ab ab).mono ?_;rintro e aO ⟨rfl,cE,b2,cF,cH,bL,dz⟩;have b4:=ai bL ((eg.trans (Mv.gR ar)).trans dz);clear bL dz a0 ap ak a6 am aI cZ aX ar ch az aD ep h0 fC cr;go_wp2;refine⟨?_,by simp[jd,intOf];omega⟩;unfold iC
   iterate 240 apply Exists.intro
   refine⟨?_,rfl⟩;unfold nV;obtain⟨aW,W,S,hS,bn,a3,bT,bB,be⟩:=ba.o;have wf:=(show eN G d ac aJ rest by cases d<;>exact S.2)
   exact⟨k+1,rest,aV,ac,aJ,aZ,z+1,o++[ld c8 v.n (bF aV aS) (cm aV aS)],u++[(z:Int)],aY,aF,bg,cE,b2,cF,cH,by go_num,ab,c5.symm,(by rw[←ek];exact aW),by simp only[al.num] at W;omega,wf,hS,bn,by simp only[al.num] at a3;simp only[JS,J1];omega,by simp only[JS,J1];omega,by simp only[al.num] at bB;omega,by simp only[al.num] at be;omega,b4.1,by rw[JS,JS];exact b4.2⟩
 | lock c8 r rest=>
  cases c8
  case' false=>let c8:=false
  case' true=>let c8:=true
  all_goals
   simp only[al.list,List.cons.injEq] at b6;obtain⟨rfl,c5⟩:=b6;have ag:af X wr.heap.size 192 #[.int .i64 _,.string ⟨#[]⟩,.int .i64 eo,.int .i64 en,.string es,.slice EA em ec,.string rs,.slice cj a9 rc,.slice ce n1 c1,.slice A2 n2 c2,.slice cf n3 c3]:=bh;clear bh;have cW:=ad ag;obtain⟨a0,ap,ak⟩:=ag.two;clear ag;have eu:=(show rH G ac r by have:=ba.2.2.1;cases d<;>exact this.1)
   have gd:=ba.2.2.2.1.p2 r eu;have L:(km r).rep X (au X) [.string rs,.slice cj a9 rc]:=D.aF (fun _ h=>h.1) _ _ (D.cG (d:=km r) cA.ref dy.o);go_wp2_with(fail);refine(dA g aV U.ae r gd (z:Int) rs cj a9 rc _ y.L y.M_ L).mono ?_;rintro e aN ⟨gZ,g0,cl,ck,ct,rfl,b5,ar⟩;have cZ:=y.ak ar;have aX:=hO y.o b5;clear L gd b5;go_wp2_with(fail);refine(gK cZ (pz c8 (lT aV r)) (z:Int) (vk aX) ab ab).mono ?_;rintro e aO ⟨rfl,cE,b2,cF,cH,bL,dz⟩;have b4:=ai bL ((eg.trans (Mv.gR ar)).trans dz);clear bL dz a0 ap ak a6 am aI cZ aX ar eu;go_wp2;refine⟨?_,by simp[jd,intOf];omega⟩;unfold iC
   iterate 240 apply Exists.intro
   refine⟨?_,rfl⟩;unfold nV;obtain⟨aW,W,S,hS,bn,a3,bT,bB,be⟩:=ba.o;have wf:=(show eN G d ac aJ rest by cases d<;>exact S.2)
   exact⟨k+1,rest,aV,ac,aJ,aZ,z+1,o++[pz c8 (lT aV r)],u++[(z:Int)],aY,aF,bg,cE,b2,cF,cH,by go_num,ab,c5.symm,aW,by simp only[al.num] at W;omega,wf,hS,bn,by simp only[al.num] at a3;simp only[JS,J1];omega,by simp only[JS,J1];omega,by simp only[al.num] at bB;omega,by simp only[al.num] at be;omega,b4.1,by rw[JS,JS];exact b4.2⟩
 | ite ex th el rest=>
  simp only[al.list,List.cons.injEq] at b6;obtain⟨rfl,c5⟩:=b6;have ag:af X wr.heap.size 192 #[.int .i64 7,.string ⟨#[]⟩,.int .i64 eo,.int .i64 en,.string es,.slice EA em ec,.string rs,.slice cj a9 rc,.slice ce n1 c1,.slice A2 n2 c2,.slice cf n3 c3]:=bh;clear bh;have cW:=ad ag;obtain⟨a0,ap,ak⟩:=ag.two;clear ag;have hd:∃cz,d=cz+1:=by
   exact y0
  obtain⟨cz,hd⟩:=hd;subst hd;have dJ:=ba.2.2.1;have av:=ba.2.2.2.1.fC 2 ex dJ.1;have aR:=dJ.2.1;have dd:=dH (U:=U) (nk:=nk) th cz aV ac aJ aZ (o++[j8 (bx aV ex) 0]) aR ba.2.2.2.1;have eU:=ba.2.2.2.2.2.1;have eW:=ba.2.2.2.2.2.2.2.1;have eV:=ba.2.2.2.2.2.2.2.2;have e7:=ba.2.1;simp only[al.num] at eU eW eV e7;have L:(bb ex).rep X (au X) [.int .i64 eo,.int .i64 en,.string es,.slice EA em ec]:=D.aF (fun _ h=>h.1) _ _ (D.cG (d:=bb ex) cA.expr dy.o);go_wp2_with(fail);refine(fP aV ex av g (z:Int) _ _ _ _ _ _ _ y.L L).mono ?_;rintro e aN ⟨o1,q1,s1,eG,cQ,cL,rfl,b5,ar⟩;have cZ:=y.ak ar;have aX:=hO y.o b5;clear L b5;go_wp2_with(fail);refine(gK cZ (j8 (bx aV ex) 0) (z:Int) (kM aX) ab ab).mono ?_;rintro e aO ⟨rfl,cE,b2,cF,cH,bL,dz⟩;have dU:Mv g (.slice J o.length Y) (.slice an u.length aB) aN (.slice cE (o++[j8 (bx aV ex) 0]).length b2) (.slice cF (u++[(z:Int)]).length cH) aO:=by rw[JS,JS];exact dz
  have ca:=(Mv.gR (g:=g) (cv:=.slice J o.length Y) (sv:=.slice an u.length aB) ar).trans dU;have eX:¬Ms g (.slice J o.length Y) (.slice an u.length aB) wr.heap.size:=by
   exact FH
  obtain⟨bH,eY⟩:=cW.cG eX ca;have eS:=Sl.cG (l:=cP th) cA.th (dy.trans ca);have eH:=ad (eg.trans ca);have eJ:=ad (dy.trans ca);obtain⟨cD,bY⟩:=aM bL bH;clear dz dU ca a0 ap ak a6 am aI cZ aX ar bL;obtain⟨a0,ap,ak⟩:=bH.two;clear bH;go_wp2_with(fail);refine((show lq U nk F th from fw.1) G cz aV ac aJ aZ (z+1) (o++[j8 (bx aV ex) 0]) (u++[(z:Int)]) g B aY aF bg cE b2 cF cH A2 n2 c2 aO aR ba.2.2.2.1 ba.2.2.2.2.1 dL.o cD.o eS (by simp only[JS,J1];omega) (by simp only[JS,J1];omega) ab ab ab).mono ?_;rintro e bU ⟨rfl,dx,dh,dE,dN,ay,cu,cN,c4⟩;have dD:=ba.1;rw[dw] at dD;generalize dw th aV aZ (o++[j8 (bx aV ex) 0])=p at *;obtain⟨aT,eC⟩:=p;obtain⟨⟨gA,cU,eb,_⟩,bM,c6⟩:=dd;simp only[] at cu cN c4 cU bM c6 dD;have e0:o.length+1≤aT.length∧aT.length≤o.length+1+2*th.num:=by rw[cU];simp only[JS,J1];omega
  obtain⟨ga,gc⟩:=e0;clear cU eb;have ef:=ad (eH.trans c4);have fc:=ad (eJ.trans c4);obtain⟨bP,fr⟩:=bY.cG eY c4;obtain⟨bz,dP⟩:=aM bP cN;clear c4 cN a0 ap ak;obtain⟨a0,ap,ak⟩:=bP.two;clear bP;cases b0:el.isNil
  ·
   rw[if_neg (by rw[b0];simp)] at dD;have f8:0<n3:=by have:=cA.el.1;rw[tm,show ax.el (.ite ex th el)=el from rfl] at this;rw[pB] at b0;simp at b0;rw[←this];exact Nat.pos_of_ne_zero (by simpa using b0)
   have gQ:decide ((n3:Int) > 0)=true:=by simpa using f8
   go_wp2_with(fail);refine(gK dP.o (dS 0) (z:Int) (jj (is:=[]) (ps:=[]) (Sl.bG _) (Sl.bG _) (JQ _) (JQ _)) ab ab).mono ?_;rintro e ci ⟨rfl,fu,eA,ey,eF,di,dF⟩;have cB:Mv g (.slice dx aT.length dh) (.slice dE ay.length dN) bU (.slice fu (aT++[dS 0]).length eA) (.slice ey (ay++[(z:Int)]).length eF) ci:=by rw[JS,JS];exact dF
   have cS:=ad (ef.trans cB);have fN:=ad (fc.trans cB);obtain⟨bG,f9⟩:=bz.cG fr cB;have bD:=ad bG;clear dF cB a0 ap ak bG;have de:=di;obtain⟨ei,dT,dV,dX,⟨fT,dY⟩,cb⟩:=de.target (b:=o.length) (by simp only[JS,J1];omega) (((aT.length+1:Nat):Int));subst dT;obtain⟨fL,fi,fh,fO,ft,fs,fI,fg,ff,bK,_⟩:=di.blk
   try simp only[JS,J1] at bK
   have dZ:((o.length:Nat):Int)<(aT.length:Int)+1:=ab;obtain⟨dp,fe⟩:=aM cb di;clear cb de;obtain⟨a6,am,aI⟩:=bK.two;clear bK;go_wp2;refine eE (fun _=>False) [(0,3),(1,3),(2,3),(3,0),(4,3),(5,3),(6,3),(7,3),(8,0),(9,3),(10,3),(11,3),(12,2)] ?_
   iterate 3 refine pf ?_
   refine ph ?_
   iterate 4 refine pf ?_
   refine ph ?_
   iterate 3 refine pf ?_
   exact fJ
  ·
   rw[if_pos b0] at dD;have f7:n3=0:=by have:=cA.el.1;rw[tm,show ax.el (.ite ex th el)=el from rfl] at this;rw[pB] at b0;simp at b0;rw[←this,b0];rfl
   subst f7;have de:=dP.o;obtain⟨ei,dT,dV,dX,⟨fT,dY⟩,cb⟩:=de.target (b:=o.length) ab ((aT.length:Int));subst dT;obtain⟨fL,fi,fh,fO,ft,fs,fI,fg,ff,bK,_⟩:=dP.blk
   try simp only[JS,J1,cc] at bK
   have dZ:((o.length:Nat):Int)<(aT.length:Int):=ab;obtain⟨dp,fe⟩:=aM cb dP.o;clear cb de;obtain⟨a6,am,aI⟩:=bK.two;clear bK;go_wp2;refine eE (fun _=>False) [(0,3),(1,3),(2,3),(3,0),(4,3),(5,3),(6,3),(7,3),(8,0),(9,3),(10,3),(11,3),(12,2)] ?_
   iterate 3 refine pf ?_
   refine ph ?_
   iterate 4 refine pf ?_
   refine ph ?_
   iterate 3 refine pf ?_
   refine aq rfl (fun K hK=>?_);go_simp;refine eD hK ?_;clear hK K;refine aA ?_;generalize dg:World.setCell _ _ _=cY;clear a6 am aI dV dX dY dZ;obtain⟨dQ,dC⟩:=dp.o cY dg;have dq:=(ef.trans dC).trans (Mv.gR (Fr.refl _ cY).drew);have b4:=ai (dQ.ak Kn.drew) (show Mv g (.slice bI code.length bO) (.slice bp sites.length a7) w (.slice (some ⟨ei,0,none⟩) (fG aT o.length (aT.length:Int)).length dh) (.slice dE ay.length dN) cY.drew by rw[cc];exact dq);clear dQ dC dq dg;have gO:el.num=0:=by cases el<;>simp_all [al.isNil,al.num]
   go_wp2;refine⟨?_,by simp[jd,intOf];omega⟩;unfold iC
   iterate 240 apply Exists.intro
   refine⟨?_,rfl⟩;unfold nV;obtain⟨_,W,S,hS,bn,a3,bT,bB,be⟩:=ba.o
   exact⟨k+1,rest,aV,ac,aJ,eC,z+1+th.num,fG aT o.length (aT.length:Int),ay,aY,aF,bg,some ⟨ei,0,none⟩,dh,dE,dN,by go_num,ab,c5.symm,dD,ab,S.2.2.2,hS.mono bM,bn,by simp only[cc];omega,by simp only[cc];omega,ab,ab,b4.1,b4.2⟩
 | gb ex th rest=>
  simp only[al.list,List.cons.injEq] at b6;obtain⟨rfl,c5⟩:=b6;have ag:af X wr.heap.size 192 #[.int .i64 8,.string ⟨#[]⟩,.int .i64 eo,.int .i64 en,.string es,.slice EA em ec,.string rs,.slice cj a9 rc,.slice ce n1 c1,.slice A2 n2 c2,.slice cf n3 c3]:=bh;clear bh;have cW:=ad ag;obtain⟨a0,ap,ak⟩:=ag.two;clear ag;have hd:∃cz,d=cz+1:=by
   exact y0
  obtain⟨cz,hd⟩:=hd;subst hd;have dJ:=ba.2.2.1;have av:=ba.2.2.2.1.fC 2 ex dJ.1;have aR:=dJ.2.1;have dd:=dH (U:=U) (nk:=nk) th cz aV ac aJ aZ (o++[j8 (bx aV ex) 0]) aR ba.2.2.2.1;have eU:=ba.2.2.2.2.2.1;have eW:=ba.2.2.2.2.2.2.2.1;have eV:=ba.2.2.2.2.2.2.2.2;have e7:=ba.2.1;simp only[al.num] at eU eW eV e7;have L:(bb ex).rep X (au X) [.int .i64 eo,.int .i64 en,.string es,.slice EA em ec]:=D.aF (fun _ h=>h.1) _ _ (D.cG (d:=bb ex) cA.expr dy.o);go_wp2_with(fail);refine(fP aV ex av g (z:Int) _ _ _ _ _ _ _ y.L L).mono ?_;rintro e aN ⟨o1,q1,s1,eG,cQ,cL,rfl,b5,ar⟩;have cZ:=y.ak ar;have aX:=hO y.o b5;clear L b5;go_wp2_with(fail);refine(gK cZ (j8 (bx aV ex) 0) (z:Int) (kM aX) ab ab).mono ?_;rintro e aO ⟨rfl,cE,b2,cF,cH,bL,dz⟩;have dU:Mv g (.slice J o.length Y) (.slice an u.length aB) aN (.slice cE (o++[j8 (bx aV ex) 0]).length b2) (.slice cF (u++[(z:Int)]).length cH) aO:=by rw[JS,JS];exact dz
  have ca:=(Mv.gR (g:=g) (cv:=.slice J o.length Y) (sv:=.slice an u.length aB) ar).trans dU;have eX:¬Ms g (.slice J o.length Y) (.slice an u.length aB) wr.heap.size:=by
   exact FH
  obtain⟨bH,eY⟩:=cW.cG eX ca;have eS:=Sl.cG (l:=cP th) cA.th (dy.trans ca);have eH:=ad (eg.trans ca);have eJ:=ad (dy.trans ca);obtain⟨cD,bY⟩:=aM bL bH;clear dz dU ca a0 ap ak a6 am aI cZ aX ar bL;obtain⟨a0,ap,ak⟩:=bH.two;clear bH;go_wp2_with(fail);refine((show lq U nk F th from fw.1) G cz aV ac aJ aZ (z+1) (o++[j8 (bx aV ex) 0]) (u++[(z:Int)]) g B aY aF bg cE b2 cF cH A2 n2 c2 aO aR ba.2.2.2.1 ba.2.2.2.2.1 dL.o cD.o eS (by simp only[JS,J1];omega) (by simp only[JS,J1];omega) ab ab ab).mono ?_;rintro e bU ⟨rfl,dx,dh,dE,dN,ay,cu,cN,c4⟩;have dD:dw rest aV (dw th aV aZ (o++[j8 (bx aV ex) 0])).2 (fG ((dw th aV aZ (o++[j8 (bx aV ex) 0])).1++[dS (o.length:Int)]) o.length (((dw th aV aZ (o++[j8 (bx aV ex) 0])).1.length+1:Nat):Int))=dw b l n code:=ba.1;generalize dw th aV aZ (o++[j8 (bx aV ex) 0])=p at *;obtain⟨aT,eC⟩:=p;obtain⟨⟨gA,cU,eb,_⟩,bM,c6⟩:=dd;simp only[] at cu cN c4 cU bM c6 dD;have e0:o.length+1≤aT.length∧aT.length≤o.length+1+2*th.num:=by rw[cU];simp only[JS,J1];omega
  obtain⟨ga,gc⟩:=e0;clear cU eb;have ef:=ad (eH.trans c4);have fc:=ad (eJ.trans c4);obtain⟨bP,fr⟩:=bY.cG eY c4;obtain⟨bz,dP⟩:=aM bP cN;clear c4 cN a0 ap ak;obtain⟨a0,ap,ak⟩:=bP.two;clear bP;go_wp2_with(fail);refine(gK dP.o (dS (o.length:Int)) (z:Int) (jj (is:=[]) (ps:=[]) (Sl.bG _) (Sl.bG _) (JQ _) (JQ _)) ab ab).mono ?_;rintro e ci ⟨rfl,fu,eA,ey,eF,di,dF⟩;have cB:Mv g (.slice dx aT.length dh) (.slice dE ay.length dN) bU (.slice fu (aT++[dS (o.length:Int)]).length eA) (.slice ey (ay++[(z:Int)]).length eF) ci:=by rw[JS,JS];exact dF
  have cS:=ad (ef.trans cB);clear dF cB a0 ap ak;have de:=di;obtain⟨ei,dT,dV,dX,⟨fT,dY⟩,cb⟩:=de.target (b:=o.length) (by simp only[JS,J1];omega) (((aT.length+1:Nat):Int));subst dT;obtain⟨fL,fi,fh,fO,ft,fs,fI,fg,ff,bK,_⟩:=di.blk
  try simp only[JS,J1] at bK
  have dZ:((o.length:Nat):Int)<(aT.length:Int)+1:=ab;obtain⟨dp,fe⟩:=aM cb di;clear cb de;obtain⟨a6,am,aI⟩:=bK.two;clear bK;go_wp2;refine eE (fun _=>False) [(0,3),(1,3),(2,3),(3,0),(4,3),(5,3),(6,3),(7,3),(8,0),(9,3),(10,3),(11,3),(12,2)] ?_
  iterate 3 refine pf ?_
  refine ph ?_
  iterate 4 refine pf ?_
  refine ph ?_
  iterate 3 refine pf ?_
  refine aq rfl (fun K hK=>?_);go_simp;refine eD hK ?_;clear hK K;refine aA ?_;generalize dg:World.setCell _ _ _=cY;clear a6 am aI dV dX dY dZ;obtain⟨dQ,dC⟩:=dp.o cY (by rw[←dg];simp);have dq:=(cS.trans dC).trans (Mv.gR (Fr.refl _ cY).drew);have b4:=ai (dQ.ak Kn.drew) (show Mv g (.slice bI code.length bO) (.slice bp sites.length a7) w (.slice (some ⟨ei,0,none⟩) (fG (aT++[dS (o.length:Int)]) o.length ((aT.length+1:Nat):Int)).length eA) (.slice ey (ay++[(z:Int)]).length eF) cY.drew by rw[cc];exact dq);clear dQ dC dq dg;go_wp2;refine⟨?_,by simp[jd,intOf];omega⟩;unfold iC
  iterate 240 apply Exists.intro
  refine⟨?_,rfl⟩;unfold nV;obtain⟨_,W,S,hS,bn,a3,bT,bB,be⟩:=ba.o
  exact⟨k+1,rest,aV,ac,aJ,eC,z+1+th.num,fG (aT++[dS (o.length:Int)]) o.length ((aT.length+1:Nat):Int),ay++[(z:Int)],aY,aF,bg,some ⟨ei,0,none⟩,eA,ey,eF,by go_num,ab,c5.symm,dD,ab,S.2.2,hS.mono bM,bn,by simp only[cc,JS,J1];omega,by simp only[cc,JS,J1];omega,ab,ab,b4.1,b4.2⟩
 | ret rest=>
  simp only[al.list,List.cons.injEq] at b6;obtain⟨rfl,c5⟩:=b6;have ag:af X wr.heap.size 192 #[.int .i64 9,.string ⟨#[]⟩,.int .i64 eo,.int .i64 en,.string es,.slice EA em ec,.string rs,.slice cj a9 rc,.slice ce n1 c1,.slice A2 n2 c2,.slice cf n3 c3]:=bh;clear bh;have cW:=ad ag;obtain⟨a0,ap,ak⟩:=ag.two;clear ag;go_wp2_with(fail);refine(gK y.o (mX) (z:Int) (jj (is:=[]) (ps:=[]) (Sl.bG _) (Sl.bG _) (JQ _) (JQ _)) ab ab).mono ?_;rintro e aN ⟨rfl,cE,b2,cF,cH,bL,dz⟩;have b4:=ai bL (eg.trans dz);clear bL dz a0 ap ak a6 am aI;go_wp2;refine⟨?_,by simp[jd,intOf];omega⟩;unfold iC
  iterate 240 apply Exists.intro
  refine⟨?_,rfl⟩;unfold nV;obtain⟨aW,W,S,hS,bn,a3,bT,bB,be⟩:=ba.o;have wf:=(show eN G d ac aJ rest by cases d<;>exact S)
  exact⟨k+1,rest,aV,ac,aJ,aZ,z+1,o++[mX],u++[(z:Int)],aY,aF,bg,cE,b2,cF,cH,by go_num,ab,c5.symm,aW,by simp only[al.num] at W;omega,wf,hS,bn,by simp only[al.num] at a3;simp only[JS,J1];omega,by simp only[JS,J1];omega,by simp only[al.num] at bB;omega,by simp only[al.num] at be;omega,b4.1,by rw[JS,JS];exact b4.2⟩
 ):p:=h
end Bv
open Bv in
theorem Gl(bl:al):BK bl:=by
 intro dA U nk F b G d l n st code sites g B bj ln lc bI bO bp a7 A m c w bu b9 dL b8 eL eI k aV ac aJ aZ z o u aY aF bg J Y an aB wr aw bA aW W S hS bn a3 bT bB be bk hM dc hQ0;intros
 conv=>arg 2;whnf
 have aj:k≤m:=ab;obtain⟨ee,cg,bw,eh,gj,er,cR,fU,cM,aL,_⟩:=bk.blk;obtain⟨gm,gY,s,cs,rfl,ge,a5,dG,f2,Z⟩:=(bu.cG hM).gN mW aw;have gg:(a2 s).rep wr (au wr) cs:=D.aF (fun _ h=>h.1) _ _ dG;obtain⟨eo,en,es,EA,em,ec,rs,cj,a9,rc,ce,n1,c1,A2,n2,c2,cf,n3,c3,rfl,eB⟩:=k1 dG;exact uR
end Go.Proofs.YtbkhhfajcgkpgaaGreat

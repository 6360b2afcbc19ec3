/- Part 34 of the proof. No condition of its own. -/
import Derived.Test.YtflecliffjbleaaGreatS33
namespace Go.Proofs.YtflecliffjbleaaGreat
open Go.RowKit Go.Proofs.Tryz
set_option maxRecDepth 1000000
set_option maxHeartbeats 25600000
set_option linter.unusedVariables false
variable{p:Prop}{w:World}
theorem xn{P:Program}{ops:Array Oper}{Q:Exit->Act->World->Prop}{R:World->World->Prop}{tails:List Nat}{α β γ δ ε ζ η:Type}{rest:PT}{aa:α->β->γ->δ->ε->ζ->η->Act}{C:α->β->γ->δ->ε->ζ->η->World->Prop}{G:Prop}
  (h:(∀a b c d e f g V,C a b c d e f g V->cR P ops Q R tails rest (aa a b c d e f g) V)->G) (key:∀a b c d e f g V,C a b c d e f g V->cR P ops Q R tails rest (aa a b c d e f g) V):G:=h key
theorem qw{P:Nat->Prop}(l:List bL):D.aO w P (l.map eC) (l.flatMap hk):=m7 (λ_=>fq.2 rfl) l
theorem tg{A:Mk}{n:Nat}{l:List bL}(h:Sl w (av w) A n (l.map eC)):Src w 3 A n (l.flatMap hk):=Src.lT (Sl.qx h) (Eo _) (EE _) ad
theorem H3:cm prog 24 114 (.agg #[.string ⟨#[]⟩,.int .i64 0,.int .i64 0,.int .i64 0,.slice none 0 0]) 5 64:=cm.mk' Tryz.underlying24 (by kernel_rfl) rfl ad
def xG(w:World)(u:aw)(e:Ending)(ab:World):Prop:=∃(GA:Mk) (gn gc:Nat) (MA:Mk) (mn mc:Nat) (PA:Mk) (pn pc:Nat),
 e=.returned (.tuple #[.agg #[.slice GA gn gc,.slice MA mn mc,.slice PA pn pc,.int .i64 u.main],.int .i64 0,.int .i64 0,.int .i64 0])/\(uj u).rep ab (fresh w ab) [.slice GA gn gc,.slice MA mn mc,.slice PA pn pc,.int .i64 u.main]/\Ext w ab
def HK(w:World)(x:cM)(e:Ending)(ab:World):Prop:=∃(A:Mk) (n c:Nat) (bE:Mk) (bK bw:Nat),
 e=.returned (.tuple #[.agg #[.string x.name,.int .i64 x.ints,.int .i64 x.ax,.int .i64 x.locals,.slice A n c],.slice bE bK bw,.int .i64 0,.int .i64 0])/\(gv x).rep ab (fresh w ab) [.string x.name,.int .i64 x.ints,.int .i64 x.ax,.int .i64 x.locals,.slice A n c]/\Ext w ab
def I1(p:bM):Prop:=∀(f:aG),f∈p.funcs->∀(GA:Mk) (gn gc:Nat) (MA:Mk) (mn mc:Nat) (FA:Mk) (fn fc:Nat) (bB:Mk) (ln lc:Nat) (PA:Mk) (pn pc:Nat) (fD:Mk) (bn bc:Nat) (w:World),
  hP w (av w) p GA gn MA mn FA fn->Sl w (av w) bB ln ((bm p).map bY)->Sl w (av w) PA pn (f.params.map cz)->Sl w (av w) fD bn (c7 f.body)->
  Calls prog 71 #[.agg #[.slice GA gn gc,.slice MA mn mc,.slice FA fn fc],.slice bB ln lc,.agg #[.string f.name,.slice PA pn pc,.slice fD bn bc]] w (HK w (eA p f))
namespace Dh
theorem dd(h:p:=by
 clear a8 am aJ;generalize hX:World.setCell _ _ _=dR;have J:=cJ hX;obtain⟨an,ay,b1,e1,a6⟩:=ca.o;have r1:Ext V dR:=Fr.low (M:=λb=>V.heap.size<=b) (((cM.1.trans e1).mono λ_ h=>h.elim).trans ((ay.mono λb O=>by have:=j b O;omega).trans (J.mono λb O=>ad))) λ_ h=>h;have gR:ao dR z 26 #[.slice cD (k+1) c3,.slice A2 mn bR,.slice none 0 0,.int .i64 mi]:=hX▸a6.aJ 0 _;have eV:=((cM.2.2.1.aj e1).dh ay.size λb ap hp=>ay.block b ap λhe=>by
  rcases hp with hp|hp
  .exact hp.elim
  .have:=j b he;have:=(co.o b hp).2;omega).dh J.size λb ap hp=>J.block b ap λhe=>by
  rcases hp with hp|hp
  .exact hp.elim
  .exact(co.o b hp).1 he
 have gZ:Gr (λ_=>False) aI 3 1 dR cD (k+1) c3 (((p.globals.take (k+1)).map (·.2)).map D.i):=by
  rw[aU aR.o,LJ,LJ];exact an.dh J.size λb ap hp=>J.block b ap λhe=>by
   rcases hp with hp|hp
   .exact hp.elim
   .have:=(an.lt hp).1;omega
 have g0:aI<=dR.heap.size:=by have ac:=e1.size;have ax:=ay.size;have a1:=J.size;omega
 have a2:=cX r1 gR eV gZ g0;clear r1 gR eV gZ g0 an ay b1 e1 a6 J hX;go_wp2;go_roundw
 case rel=>exact⟨k+1,cD,c3,ad,by go_num,a2.o⟩
 case measure=>exact aE
 ):p:=h
theorem fO(h:p:=by
 refine ck ?_;generalize hX:World.setCell _ _ _=X;obtain⟨du,dv,bD,bl⟩:=bF.o;obtain⟨cE,bz,b6⟩:=bs (w:=V) [.slice none 0 0,.slice A2 mn bR,.slice none 0 0,.int .i64 mi] (by rfl) bD du ad hX;have bW:=dv.dh b6.size λb ap hp=>b6.block b ap λhe=>by
  subst he;rcases hp with hp|hp
  .exact hp.elim
  .exact bl hp
 obtain⟨aI,bk⟩:∃N,N=X.heap.size:=⟨_,rfl⟩
 have aX:∀b,(Value.slice A2 mn bR).ownBlock=some b->b≠z/\b<aI:=λb O=>⟨λe=>bl (by rw[<-e];exact O),by have:=(bW.lt O).2;omega⟩
 have co:=ae aX;have bP:=ae (show Ext V X/\ao X z 26 #[.slice none 0 0,.slice A2 mn bR,.slice none 0 0,.int .i64 mi]/\Gr (λ_=>False) cN 131 3 X A2 mn bR (p.af.map eC)/\Gr (λ_=>False) aI 3 1 X none 0 0 (((p.globals.take 0).map (·.2)).map D.i)/\aI<=X.heap.size from ⟨bz,cE,bW,Gr.nil _ _ _ _ _,ad⟩);have dZ:z<aI:=by have:=cE.lt;omega
 clear bF hX cE bz b6 bW du dv bD bl aX a8 am aJ;have bv:=cg.aj bP.1;obtain⟨a0,ak,af⟩:=bv.two;clear bv;go_wp2;clear a0 ak af;go_loopw [11] (λcw wr=>∃(k:Nat) (A:Mk) (c:Nat),k<=gn/\cw=.int .i64 k/\Ext V wr/\ao wr z 26 #[.slice A k c,.slice A2 mn bR,.slice none 0 0,.int .i64 mi]/\Gr (λ_=>False) cN 131 3 wr A2 mn bR (p.af.map eC)/\Gr (λ_=>False) aI 3 1 wr A k c (((p.globals.take k).map (·.2)).map D.i)/\aI<=wr.heap.size) (λcw _=>gn - (intOf cw).toNat)
 case atStart=>exact⟨0,none,0,ad,rfl,bP.o⟩
 case round=>
  obtain⟨k,A,c,aj,rfl,aF,hU,H,s,b5⟩:=hrel;clear bP;have cM:=cX aF hU H s b5;have be:=cg.aj aF;obtain⟨a0,ak,af⟩:=be.two;obtain⟨a8,am,aJ⟩:=hU.two;by_cases ap:k<gn
  .obtain⟨b,o,g,cs,rfl,O,hx,a9,bq,Z⟩:=(L.o _ (cd.trans aF)).g.g9 pd ap;obtain rfl:=mQ.1 a9;have c8:=Z 1 _ rfl;have a4:b<wr.heap.size:=O;have aR:=ae hx;clear aF hU H s be a9 bq Z O hx;go_wp2;refine eK (λ_=>False) [(0,3),(1,0),(2,3),(3,0),(4,3),(5,3),(6,3),(7,0),(8,1),(9,2),(10,3),(11,2)] ?_;refine pf ?_;refine ph ?_;refine pf ?_;refine ph ?_
   iterate 3 refine pf ?_
   refine ph ?_;refine ry ?_;generalize hV:World.drew (World.alloc _ _)=dn;have e1:=hh hV;have cx:ao dn wr.heap.size 3 #[.int .i64 g.2]:=hV▸(Mh).drew;clear hV;refine au rfl (λK hK=>?_);rw[if_pos (by rfl)];refine fm cU (.tmp 69) (.tmp 76) (by rfl) (cM.2.2.2.1.aj e1) cx (show (D.i g.2).rep dn _ _ from by simp only[D.rep]) (by rfl) (by rfl) (by rfl) ad ad (aB e1.size) ?_;intro cD c3 cI an ay b1 cf;have j:∀b,(Value.slice A k c).ownBlock=some b->aI<=b:=λb O=>(cM.2.2.2.1.lt O).1;have a6:=(cM.2.1.aj e1).on ay λO=>by have:=j _ O;omega
   have ca:=cX an ay b1 e1 a6;clear an ay b1 e1 cx a0 ak af a8 am aJ c8 a4;obtain⟨a8,am,aJ⟩:=a6.two;clear a6;exact ny
  .obtain rfl:gn=k:=ad;rw[LK (by rw[b2.1];exact Lz _)] at s;obtain⟨S,r⟩:∃N,N=wr.heap.size:=⟨_,rfl⟩
   have dH:=hU.lt;have dW:z<S:=ad;have dg:∀b,(Value.slice A gn c).ownBlock=some b->b≠z/\b<S:=λb O=>⟨by have:=(s.lt O).1;omega,by have:=(s.lt O).2;omega⟩
   have cG:=ae dg;have dV:aI<=S:=ad;have dh:=ae (show Ext V wr/\ao wr z 26 #[.slice A gn c,.slice A2 mn bR,.slice none 0 0,.int .i64 mi]/\Gr (λ_=>False) cN 131 3 wr A2 mn bR (p.af.map eC)/\Gr (λ_=>False) aI 3 1 wr A gn c ((p.globals.map (·.2)).map D.i)/\Gr (λb=>S<=b) S 114 5 wr none 0 0 (((p.funcs.take 0).map (eA p)).map gv)/\S<=wr.heap.size from ⟨aF,hU,H,s,Gr.nil _ _ _ _ _,ad⟩);clear cM aF hU H s be dg dH a8 am aJ aj ap;generalize A=cp at *;generalize c=c1 at *;go_wp2;clear a0 ak af;go_loopw [12] (λcw wr=>∃(k:Nat) (A:Mk) (c:Nat),k<=fn/\cw=.int .i64 k/\Ext V wr/\ao wr z 26 #[.slice cp gn c1,.slice A2 mn bR,.slice A k c,.int .i64 mi]/\Gr (λ_=>False) cN 131 3 wr A2 mn bR (p.af.map eC)/\Gr (λ_=>False) aI 3 1 wr cp gn c1 ((p.globals.map (·.2)).map D.i)/\Gr (λb=>S<=b) S 114 5 wr A k c (((p.funcs.take k).map (eA p)).map gv)/\S<=wr.heap.size) (λcw _=>fn - (intOf cw).toNat)
   case atStart=>exact⟨0,none,0,ad,rfl,dh.o⟩
   case round=>
    obtain⟨k,A,c,aj,rfl,aF,hU,H,s,aT,b5⟩:=hrel;clear dh;have cM:=dI aF hU H s aT b5;have be:=cg.aj aF;obtain⟨a0,ak,af⟩:=be.two;by_cases ap:k<fn
    .obtain⟨b,o,f,cs,I,O,hx,a9,bq,Z⟩:=(L.o _ (cd.trans aF)).f.g9 nH ap;injection I with I;injection I with hFA1 hFA2;subst hFA1 hFA2;obtain⟨QA,b8,qc,m,ab,U,rfl,b0,dJ,dx,ci⟩:=lh.1 a9;have c0:=Z 0 _ rfl;have c8:=Z 1 _ rfl;have bU:=Z 2 _ rfl;simp only[LM] at c0;have a4:ch<wr.heap.size:=O;have aR:=aA hx dx ci;have dE:=L.o _ (cd.trans aF);have dC:=dl.on (Fr.ext aF);have u:=ah dE dC;clear aF hU H s aT be a9 bq Z O hx dx ci dE dC;go_upto_region 17 with(fail);refine tw (λ_=>False) [7,14] (.held 0 (.free 1 (.free 2 (.held 3 (.free 4 (.free 5 (.held 6 (.pick [7,13] (λi=>bif i == 7 then .free 8 (.free 9 (.free 10 (.free 11 (.free 12 (.pick [13] (λ_=>.pick [14] (λ_=>.free 15 (.free 16 (.free 17 (.stop)))))))))) else .pick [7] (λ_=>.free 8 (.free 9 (.free 10 (.free 11 (.free 12 (.pick [14] (λ_=>.free 15 (.free 16 (.free 17 (.stop))))))))))))))))))) ?_;refine th ?_
     iterate 2 refine tf ?_
     refine th ?_
     iterate 2 refine tf ?_
     refine th ?_;clear a0 ak af c0 c8 bU;refine xn (P:=?Kt) (ops:=?KF) (Q:=?KG) (R:=?KH) (tails:=?KI) (rest:=.pick [14] (λ_=>.free 15 (.free 16 (.free 17 (.stop))))) (aa:=?Ku)
      (C:=λ(de:Nat) (cc:Mk) (bZ rc:Nat) (bE:Mk) (bK bw:Nat) fg=>Ext wr fg/\ao fg de 114 #[.string ⟨#[]⟩,.int .i64 0,.int .i64 0,.int .i64 0,.slice none 0 0]/\wr.heap.size<=de/\(gv (eA p f)).rep fg (λb=>wr.heap.size<=b/\b<fg.heap.size/\b≠de) [.string (eA p f).name,.int .i64 (eA p f).ints,.int .i64 (eA p f).ax,.int .i64 (eA p f).locals,.slice cc bZ rc]) (λkey=>?Jv) ?Jq
     case Jv=>
      refine a5 ?_ ?_
      ·
       refine bN rfl (λK hK=>?_) rfl;go_simp;refine(c4.o f (LF aR.1) GA gn gc MA mn mc (some ⟨ch,dc,none⟩) fn fc bB (bm p).length lc QA b8 qc m ab U wr.drew ⟨u.1.g.on (Fr.ext Mg.drew),u.1.m.on (Fr.ext Mg.drew),u.1.f.on (Fr.ext Mg.drew)⟩ (u.2.on (Fr.ext Mg.drew)) (aR.2.1.on (Fr.ext Mg.drew)) (aR.2.2.on (Fr.ext Mg.drew))).mono ?_;rintro e aP ⟨cc,bZ,rc,bE,bK,bw,rfl,bX,ar⟩;refine dU hK ?_;clear hK K
       iterate 5 refine tf ?_
       refine aq ?_;refine eu ?_;have F:Ext wr (aP.alloc (.cells #[.string ⟨#[]⟩,.int .i64 0,.int .i64 0,.int .i64 0,.slice none 0 0] 114))/\ao (aP.alloc (.cells #[.string ⟨#[]⟩,.int .i64 0,.int .i64 0,.int .i64 0,.slice none 0 0] 114)) aP.heap.size 114 #[.string ⟨#[]⟩,.int .i64 0,.int .i64 0,.int .i64 0,.slice none 0 0]/\wr.heap.size<=aP.heap.size/\(gv (eA p f)).rep (aP.alloc (.cells #[.string ⟨#[]⟩,.int .i64 0,.int .i64 0,.int .i64 0,.slice none 0 0] 114)) (λb=>wr.heap.size<=b/\b<(aP.alloc (.cells #[.string ⟨#[]⟩,.int .i64 0,.int .i64 0,.int .i64 0,.slice none 0 0] 114)).heap.size/\b≠aP.heap.size) [.string (eA p f).name,.int .i64 (eA p f).ints,.int .i64 (eA p f).ax,.int .i64 (eA p f).locals,.slice cc bZ rc]:=
        ⟨(Fr.aF ar).alloc _,Mh,(Fr.aF ar).size,D.aK (λb O=>⟨O.1,by have:=O.2;simp;omega,by have:=O.2;omega⟩) _ _ (D.aP (λb O=>Below.heap_alloc aP _ b O.2) _ _ bX)⟩
       clear bX ar;revert F;generalize aP.heap.size=de;intro F;exact key de cc bZ rc bE bK bw _ F
      ·
       refine eu ?_;generalize hV:World.alloc _ _=bx;have cq:=aZ hV;have be:=aN hV;clear hV;refine aq ?_;refine bN rfl (λK hK=>?_) rfl;go_simp;refine(c4.o f (LF aR.1) GA gn gc MA mn mc (some ⟨ch,dc,none⟩) fn fc bB (bm p).length lc QA b8 qc m ab U bx.drew ⟨u.1.g.on (Fr.ext cq.drew),u.1.m.on (Fr.ext cq.drew),u.1.f.on (Fr.ext cq.drew)⟩ (u.2.on (Fr.ext cq.drew)) (aR.2.1.on (Fr.ext cq.drew)) (aR.2.2.on (Fr.ext cq.drew))).mono ?_;rintro e aP ⟨cc,bZ,rc,bE,bK,bw,rfl,bX,ar⟩;refine dU hK ?_;clear hK K
       iterate 5 refine tf ?_
       have cy:=be.lt;have F:Ext wr aP/\ao aP wr.heap.size 114 #[.string ⟨#[]⟩,.int .i64 0,.int .i64 0,.int .i64 0,.slice none 0 0]/\wr.heap.size<=wr.heap.size/\(gv (eA p f)).rep aP (λb=>wr.heap.size<=b/\b<aP.heap.size/\b≠wr.heap.size) [.string (eA p f).name,.int .i64 (eA p f).ints,.int .i64 (eA p f).ax,.int .i64 (eA p f).locals,.slice cc bZ rc]:=
        ⟨cq.trans (Fr.aF ar),be.aj (Fr.aF ar),Lz _,D.aK (λb O=>⟨by have ac:bx.heap.size<=b:=O.1;omega,O.2,by have ac:bx.heap.size<=b:=O.1;omega⟩) _ _ bX⟩
       clear bX ar cq be cy;exact key wr.heap.size cc bZ rc bE bK bw _ F
     case Jq=>
      rintro de cc bZ rc bE bK bw fg ⟨ds,ai,dt,bX⟩;obtain⟨d0,aK,aO⟩:=ai.two;have ag:=aA ds ai bX;clear ds ai bX;refine aq ?_;refine bN rfl (λK hK=>?_) rfl;go_simp;refine dU hK ?_;clear hK K
      iterate 3 refine tf ?_
      refine ck ?_;generalize hX:World.setCell _ _ _=g6;obtain⟨ds,ai,bX⟩:=ag.o;obtain⟨be,b7,bo⟩:=bs (w:=wr) [.string (eA p f).name,.int .i64 (eA p f).ints,.int .i64 (eA p f).ax,.int .i64 (eA p f).locals,.slice cc bZ rc] (by rfl) ai ds dt hX;have cu:=cM.2.1.aj b7;have bG:=cM.2.2.2.2.1.aj b7;have az:∀b,(Value.slice A k c).ownBlock=some b->b<wr.heap.size:=λb O=>(cM.2.2.2.2.1.lt O).2;have dX:=bo.size;have d3:=b7.size;have hd:(gv (eA p f)).rep g6 (ly (λb=>S<=b) g6 (.slice A k c)) [.string (eA p f).name,.int .i64 (eA p f).ints,.int .i64 (eA p f).ax,.int .i64 (eA p f).locals,.slice cc bZ rc]:=
       D.aK (λb O=>⟨by have:=O.1;omega,by have:=O.2.1;omega,λhc=>by have:=az b hc;have:=O.1;omega⟩) _ _ (D.aP (λb O=>bo.block b O.2.1 O.2.2) _ _ bX)
      have dL:=aA b7 bG hd;clear hX ds ai bX bo bG hd d0 aK aO ag az b7;obtain⟨d0,aK,aO⟩:=be.two;obtain⟨a8,am,aJ⟩:=cu.two;have dS:=ae cu;clear be cu;go_wp2_with((at_builtin;refine bI H3 rfl (.tmp 106) (.tmp 108) rfl dL.2.1 dL.2.2 rfl rfl rfl ad ad ad ?_;intro cD c3 cL an ay b1 cf;have cB:=dS.on ay (λO=>by have:=(dL.2.1.lt O).1;omega);clear a8 am aJ d0 aK aO;obtain⟨a8,am,aJ⟩:=cB.two;have dT:=ae cB;clear cB));generalize hX:World.setCell _ _ _=dz;have cQ:=cJ hX;have b7:=dL.1;have j:∀b,(Value.slice A k c).ownBlock=some b->S<=b:=λb O=>(dL.2.1.lt O).1;have dM:(((p.funcs.take (k+1)).map (eA p)).map gv)=((p.funcs.take k).map (eA p)).map gv++[gv (eA p f)]:=by rw[aU aR.1,LJ,LJ];rfl
      have q1:Ext V dz:=Fr.low (M:=λb=>V.heap.size<=b) (((cM.1.trans b7).mono λ_ h=>h.elim).trans ((ay.mono λb O=>by have:=j b O;omega).trans (cQ.mono λb O=>ad))) λ_ h=>h;have cO:ao dz z 26 #[.slice cp gn c1,.slice A2 mn bR,.slice cD (k+1) c3,.int .i64 mi]:=hX▸dT.aJ 2 _;have da:=((cM.2.2.1.aj b7).dh ay.size λb ap hp=>ay.block b ap λhe=>by
       rcases hp with hp|hp
       .exact hp.elim
       .have:=j b he;have:=(co.o b hp).2;omega).dh cQ.size λb ap hp=>cQ.block b ap λhe=>by
       rcases hp with hp|hp
       .exact hp.elim
       .exact(co.o b hp).1 he
      have db:=((cM.2.2.2.1.aj b7).dh ay.size λb ap hp=>ay.block b ap λhe=>by
       rcases hp with hp|hp
       .exact hp.elim
       .have:=j b he;have:=(cG.o b hp).2;omega).dh cQ.size λb ap hp=>cQ.block b ap λhe=>by
       rcases hp with hp|hp
       .exact hp.elim
       .exact(cG.o b hp).1 he
      have q5:Gr (λb=>S<=b) S 114 5 dz cD (k+1) c3 (((p.funcs.take (k+1)).map (eA p)).map gv):=by
       rw[dM];exact an.dh cQ.size λb ap hp=>cQ.block b ap λhe=>by
        rcases hp with hp|hp
        .omega
        .have:=(an.lt hp).1;omega
      have dp:S<=dz.heap.size:=by have ac:=b7.size;have ax:=ay.size;have a1:=cQ.size;omega
      have a2:=dI q1 cO da db q5 dp;clear q1 cO da db q5 dp an ay b1 b7 cQ hX j dM a8 am aJ;go_wp2;go_roundw
      case rel=>exact⟨k+1,cD,c3,ad,by go_num,a2.o⟩
      case measure=>exact aE
    .obtain rfl:fn=k:=ad;rw[LK (by rw[b2.2.2];exact Lz _)] at aT;have bt:=br.aj aF;have d2:w.heap.size+1<V.heap.size:=br.lt;have cz:=ae hU;obtain⟨a8,am,aJ⟩:=hU.two;obtain⟨d0,aK,aO⟩:=bt.two;obtain⟨c2,c7⟩:=aH bt aT;clear aF hU H s aT be bt;go_wp2;generalize hX:World.setCell _ _ _=gL;obtain⟨gy,cR,bO⟩:=bs (w:=w) [.slice cp gn c1,.slice A2 mn bR,.slice A fn c,.int .i64 mi] (by rfl) c2.o (cd.trans cM.1) (Nat.le_succ _) hX;obtain⟨bp,aM,aV⟩:=gy.two;clear a8 am aJ d0 aK aO a0 ak af;refine Mf (v:=.tuple #[.agg #[.slice cp gn c1,.slice A2 mn bR,.slice A fn c,.int .i64 mi],.int .i64 0,.int .i64 0,.int .i64 0]) (by simp[results,Tryz.results32,go_sem,bp]) rfl ?_;have bh:(gV p).main=(mi:Int):=by
      show jv (bm p) iN=_
      unfold jv;rw[show iN=⟨#[109,97,105,110]⟩ from rfl,dj.o]
     have ff:=cd.size;have d4:=bO.size;have aG:∀b,V.heap.size<=b->b<wr.heap.size->gL.heap[b]?=wr.heap[b]?:=λb ac ax=>bO.block b ax ad;have c6:=cM.2.2.1.dh bO.size λb ap hp=>by
      rcases hp with hp|hp
      .exact hp.elim
      .exact aG b (by have:=(cM.2.2.1.lt hp).1;omega) ap
     have cY:=cM.2.2.2.1.dh bO.size λb ap hp=>by
      rcases hp with hp|hp
      .exact hp.elim
      .exact aG b (by have:=(cM.2.2.2.1.lt hp).1;omega) ap
     have c5:=c7.dh bO.size λb ap hp=>by
      rcases hp with hp|hp
      .exact aG b ad ap
      .exact aG b (by have:=(c7.lt hp).1;omega) ap
     refine⟨cp,gn,c1,A2,mn,bR,A,fn,c,by rw[bh],?_,cR⟩;unfold uj;rw[bh,bJ];exact aL.2 ⟨cp,gn,c1,_,rfl,cY.cap.1,cY.sl (λb _ h=>h.elim) (λb ac ax=>⟨ad,ac⟩),aL.2 ⟨A2,mn,bR,_,rfl,c6.cap.1,c6.sl (λb _ h=>h.elim) (λb ac ax=>⟨ad,ac⟩),
      aL.2 ⟨A,fn,c,_,rfl,c5.cap.1,c5.sl (λb ac ax=>⟨ad,ac⟩) (λb ac ax=>⟨ad,ac⟩),bf.2 ⟨_,rfl,aQ.2 rfl⟩⟩⟩⟩
 ):p:=h
theorem sP(h:p:=by
 have cr:(bm p).length<=100:=by rw[ld];omega
 obtain⟨mi,bi,aY,dQ,cF⟩:=hp.main;have bC:dD (bm p) ⟨#[109,97,105,110]⟩=some ⟨⟨#[109,97,105,110]⟩,3,(mi:Int)⟩:=by
  have:=lv (om hp) (LF (x3 aY));rw[dQ] at this;exact this
 have bb:mi<fn:=by have:=(List.getElem?_eq_some_iff.1 aY).1;omega
 obtain⟨cC,cj,c4,dj⟩:=jc h hp dB bC;have dm:=ah aY cF;have b2:=aA dq lm lf;have dN:=ae cr;clear h hp dB bC aY dQ cF dq lm lf cr;go_enter func32,ntmps32;go_upto_region 1 with(fail);generalize bd:World.alloc _ _=W;have aF:=hi bd;have aS:=fx bd;have dA:=eX bd;obtain⟨bj,bH,dr⟩:=eS aF aS dA;obtain⟨a0,ak,af⟩:=aS.two;have dO:∀(aP:World),Ext w aP->hP aP (av aP) p GA gn MA mn FA fn:=λ_ he=>⟨cC.g.on (Fr.ext he),cC.m.on (Fr.ext he),cC.f.on (Fr.ext he)⟩
 have L:=ae dO;clear bd aF aS dA dO;go_wp2_with(fail);refine(GH p cj.o GA gn gc MA mn mc FA fn fc W (L.o _ bj.o)).mono ?_;rintro e aP ⟨rfl,ar⟩;have bu:=ae (bj.trans ar);have cn:=bH.aj ar;have G:=ae cn;have cS:=ae (dr.aj ar);clear a0 ak af ar;obtain⟨a0,ak,af⟩:=cn.two;clear cn;go_wp2_with(fail);refine(sZ p cj.o GA gn gc MA mn mc FA fn fc aP (L.o _ bu.o)).mono ?_;rintro e aW ⟨bB,lc,rfl,y,bL⟩;have a7:=ae (bu.trans bL);have bV:=G.aj bL;have b9:=ae bV;have cV:=ae (cS.aj bL);have bS:Sl aW (av aW) bB (bm p).length ((bm p).map bY):=y.mono λb O=>O.2;have cm:=ae bS;clear a0 ak af bL y bS;obtain⟨a0,ak,af⟩:=bV.two;clear bV;go_wp2_with(fail);refine(eg bB (bm p).length lc (bm p) ⟨#[109,97,105,110]⟩ aW cm.o (aB dN.o)).mono ?_;rintro e b4 ⟨rfl,bT⟩;rw[dj.o];simp only[jg,rr];have ba:=ae (a7.trans bT);have a3:=ae (b9.aj bT);have cZ:=ae (cV.aj bT);have di:=ae (cm.on (Fr.ext bT));clear a0 ak af bT;go_upto_region 7 with(fail);generalize hV:World.alloc _ _=V;have T:=aZ hV;have cW:=aN hV;have cd:=ae (ba.trans T);have bQ:=a3.aj T;have cg:=ae bQ;have br:=ae (cZ.aj T);have dl:=ae (di.on (Fr.ext T));have dY:=ae cW;obtain⟨ch,dc,bg,cs,rfl,cA,al,b3,cK,aw⟩:=(L.o _ cd.o).f.g9 nH bb;rw[dm.1] at al;injection al with al;subst al;obtain⟨PA,pn,pc,fD,bn,bc,rfl,c9,cv,cl,_⟩:=lh.1 b3;have f4:=aw 1 _ rfl;have ct:ch<V.heap.size:=cA;obtain rfl:0=pn:=by have:=cl.1;rw[dm.2] at this;exact this
 clear hV T b3 cK aw cl cA;obtain⟨a0,ak,af⟩:=bQ.two;obtain⟨a8,am,aJ⟩:=cW.two;clear bQ cW;go_upto_region 9 with(fail);have df:=ae (L.o _ cd.o).m;obtain⟨cN,dw⟩:∃N,N=V.heap.size:=⟨_,rfl⟩
 have gC:¬cN<=w.heap.size:=ad;have gD:¬cN<=b4.heap.size:=ad;clear f4 ct;refine tw (λb=>cN<=b) [8] (.free 0 (.held 1 (.free 3 (.held 4 (.pick [2,7] (λi=>bif i == 2 then .pick [5,7] (λi=>bif i == 5 then .free 6 (.pick [7] (λ_=>.pick [8] (λ_=>.stop))) else .pick [5] (λ_=>.free 6 (.pick [8] (λ_=>.stop)))) else .pick [2] (λ_=>.pick [5] (λ_=>.free 6 (.pick [8] (λ_=>.stop)))))))))) ?_;refine tf ?_;refine oV ?_;refine tf ?_;refine oV ?_;clear a0 ak af a8 am aJ;refine iW (P:=?pI) (ops:=?IM) (Q:=?IP) (R:=?IQ) (tails:=?IT) (rest:=.pick [8] (λ_=>.stop)) (aa:=?IL)
  (C:=λ(_:Nat) z A2 bR fg=>Ext V fg/\Gr (λ_=>False) cN 131 3 fg A2 mn bR (p.af.map eC)/\ao fg z 26 #[.slice none 0 0,.slice none 0 0,.slice none 0 0,.int .i64 0]/\(Value.slice A2 mn bR).ownBlock≠some z/\cN<=z) (λkey=>?ze) ?y7
 case ze=>
  refine a5 ?_ ?_
  ·
   refine eu ?_;generalize hV:World.drew (World.alloc _ _)=bx;have e1:=hh hV;have cT:Gr (λ_=>False) cN 131 3 bx (some ⟨V.heap.size,0,none⟩) 0 0 []:=by rw[<-hV,dw];exact(Gr.lit (w:=V) (n:=0) (l:=[]) rfl (by rfl) ad (by simp only[D.aO])).aj Mg.drew
   clear hV;refine a5 ?_ ?_
   ·
    refine aD rfl (λK hK=>?_) rfl;rw[if_pos (by rfl)];refine jz l7 (.tmp 56) (.tmp 58) (by rfl) cT (qw p.af) df.1 (tg (df.on (Fr.ext e1))) (λh=>by subst h;exact Sl.none_ df.o) (by rfl) (by rfl) ad ad (by rw[dw];exact e1.size) ?_;intro A2 bR cL ce f1 o1 c1;refine dP hK (f1.mono λb O=>ad) ?_;clear hK K;refine tf ?_;refine aq ?_;refine eu ?_;have e2:Ext V cL:=Fr.low (M:=λb=>V.heap.size<=b) ((e1.mono λ_ h=>h.elim).trans (f1.mono λb O=>ad)) λ_ h=>h;have F:Ext V (cL.alloc (.cells #[.slice none 0 0,.slice none 0 0,.slice none 0 0,.int .i64 0] 26))/\Gr (λ_=>False) cN 131 3 (cL.alloc (.cells #[.slice none 0 0,.slice none 0 0,.slice none 0 0,.int .i64 0] 26)) A2 mn bR (p.af.map eC)/\ao (cL.alloc (.cells #[.slice none 0 0,.slice none 0 0,.slice none 0 0,.int .i64 0] 26)) cL.heap.size 26 #[.slice none 0 0,.slice none 0 0,.slice none 0 0,.int .i64 0]/\(Value.slice A2 mn bR).ownBlock≠some cL.heap.size/\cN<=cL.heap.size:=
     ⟨e2.alloc _,ce.aj (Mg.alloc _),Mh,λO=>by have:=(ce.lt O).2;omega,by have:=e2.size;omega⟩
    clear ce cT f1 o1 e1 e2;revert F;generalize cL.heap.size=z;generalize V.heap.size=eW;intro F;exact key eW z A2 bR _ F
   ·
    refine eu ?_;generalize hV:World.alloc _ _=eJ;have e2:=aZ hV;have cb:ao eJ bx.heap.size 26 #[.slice none 0 0,.slice none 0 0,.slice none 0 0,.int .i64 0]:=hV▸Mh;have dF:V.heap.size<bx.heap.size:=(cT.lt (g:=V.heap.size) rfl).2;clear hV;refine aq ?_;refine aD rfl (λK hK=>?_) rfl;rw[if_pos (by rfl)];refine jz l7 (.tmp 56) (.tmp 58) (by rfl) (cT.aj e2) (qw p.af) df.1 (tg (df.on (Fr.ext (e1.trans e2)))) (λh=>by subst h;exact Sl.none_ df.o) (by rfl) (by rfl) ad ad (by rw[dw];exact(e1.trans e2).size) ?_;intro A2 bR cL ce f1 o1 c1;refine dP hK (f1.mono λb O=>ad) ?_;clear hK K;refine tf ?_;have e3:Ext V cL:=Fr.low (M:=λb=>V.heap.size<=b) (((e1.trans e2).mono λ_ h=>h.elim).trans (f1.mono λb O=>ad)) λ_ h=>h;have dK:=cb.lt;have F:Ext V cL/\Gr (λ_=>False) cN 131 3 cL A2 mn bR (p.af.map eC)/\ao cL bx.heap.size 26 #[.slice none 0 0,.slice none 0 0,.slice none 0 0,.int .i64 0]/\(Value.slice A2 mn bR).ownBlock≠some bx.heap.size/\cN<=bx.heap.size:=⟨e3,ce,cb.on f1 ad,λO=>by
     rcases o1 _ O with h|h
     .omega
     .omega,ad⟩
    clear ce cT f1 o1 e1 e2 e3 cb dF dK;revert F;generalize bx.heap.size=z;generalize V.heap.size=eW;intro F;exact key eW z A2 bR _ F
  ·
   refine eu ?_;generalize hV:World.drew (World.alloc _ _)=bx;have e1:=hh hV;have cb:ao bx V.heap.size 26 #[.slice none 0 0,.slice none 0 0,.slice none 0 0,.int .i64 0]:=hV▸(Mh).drew;clear hV;refine aq ?_;refine eu ?_;generalize hV:World.alloc _ _=eJ;have e2:=aZ hV;have cT:Gr (λ_=>False) bx.heap.size 131 3 eJ (some ⟨bx.heap.size,0,none⟩) 0 0 []:=hV▸Gr.lit (w:=bx) (n:=0) (l:=[]) rfl (by rfl) ad (by simp only[D.aO]);have dk:=cb.aj e2;have dF:V.heap.size<bx.heap.size:=cb.lt;have dy:bx.heap.size<=eJ.heap.size:=e2.size;clear hV cb;refine aq ?_;refine aD rfl (λK hK=>?_) rfl;rw[if_pos (by rfl)];refine jz l7 (.tmp 56) (.tmp 58) (by rfl) cT (qw p.af) df.1 (tg (df.on (Fr.ext (e1.trans e2)))) (λh=>by subst h;exact Sl.none_ df.o) (by rfl) (by rfl) ad ad dy ?_;intro A2 bR cL ce f1 o1 c1;refine dP hK (f1.mono λb O=>ad) ?_;clear hK K;refine tf ?_;have e3:Ext V cL:=Fr.low (M:=λb=>V.heap.size<=b) (((e1.trans e2).mono λ_ h=>h.elim).trans (f1.mono λb O=>ad)) λ_ h=>h;have F:Ext V cL/\Gr (λ_=>False) cN 131 3 cL A2 mn bR (p.af.map eC)/\ao cL V.heap.size 26 #[.slice none 0 0,.slice none 0 0,.slice none 0 0,.int .i64 0]/\(Value.slice A2 mn bR).ownBlock≠some V.heap.size/\cN<=V.heap.size:=⟨e3,ce.base ad,dk.on f1 ad,λO=>by have:=(ce.lt O).1;omega,ad⟩
   clear ce cT f1 o1 e1 e2 e3 dk dF dy;revert F;generalize bx.heap.size=eW;generalize V.heap.size=z;intro F;exact key eW z A2 bR _ F
 case y7=>
  rintro eW z A2 bR Y ⟨du,dv,bD,bl,d1⟩;obtain⟨a8,am,aJ⟩:=bD.two;have bF:=bA du dv bD bl;clear du dv bD bl;exact gr
 ):p:=h
end Dh
open Dh in
theorem zb(p:bM)(hp:pB p)(dB:I1 p)(GA:Mk)(gn gc:Nat)(MA:Mk)(mn mc:Nat)(FA:Mk)(fn fc:Nat)(w:World)(h:hP w (av w) p GA gn MA mn FA fn) :
  Calls prog 32 #[.agg #[.slice GA gn gc,.slice MA mn mc,.slice FA fn fc]] w (xG w (gV p)):=by
 have dq:p.globals.length=gn:=by rw[<-h.g.1,LG]
 have lm:p.af.length=mn:=by rw[<-h.m.1,LG]
 have lf:p.funcs.length=fn:=by rw[<-h.f.1,LG]
 exact sO
theorem J3(p:bM)(hp:pB p):I1 p:=λf J GA gn gc MA mn mc FA fn fc bB ln lc PA pn pc fD bn bc w h hl cl bt=>
 (s7 (λU nk F b=>yM Gl U nk F b) p hp f J GA gn gc MA mn mc FA fn fc bB ln lc PA pn pc fD bn bc w h hl cl bt).mono λ_ _ h=>h
theorem Ev(p:bM)(hp:pB p)(GA:Mk)(gn gc:Nat)(MA:Mk)(mn mc:Nat)(FA:Mk)(fn fc:Nat)(w:World)(h:hP w (av w) p GA gn MA mn FA fn) :
  Calls prog 32 #[.agg #[.slice GA gn gc,.slice MA mn mc,.slice FA fn fc]] w (xG w (gV p)):=zb p hp (J3 p hp) GA gn gc MA mn mc FA fn fc w h
end Go.Proofs.YtflecliffjbleaaGreat

/- Part 40 of the proof. No condition of its own. -/
import Derived.Test.YtnigabjngpnbiaaGreatQ34
import Derived.Test.YtnigabjngpnbiaaGreatQ38
namespace Go.Proofs.YtnigabjngpnbiaaGreat
open Go.RowKit Go.Proofs.Tryz
set_option maxRecDepth 1000000
set_option maxHeartbeats 25600000
set_option linter.unusedVariables false
variable{p:Prop}{w:World}
theorem vo{P:Program}{ops:Array Oper}{Q:Exit->Act->World->Prop}{R:World->World->Prop}{tails:List Nat}{α β γ δ ε ζ η:Type}{rest:PT}{aa:α->β->γ->δ->ε->ζ->η->Act}{C:α->β->γ->δ->ε->ζ->η->World->Prop}{G:Prop}
  (h:(∀a b c d e f g V,C a b c d e f g V->cW P ops Q R tails rest (aa a b c d e f g) V)->G) (key:∀a b c d e f g V,C a b c d e f g V->cW P ops Q R tails rest (aa a b c d e f g) V):G:=h key
theorem oF{P:Nat->Prop}(l:List bI):D.aR w P (l.map eL) (l.flatMap fO):=lV (λ_=>ih.2 rfl) l
theorem ry{A:Kj}{n:Nat}{l:List bI}(h:Sl w (ao w) A n (l.map eL)):Src w 3 A n (l.flatMap fO):=Src.kL (Sl.na h) (C6 _) (Dl _) ad
theorem Gu:cA prog 24 103 (.agg #[.string ⟨#[]⟩,.int .i64 0,.int .i64 0,.int .i64 0,.slice none 0 0]) 5 64:=cA.mk' Tryz.underlying24 (by kernel_rfl) rfl ad
def vE(w:World)(u:ay)(e:Ending)(J:World):Prop:=∃(GA:Kj) (gn gc:Nat) (MA:Kj) (mn mc:Nat) (PA:Kj) (pn pc:Nat),
 e=.returned (.tuple #[.agg #[.slice GA gn gc,.slice MA mn mc,.slice PA pn pc,.int .i64 u.main],.int .i64 0,.int .i64 0,.int .i64 0])/\(CS u).rep J (fresh w J) [.slice GA gn gc,.slice MA mn mc,.slice PA pn pc,.int .i64 u.main]/\Ext w J
def Gb(w:World)(x:cG)(e:Ending)(J:World):Prop:=∃(A:Kj) (n c:Nat) (bP:Kj) (cg bQ:Nat),
 e=.returned (.tuple #[.agg #[.string x.name,.int .i64 x.ints,.int .i64 x.aq,.int .i64 x.locals,.slice A n c],.slice bP cg bQ,.int .i64 0,.int .i64 0])/\(fB x).rep J (fresh w J) [.string x.name,.int .i64 x.ints,.int .i64 x.aq,.int .i64 x.locals,.slice A n c]/\Ext w J
def Hc(p:bC):Prop:=∀(f:a1),f∈p.funcs->∀(GA:Kj) (gn gc:Nat) (MA:Kj) (mn mc:Nat) (FA:Kj) (fn fc:Nat) (bo:Kj) (ln lc:Nat) (PA:Kj) (pn pc:Nat) (cW:Kj) (bn bc:Nat) (w:World),
  fU w (ao w) p GA gn MA mn FA fn->Sl w (ao w) bo ln ((a5 p).map bR)->Sl w (ao w) PA pn (f.params.map dU)->Sl w (ao w) cW bn (dw f.body)->
  Calls prog 59 #[.agg #[.slice GA gn gc,.slice MA mn mc,.slice FA fn fc],.slice bo ln lc,.agg #[.string f.name,.slice PA pn pc,.slice cW bn bc]] w (Gb w (dQ p f))
namespace Bd
theorem eI(h:p:=by
 clear b0 am aw;generalize hX:World.setCell _ _ _=dM;have ay:=da hX;obtain⟨bb,ax,I,e1,a9⟩:=bN.o;have r1:Ext V dM:=Fr.low (M:=λb=>V.heap.size<=b) (((b2.1.trans e1).mono λ_ h=>h.elim).trans ((ax.mono λb O=>by have:=j b O;omega).trans (ay.mono λb O=>ad))) λ_ h=>h;have c9:au dM J 26 #[.slice bU (k+1) c3,.slice bg mn bE,.slice none 0 0,.int .i64 mi]:=hX▸a9.bH 0 _;have dX:=((b2.2.2.1.aj e1).ek ax.size λb aq hp=>ax.block b aq λhe=>by
  rcases hp with hp|hp
  .exact hp.elim
  .have:=j b he;have:=(cf.o b hp).2;omega).ek ay.size λb aq hp=>ay.block b aq λhe=>by
  rcases hp with hp|hp
  .exact hp.elim
  .exact(cf.o b hp).1 he
 have ef:Gr (λ_=>False) bv 3 1 dM bU (k+1) c3 (((p.globals.take (k+1)).map (·.2)).map D.i):=by
  rw[aX aJ.o,JP,JP];exact bb.ek ay.size λb aq hp=>ay.block b aq λhe=>by
   rcases hp with hp|hp
   .exact hp.elim
   .have:=(bb.lt hp).1;omega
 have eg:bv<=dM.heap.size:=by have ac:=e1.size;have ap:=ax.size;have aD:=ay.size;omega
 have a2:=dT r1 c9 dX ef eg;clear r1 c9 dX ef eg bb ax I e1 a9 ay hX;go_wp2;go_roundw
 case rel=>exact⟨k+1,bU,c3,ad,by go_num,a2.o⟩
 case measure=>exact aU
 ):p:=h
theorem gO(h:p:=by
 refine cY ?_;generalize hX:World.setCell _ _ _=X;obtain⟨du,dv,bA,aH⟩:=bw.o;obtain⟨cP,bf,bM⟩:=bk (w:=V) [.slice none 0 0,.slice bg mn bE,.slice none 0 0,.int .i64 mi] (by rfl) bA du ad hX;have bG:=dv.ek bM.size λb aq hp=>bM.block b aq λhe=>by
  subst he;rcases hp with hp|hp
  .exact hp.elim
  .exact aH hp
 obtain⟨bv,dZ⟩:∃N,N=X.heap.size:=⟨_,rfl⟩
 have a7:∀b,(Value.slice bg mn bE).ownBlock=some b->b≠J/\b<bv:=λb O=>⟨λe=>aH (by rw[<-e];exact O),by have:=(bG.lt O).2;omega⟩
 have cf:=ae a7;have cv:=ae (show Ext V X/\au X J 26 #[.slice none 0 0,.slice bg mn bE,.slice none 0 0,.int .i64 mi]/\Gr (λ_=>False) df 117 3 X bg mn bE (p.af.map eL)/\Gr (λ_=>False) bv 3 1 X none 0 0 (((p.globals.take 0).map (·.2)).map D.i)/\bv<=X.heap.size from ⟨bf,cP,bG,Gr.nil _ _ _ _ _,ad⟩);have d1:J<bv:=by have:=cP.lt;omega
 clear bw hX cP bf bM bG du dv bA aH a7 b0 am aw;have cd:=br.aj cv.1;obtain⟨a0,al,af⟩:=cd.two;clear cd;go_wp2;clear a0 al af;go_loopw [11] (λcr wr=>∃(k:Nat) (A:Kj) (c:Nat),k<=gn/\cr=.int .i64 k/\Ext V wr/\au wr J 26 #[.slice A k c,.slice bg mn bE,.slice none 0 0,.int .i64 mi]/\Gr (λ_=>False) df 117 3 wr bg mn bE (p.af.map eL)/\Gr (λ_=>False) bv 3 1 wr A k c (((p.globals.take k).map (·.2)).map D.i)/\bv<=wr.heap.size) (λcr _=>gn - (intOf cr).toNat)
 case atStart=>exact⟨0,none,0,ad,rfl,cv.o⟩
 case round=>
  obtain⟨k,A,c,aj,rfl,ar,hU,aA,m,cC⟩:=hrel;clear cv;have b2:=dT ar hU aA m cC;have b7:=br.aj ar;obtain⟨a0,al,af⟩:=b7.two;obtain⟨b0,am,aw⟩:=hU.two;by_cases aq:k<gn
  .obtain⟨b,o,g,cs,rfl,O,hx,aZ,a8,Z⟩:=(aP.o _ (b4.trans ar)).g.iG nq aq;obtain rfl:=lD.1 aZ;have ct:=Z 1 _ rfl;have aN:b<wr.heap.size:=O;have aJ:=ae hx;clear ar hU aA m b7 aZ a8 Z O hx;go_wp2;refine fj (λ_=>False) [(0,3),(1,0),(2,3),(3,0),(4,3),(5,3),(6,3),(7,0),(8,1),(9,2),(10,3),(11,2)] ?_;refine pf ?_;refine ph ?_;refine pf ?_;refine ph ?_
   iterate 3 refine pf ?_
   refine ph ?_;refine sG ?_;generalize hV:World.drew (World.alloc _ _)=ee;have e1:=jW hV;have cR:au ee wr.heap.size 3 #[.int .i64 g.2]:=hV▸(Kg).drew;clear hV;refine az rfl (λK hK=>?_);rw[if_pos (by rfl)];refine kb eK (.tmp 69) (.tmp 76) (by rfl) (b2.2.2.2.1.aj e1) cR (show (D.i g.2).rep ee _ _ from by simp only[D.rep]) (by rfl) (by rfl) (by rfl) ad ad (aC e1.size) ?_;intro bU c3 cE bb ax I ck;have j:∀b,(Value.slice A k c).ownBlock=some b->bv<=b:=λb O=>(b2.2.2.2.1.lt O).1;have a9:=(b2.2.1.aj e1).on ax λO=>by have:=j _ O;omega
   have bN:=dT bb ax I e1 a9;clear bb ax I e1 cR a0 al af b0 am aw ct aN;obtain⟨b0,am,aw⟩:=a9.two;clear a9;exact tN
  .obtain rfl:gn=k:=ad;rw[JQ (by rw[bW.1];exact JI _)] at m;obtain⟨z,r⟩:∃N,N=wr.heap.size:=⟨_,rfl⟩
   have dH:=hU.lt;have dW:J<z:=ad;have c5:∀b,(Value.slice A gn c).ownBlock=some b->b≠J/\b<z:=λb O=>⟨by have:=(m.lt O).1;omega,by have:=(m.lt O).2;omega⟩
   have cZ:=ae c5;have dU:bv<=z:=ad;have dh:=ae (show Ext V wr/\au wr J 26 #[.slice A gn c,.slice bg mn bE,.slice none 0 0,.int .i64 mi]/\Gr (λ_=>False) df 117 3 wr bg mn bE (p.af.map eL)/\Gr (λ_=>False) bv 3 1 wr A gn c ((p.globals.map (·.2)).map D.i)/\Gr (λb=>z<=b) z 103 5 wr none 0 0 (((p.funcs.take 0).map (dQ p)).map fB)/\z<=wr.heap.size from ⟨ar,hU,aA,m,Gr.nil _ _ _ _ _,ad⟩);clear b2 ar hU aA m b7 c5 dH b0 am aw aj aq;generalize A=bz at *;generalize c=c1 at *;go_wp2;clear a0 al af;go_loopw [12] (λcr wr=>∃(k:Nat) (A:Kj) (c:Nat),k<=fn/\cr=.int .i64 k/\Ext V wr/\au wr J 26 #[.slice bz gn c1,.slice bg mn bE,.slice A k c,.int .i64 mi]/\Gr (λ_=>False) df 117 3 wr bg mn bE (p.af.map eL)/\Gr (λ_=>False) bv 3 1 wr bz gn c1 ((p.globals.map (·.2)).map D.i)/\Gr (λb=>z<=b) z 103 5 wr A k c (((p.funcs.take k).map (dQ p)).map fB)/\z<=wr.heap.size) (λcr _=>fn - (intOf cr).toNat)
   case atStart=>exact⟨0,none,0,ad,rfl,dh.o⟩
   case round=>
    obtain⟨k,A,c,aj,rfl,ar,hU,aA,m,bx,cC⟩:=hrel;clear dh;have b2:=dq ar hU aA m bx cC;have b7:=br.aj ar;obtain⟨a0,al,af⟩:=b7.two;by_cases aq:k<fn
    .obtain⟨b,o,f,cs,u,O,hx,aZ,a8,Z⟩:=(aP.o _ (b4.trans ar)).f.iG mg aq;injection u with u;injection u with hFA1 hFA2;subst hFA1 hFA2;obtain⟨QA,bI,qc,cV,ds,dr,rfl,cG,dV,a1,G⟩:=iK.1 aZ;have c0:=Z 0 _ rfl;have ct:=Z 1 _ rfl;have be:=Z 2 _ rfl;simp only[JS] at c0;have aN:bT<wr.heap.size:=O;have aJ:=av hx a1 G;have dG:=aP.o _ (b4.trans ar);have dA:=dn.on (Fr.ext ar);have s:=ak dG dA;clear ar hU aA m bx b7 aZ a8 Z O hx a1 G dG dA;go_upto_region 17 with(fail);refine uU (λ_=>False) [7,14] (.held 0 (.free 1 (.free 2 (.held 3 (.free 4 (.free 5 (.held 6 (.pick [7,13] (λi=>bif i == 7 then .free 8 (.free 9 (.free 10 (.free 11 (.free 12 (.pick [13] (λ_=>.pick [14] (λ_=>.free 15 (.free 16 (.free 17 (.stop)))))))))) else .pick [7] (λ_=>.free 8 (.free 9 (.free 10 (.free 11 (.free 12 (.pick [14] (λ_=>.free 15 (.free 16 (.free 17 (.stop))))))))))))))))))) ?_;refine th ?_
     iterate 2 refine tf ?_
     refine th ?_
     iterate 2 refine tf ?_
     refine th ?_;clear a0 al af c0 ct be;refine vo (P:=?IJ) (ops:=?IW) (Q:=?IX) (R:=?IY) (tails:=?IZ) (rest:=.pick [14] (λ_=>.free 15 (.free 16 (.free 17 (.stop))))) (aa:=?IK)
      (C:=λ(cS:Nat) (cq:Kj) (cu rc:Nat) (bP:Kj) (cg bQ:Nat) ai=>Ext wr ai/\au ai cS 103 #[.string ⟨#[]⟩,.int .i64 0,.int .i64 0,.int .i64 0,.slice none 0 0]/\wr.heap.size<=cS/\(fB (dQ p f)).rep ai (λb=>wr.heap.size<=b/\b<ai.heap.size/\b≠cS) [.string (dQ p f).name,.int .i64 (dQ p f).ints,.int .i64 (dQ p f).aq,.int .i64 (dQ p f).locals,.slice cq cu rc]) (λkey=>?Hz) ?Ht
     case Hz=>
      refine b1 ?_ ?_
      ·
       refine ca rfl (λK hK=>?_) rfl;go_simp;refine(dd.o f (JL aJ.1) GA gn gc MA mn mc (some ⟨bT,cT,none⟩) fn fc bo (a5 p).length lc QA bI qc cV ds dr wr.drew ⟨s.1.g.on (Fr.ext Kf.drew),s.1.m.on (Fr.ext Kf.drew),s.1.f.on (Fr.ext Kf.drew)⟩ (s.2.on (Fr.ext Kf.drew)) (aJ.2.1.on (Fr.ext Kf.drew)) (aJ.2.2.on (Fr.ext Kf.drew))).mono ?_;rintro e aL ⟨cq,cu,rc,bP,cg,bQ,rfl,bY,L⟩;refine eC hK ?_;clear hK K
       iterate 5 refine tf ?_
       refine aB ?_;refine gX ?_;have F:Ext wr (aL.alloc (.cells #[.string ⟨#[]⟩,.int .i64 0,.int .i64 0,.int .i64 0,.slice none 0 0] 103))/\au (aL.alloc (.cells #[.string ⟨#[]⟩,.int .i64 0,.int .i64 0,.int .i64 0,.slice none 0 0] 103)) aL.heap.size 103 #[.string ⟨#[]⟩,.int .i64 0,.int .i64 0,.int .i64 0,.slice none 0 0]/\wr.heap.size<=aL.heap.size/\(fB (dQ p f)).rep (aL.alloc (.cells #[.string ⟨#[]⟩,.int .i64 0,.int .i64 0,.int .i64 0,.slice none 0 0] 103)) (λb=>wr.heap.size<=b/\b<(aL.alloc (.cells #[.string ⟨#[]⟩,.int .i64 0,.int .i64 0,.int .i64 0,.slice none 0 0] 103)).heap.size/\b≠aL.heap.size) [.string (dQ p f).name,.int .i64 (dQ p f).ints,.int .i64 (dQ p f).aq,.int .i64 (dQ p f).locals,.slice cq cu rc]:=
        ⟨(Fr.aL L).alloc _,Kg,(Fr.aL L).size,D.aA (λb O=>⟨O.1,by have:=O.2;simp;omega,by have:=O.2;omega⟩) _ _ (D.aD (λb O=>Below.heap_alloc aL _ b O.2) _ _ bY)⟩
       clear bY L;revert F;generalize aL.heap.size=cS;intro F;exact key cS cq cu rc bP cg bQ _ F
      ·
       refine gX ?_;generalize hV:World.alloc _ _=cK;have ci:=aY hV;have b7:=aF hV;clear hV;refine aB ?_;refine ca rfl (λK hK=>?_) rfl;go_simp;refine(dd.o f (JL aJ.1) GA gn gc MA mn mc (some ⟨bT,cT,none⟩) fn fc bo (a5 p).length lc QA bI qc cV ds dr cK.drew ⟨s.1.g.on (Fr.ext ci.drew),s.1.m.on (Fr.ext ci.drew),s.1.f.on (Fr.ext ci.drew)⟩ (s.2.on (Fr.ext ci.drew)) (aJ.2.1.on (Fr.ext ci.drew)) (aJ.2.2.on (Fr.ext ci.drew))).mono ?_;rintro e aL ⟨cq,cu,rc,bP,cg,bQ,rfl,bY,L⟩;refine eC hK ?_;clear hK K
       iterate 5 refine tf ?_
       have cl:=b7.lt;have F:Ext wr aL/\au aL wr.heap.size 103 #[.string ⟨#[]⟩,.int .i64 0,.int .i64 0,.int .i64 0,.slice none 0 0]/\wr.heap.size<=wr.heap.size/\(fB (dQ p f)).rep aL (λb=>wr.heap.size<=b/\b<aL.heap.size/\b≠wr.heap.size) [.string (dQ p f).name,.int .i64 (dQ p f).ints,.int .i64 (dQ p f).aq,.int .i64 (dQ p f).locals,.slice cq cu rc]:=
        ⟨ci.trans (Fr.aL L),b7.aj (Fr.aL L),JI _,D.aA (λb O=>⟨by have ac:cK.heap.size<=b:=O.1;omega,O.2,by have ac:cK.heap.size<=b:=O.1;omega⟩) _ _ bY⟩
       clear bY L ci b7 cl;exact key wr.heap.size cq cu rc bP cg bQ _ F
     case Ht=>
      rintro cS cq cu rc bP cg bQ ai ⟨dt,a6,dx,bY⟩;obtain⟨d0,aQ,aR⟩:=a6.two;have ab:=av dt a6 bY;clear dt a6 bY;refine aB ?_;refine ca rfl (λK hK=>?_) rfl;go_simp;refine eC hK ?_;clear hK K
      iterate 3 refine tf ?_
      refine cY ?_;generalize hX:World.setCell _ _ _=dS;obtain⟨dt,a6,bY⟩:=ab.o;obtain⟨b7,b5,cU⟩:=bk (w:=wr) [.string (dQ p f).name,.int .i64 (dQ p f).ints,.int .i64 (dQ p f).aq,.int .i64 (dQ p f).locals,.slice cq cu rc] (by rfl) a6 dt dx hX;have cF:=b2.2.1.aj b5;have ch:=b2.2.2.2.2.1.aj b5;have aW:∀b,(Value.slice A k c).ownBlock=some b->b<wr.heap.size:=λb O=>(b2.2.2.2.2.1.lt O).2;have d6:=cU.size;have d5:=b5.size;have hd:(fB (dQ p f)).rep dS (mS (λb=>z<=b) dS (.slice A k c)) [.string (dQ p f).name,.int .i64 (dQ p f).ints,.int .i64 (dQ p f).aq,.int .i64 (dQ p f).locals,.slice cq cu rc]:=
       D.aA (λb O=>⟨by have:=O.1;omega,by have:=O.2.1;omega,λhc=>by have:=aW b hc;have:=O.1;omega⟩) _ _ (D.aD (λb O=>cU.block b O.2.1 O.2.2) _ _ bY)
      have cX:=av b5 ch hd;clear hX dt a6 bY cU ch hd d0 aQ aR ab aW b5;obtain⟨d0,aQ,aR⟩:=b7.two;obtain⟨b0,am,aw⟩:=cF.two;have dN:=ae cF;clear b7 cF;go_wp2_with((at_builtin;refine cn Gu rfl (.tmp 106) (.tmp 108) rfl cX.2.1 cX.2.2 rfl rfl rfl ad ad ad ?_;intro bU c3 cJ bb ax I ck;have cN:=dN.on ax (λO=>by have:=(cX.2.1.lt O).1;omega);clear b0 am aw d0 aQ aR;obtain⟨b0,am,aw⟩:=cN.two;have dO:=ae cN;clear cN));generalize hX:World.setCell _ _ _=dE;have cD:=da hX;have b5:=cX.1;have j:∀b,(Value.slice A k c).ownBlock=some b->z<=b:=λb O=>(cX.2.1.lt O).1;have dJ:(((p.funcs.take (k+1)).map (dQ p)).map fB)=((p.funcs.take k).map (dQ p)).map fB++[fB (dQ p f)]:=by rw[aX aJ.1,JP,JP];rfl
      have q1:Ext V dE:=Fr.low (M:=λb=>V.heap.size<=b) (((b2.1.trans b5).mono λ_ h=>h.elim).trans ((ax.mono λb O=>by have:=j b O;omega).trans (cD.mono λb O=>ad))) λ_ h=>h;have cM:au dE J 26 #[.slice bz gn c1,.slice bg mn bE,.slice bU (k+1) c3,.int .i64 mi]:=hX▸dO.bH 2 _;have c7:=((b2.2.2.1.aj b5).ek ax.size λb aq hp=>ax.block b aq λhe=>by
       rcases hp with hp|hp
       .exact hp.elim
       .have:=j b he;have:=(cf.o b hp).2;omega).ek cD.size λb aq hp=>cD.block b aq λhe=>by
       rcases hp with hp|hp
       .exact hp.elim
       .exact(cf.o b hp).1 he
      have c8:=((b2.2.2.2.1.aj b5).ek ax.size λb aq hp=>ax.block b aq λhe=>by
       rcases hp with hp|hp
       .exact hp.elim
       .have:=j b he;have:=(cZ.o b hp).2;omega).ek cD.size λb aq hp=>cD.block b aq λhe=>by
       rcases hp with hp|hp
       .exact hp.elim
       .exact(cZ.o b hp).1 he
      have q5:Gr (λb=>z<=b) z 103 5 dE bU (k+1) c3 (((p.funcs.take (k+1)).map (dQ p)).map fB):=by
       rw[dJ];exact bb.ek cD.size λb aq hp=>cD.block b aq λhe=>by
        rcases hp with hp|hp
        .omega
        .have:=(bb.lt hp).1;omega
      have dl:z<=dE.heap.size:=by have ac:=b5.size;have ap:=ax.size;have aD:=cD.size;omega
      have a2:=dq q1 cM c7 c8 q5 dl;clear q1 cM c7 c8 q5 dl bb ax I b5 cD hX j dJ b0 am aw;go_wp2;go_roundw
      case rel=>exact⟨k+1,bU,c3,ad,by go_num,a2.o⟩
      case measure=>exact aU
    .obtain rfl:fn=k:=ad;rw[JQ (by rw[bW.2.2];exact JI _)] at bx;have bq:=b8.aj ar;have d3:w.heap.size+1<V.heap.size:=b8.lt;have cx:=ae hU;obtain⟨b0,am,aw⟩:=hU.two;obtain⟨d0,aQ,aR⟩:=bq.two;obtain⟨dc,de⟩:=aI bq bx;clear ar hU aA m bx b7 bq;go_wp2;generalize hX:World.setCell _ _ _=gG;obtain⟨eh,dR,bB⟩:=bk (w:=w) [.slice bz gn c1,.slice bg mn bE,.slice A fn c,.int .i64 mi] (by rfl) dc.o (b4.trans b2.1) (Nat.le_succ _) hX;obtain⟨bh,an,aM⟩:=eh.two;clear b0 am aw d0 aQ aR a0 al af;refine Ke (v:=.tuple #[.agg #[.slice bz gn c1,.slice bg mn bE,.slice A fn c,.int .i64 mi],.int .i64 0,.int .i64 0,.int .i64 0]) (by simp[results,Tryz.results18,go_sem,bh]) rfl ?_;have bF:(hY p).main=(mi:Int):=by
      show ix (a5 p) hZ=_
      unfold ix;rw[show hZ=⟨#[109,97,105,110]⟩ from rfl,dk.o]
     have ew:=b4.size;have d7:=bB.size;have bi:∀b,V.heap.size<=b->b<wr.heap.size->gG.heap[b]?=wr.heap[b]?:=λb ac ap=>bB.block b ap ad;have cQ:=b2.2.2.1.ek bB.size λb aq hp=>by
      rcases hp with hp|hp
      .exact hp.elim
      .exact bi b (by have:=(b2.2.2.1.lt hp).1;omega) aq
     have cz:=b2.2.2.2.1.ek bB.size λb aq hp=>by
      rcases hp with hp|hp
      .exact hp.elim
      .exact bi b (by have:=(b2.2.2.2.1.lt hp).1;omega) aq
     have bu:=de.ek bB.size λb aq hp=>by
      rcases hp with hp|hp
      .exact bi b ad aq
      .exact bi b (by have:=(de.lt hp).1;omega) aq
     refine⟨bz,gn,c1,bg,mn,bE,A,fn,c,by rw[bF],?_,dR⟩;unfold CS;rw[bF,bK];exact aO.2 ⟨bz,gn,c1,_,rfl,cz.cap.1,cz.sl (λb _ h=>h.elim) (λb ac ap=>⟨ad,ac⟩),aO.2 ⟨bg,mn,bE,_,rfl,cQ.cap.1,cQ.sl (λb _ h=>h.elim) (λb ac ap=>⟨ad,ac⟩),
      aO.2 ⟨A,fn,c,_,rfl,bu.cap.1,bu.sl (λb ac ap=>⟨ad,ac⟩) (λb ac ap=>⟨ad,ac⟩),bm.2 ⟨_,rfl,aS.2 rfl⟩⟩⟩⟩
 ):p:=h
theorem q6(h:p:=by
 have ce:(a5 p).length<=100:=by rw[kg];omega
 obtain⟨mi,bH,bl,a3,ag⟩:=hp.main;have cI:dg (a5 p) ⟨#[109,97,105,110]⟩=some ⟨⟨#[109,97,105,110]⟩,3,(mi:Int)⟩:=by
  have:=ko (mJ hp) (JL (vY bl));rw[a3] at this;exact this
 have ah:mi<fn:=by have:=(List.getElem?_eq_some_iff.1 bl).1;omega
 obtain⟨cL,cw,dd,dk⟩:=jF h hp dz cI;have dp:=ak bl ag;have bW:=av dB lm lf;have d4:=ae ce;clear h hp dz cI bl a3 ag dB lm lf ce;go_enter func18,ntmps18;go_upto_region 1 with(fail);generalize ba:World.alloc _ _=W;have ar:=jN ba;have aK:=fQ ba;have dy:=fR ba;obtain⟨bd,bL,dF⟩:=eS ar aK dy;obtain⟨a0,al,af⟩:=aK.two;have dK:∀(aL:World),Ext w aL->fU aL (ao aL) p GA gn MA mn FA fn:=λ_ he=>⟨cL.g.on (Fr.ext he),cL.m.on (Fr.ext he),cL.f.on (Fr.ext he)⟩
 have aP:=ae dK;clear ba ar aK dy dK;go_wp2_with(fail);refine(E2 p cw.o GA gn gc MA mn mc FA fn fc W (aP.o _ bd.o)).mono ?_;rintro e aL ⟨rfl,L⟩;have bs:=ae (bd.trans L);have cA:=bL.aj L;have y:=ae cA;have c2:=ae (dF.aj L);clear a0 al af L;obtain⟨a0,al,af⟩:=cA.two;clear cA;go_wp2_with(fail);refine(ri p cw.o GA gn gc MA mn mc FA fn fc aL (aP.o _ bs.o)).mono ?_;rintro e aV ⟨bo,lc,rfl,bZ,H⟩;have aT:=ae (bs.trans H);have bp:=y.aj H;have bt:=ae bp;have c6:=ae (c2.aj H);have cm:Sl aV (ao aV) bo (a5 p).length ((a5 p).map bR):=bZ.mono λb O=>O.2;have cc:=ae cm;clear a0 al af H bZ cm;obtain⟨a0,al,af⟩:=bp.two;clear bp;go_wp2_with(fail);refine(dC bo (a5 p).length lc (a5 p) ⟨#[109,97,105,110]⟩ aV cc.o (aC d4.o)).mono ?_;rintro e bV ⟨rfl,b6⟩;rw[dk.o];simp only[ia,pH];have a4:=ae (aT.trans b6);have cb:=ae (bt.aj b6);have db:=ae (c6.aj b6);have di:=ae (cc.on (Fr.ext b6));clear a0 al af b6;go_upto_region 7 with(fail);generalize hV:World.alloc _ _=V;have T:=aY hV;have dj:=aF hV;have b4:=ae (a4.trans T);have bJ:=cb.aj T;have br:=ae bJ;have b8:=ae (db.aj T);have dn:=ae (di.on (Fr.ext T));have dY:=ae dj;obtain⟨bT,cT,U,cs,rfl,cy,S,bO,cB,aE⟩:=(aP.o _ b4.o).f.iG mg ah;rw[dp.1] at S;injection S with S;subst S;obtain⟨PA,pn,pc,cW,bn,bc,rfl,c4,cp,b3,_⟩:=iK.1 bO;have f4:=aE 1 _ rfl;have cj:bT<V.heap.size:=cy;obtain rfl:0=pn:=by have:=b3.1;rw[dp.2] at this;exact this
 clear hV T bO cB aE b3 cy;obtain⟨a0,al,af⟩:=bJ.two;obtain⟨b0,am,aw⟩:=dj.two;clear bJ dj;go_upto_region 9 with(fail);have cO:=ae (aP.o _ b4.o).m;obtain⟨df,ej⟩:∃N,N=V.heap.size:=⟨_,rfl⟩
 have gA:¬df<=w.heap.size:=ad;have gB:¬df<=bV.heap.size:=ad;clear f4 cj;refine uU (λb=>df<=b) [8] (.free 0 (.held 1 (.free 3 (.held 4 (.pick [2,7] (λi=>bif i == 2 then .pick [5,7] (λi=>bif i == 5 then .free 6 (.pick [7] (λ_=>.pick [8] (λ_=>.stop))) else .pick [5] (λ_=>.free 6 (.pick [8] (λ_=>.stop)))) else .pick [2] (λ_=>.pick [5] (λ_=>.free 6 (.pick [8] (λ_=>.stop)))))))))) ?_;refine tf ?_;refine pO ?_;refine tf ?_;refine pO ?_;clear a0 al af b0 am aw;refine lh (P:=?rZ) (ops:=?HZ) (Q:=?H3) (R:=?H4) (tails:=?H6) (rest:=.pick [8] (λ_=>.stop)) (aa:=?HW)
  (C:=λ(_:Nat) J bg bE ai=>Ext V ai/\Gr (λ_=>False) df 117 3 ai bg mn bE (p.af.map eL)/\au ai J 26 #[.slice none 0 0,.slice none 0 0,.slice none 0 0,.int .i64 0]/\(Value.slice bg mn bE).ownBlock≠some J/\df<=J) (λkey=>?Ev) ?Es
 case Ev=>
  refine b1 ?_ ?_
  ·
   refine gX ?_;generalize hV:World.drew (World.alloc _ _)=cK;have e1:=jW hV;have co:Gr (λ_=>False) df 117 3 cK (some ⟨V.heap.size,0,none⟩) 0 0 []:=by rw[<-hV,ej];exact(Gr.lit (w:=V) (n:=0) (l:=[]) rfl (by rfl) ad (by simp only[D.aR])).aj Kf.drew
   clear hV;refine b1 ?_ ?_
   ·
    refine bD rfl (λK hK=>?_) rfl;rw[if_pos (by rfl)];refine lr q8 (.tmp 56) (.tmp 58) (by rfl) co (oF p.af) cO.1 (ry (cO.on (Fr.ext e1))) (λh=>by subst h;exact Sl.none_ cO.o) (by rfl) (by rfl) ad ad (by rw[ej];exact e1.size) ?_;intro bg bE cJ bX f1 o1 c1;refine gu hK (f1.mono λb O=>ad) ?_;clear hK K;refine tf ?_;refine aB ?_;refine gX ?_;have e2:Ext V cJ:=Fr.low (M:=λb=>V.heap.size<=b) ((e1.mono λ_ h=>h.elim).trans (f1.mono λb O=>ad)) λ_ h=>h;have F:Ext V (cJ.alloc (.cells #[.slice none 0 0,.slice none 0 0,.slice none 0 0,.int .i64 0] 26))/\Gr (λ_=>False) df 117 3 (cJ.alloc (.cells #[.slice none 0 0,.slice none 0 0,.slice none 0 0,.int .i64 0] 26)) bg mn bE (p.af.map eL)/\au (cJ.alloc (.cells #[.slice none 0 0,.slice none 0 0,.slice none 0 0,.int .i64 0] 26)) cJ.heap.size 26 #[.slice none 0 0,.slice none 0 0,.slice none 0 0,.int .i64 0]/\(Value.slice bg mn bE).ownBlock≠some cJ.heap.size/\df<=cJ.heap.size:=
     ⟨e2.alloc _,bX.aj (Kf.alloc _),Kg,λO=>by have:=(bX.lt O).2;omega,by have:=e2.size;omega⟩
    clear bX co f1 o1 e1 e2;revert F;generalize cJ.heap.size=J;generalize V.heap.size=dD;intro F;exact key dD J bg bE _ F
   ·
    refine gX ?_;generalize hV:World.alloc _ _=ff;have e2:=aY hV;have bS:au ff cK.heap.size 26 #[.slice none 0 0,.slice none 0 0,.slice none 0 0,.int .i64 0]:=hV▸Kg;have eD:V.heap.size<cK.heap.size:=(co.lt (g:=V.heap.size) rfl).2;clear hV;refine aB ?_;refine bD rfl (λK hK=>?_) rfl;rw[if_pos (by rfl)];refine lr q8 (.tmp 56) (.tmp 58) (by rfl) (co.aj e2) (oF p.af) cO.1 (ry (cO.on (Fr.ext (e1.trans e2)))) (λh=>by subst h;exact Sl.none_ cO.o) (by rfl) (by rfl) ad ad (by rw[ej];exact(e1.trans e2).size) ?_;intro bg bE cJ bX f1 o1 c1;refine gu hK (f1.mono λb O=>ad) ?_;clear hK K;refine tf ?_;have e3:Ext V cJ:=Fr.low (M:=λb=>V.heap.size<=b) (((e1.trans e2).mono λ_ h=>h.elim).trans (f1.mono λb O=>ad)) λ_ h=>h;have dI:=bS.lt;have F:Ext V cJ/\Gr (λ_=>False) df 117 3 cJ bg mn bE (p.af.map eL)/\au cJ cK.heap.size 26 #[.slice none 0 0,.slice none 0 0,.slice none 0 0,.int .i64 0]/\(Value.slice bg mn bE).ownBlock≠some cK.heap.size/\df<=cK.heap.size:=⟨e3,bX,bS.on f1 ad,λO=>by
     rcases o1 _ O with h|h
     .omega
     .omega,ad⟩
    clear bX co f1 o1 e1 e2 e3 bS eD dI;revert F;generalize cK.heap.size=J;generalize V.heap.size=dD;intro F;exact key dD J bg bE _ F
  ·
   refine gX ?_;generalize hV:World.drew (World.alloc _ _)=cK;have e1:=jW hV;have bS:au cK V.heap.size 26 #[.slice none 0 0,.slice none 0 0,.slice none 0 0,.int .i64 0]:=hV▸(Kg).drew;clear hV;refine aB ?_;refine gX ?_;generalize hV:World.alloc _ _=ff;have e2:=aY hV;have co:Gr (λ_=>False) cK.heap.size 117 3 ff (some ⟨cK.heap.size,0,none⟩) 0 0 []:=hV▸Gr.lit (w:=cK) (n:=0) (l:=[]) rfl (by rfl) ad (by simp only[D.aR]);have dP:=bS.aj e2;have eD:V.heap.size<cK.heap.size:=bS.lt;have dw:cK.heap.size<=ff.heap.size:=e2.size;clear hV bS;refine aB ?_;refine bD rfl (λK hK=>?_) rfl;rw[if_pos (by rfl)];refine lr q8 (.tmp 56) (.tmp 58) (by rfl) co (oF p.af) cO.1 (ry (cO.on (Fr.ext (e1.trans e2)))) (λh=>by subst h;exact Sl.none_ cO.o) (by rfl) (by rfl) ad ad dw ?_;intro bg bE cJ bX f1 o1 c1;refine gu hK (f1.mono λb O=>ad) ?_;clear hK K;refine tf ?_;have e3:Ext V cJ:=Fr.low (M:=λb=>V.heap.size<=b) (((e1.trans e2).mono λ_ h=>h.elim).trans (f1.mono λb O=>ad)) λ_ h=>h;have F:Ext V cJ/\Gr (λ_=>False) df 117 3 cJ bg mn bE (p.af.map eL)/\au cJ V.heap.size 26 #[.slice none 0 0,.slice none 0 0,.slice none 0 0,.int .i64 0]/\(Value.slice bg mn bE).ownBlock≠some V.heap.size/\df<=V.heap.size:=⟨e3,bX.base ad,dP.on f1 ad,λO=>by have:=(bX.lt O).1;omega,ad⟩
   clear bX co f1 o1 e1 e2 e3 dP eD dw;revert F;generalize cK.heap.size=dD;generalize V.heap.size=J;intro F;exact key dD J bg bE _ F
 case Es=>
  rintro dD J bg bE Y ⟨du,dv,bA,aH,d2⟩;obtain⟨b0,am,aw⟩:=bA.two;have bw:=b9 du dv bA aH;clear du dv bA aH;exact gN
 ):p:=h
end Bd
open Bd in
theorem xi(p:bC)(hp:nE p)(dz:Hc p)(GA:Kj)(gn gc:Nat)(MA:Kj)(mn mc:Nat)(FA:Kj)(fn fc:Nat)(w:World)(h:fU w (ao w) p GA gn MA mn FA fn) :
  Calls prog 18 #[.agg #[.slice GA gn gc,.slice MA mn mc,.slice FA fn fc]] w (vE w (hY p)):=by
 have dB:p.globals.length=gn:=by rw[<-h.g.1,JM]
 have lm:p.af.length=mn:=by rw[<-h.m.1,JM]
 have lf:p.funcs.length=fn:=by rw[<-h.f.1,JM]
 exact q4
end Go.Proofs.YtnigabjngpnbiaaGreat

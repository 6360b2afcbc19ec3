/- Part 34 of the proof. No condition of its own. -/
import Derived.Test.YtpkfopfkdgkfkaaGreatQ23
import Derived.Test.YtpkfopfkdgkfkaaGreatQ27
import Derived.Test.YtpkfopfkdgkfkaaGreatQ33
namespace Go.Proofs.YtpkfopfkdgkfkaaGreat
open Go.RowKit Go.Proofs.Tryz
set_option maxRecDepth 1000000
set_option maxHeartbeats 25600000
set_option linter.unusedVariables false
variable{p:Prop}{w:World}
theorem xp{P:Program}{ops:Array Oper}{Q:Exit->Act->World->Prop}{R:World->World->Prop}{tails:List Nat}{α β γ δ ε ζ η:Type}{rest:PT}{aa:α->β->γ->δ->ε->ζ->η->Act}{C:α->β->γ->δ->ε->ζ->η->World->Prop}{G:Prop}
  (h:(∀a b c d e f g V,C a b c d e f g V->cS P ops Q R tails rest (aa a b c d e f g) V)->G) (key:∀a b c d e f g V,C a b c d e f g V->cS P ops Q R tails rest (aa a b c d e f g) V):G:=h key
theorem qi{P:Nat->Prop}(l:List bM):D.aM w P (l.map eK) (l.flatMap gu):=mY (λ_=>ft.2 rfl) l
theorem s8{A:Mt}{n:Nat}{l:List bM}(h:Sl w (aq w) A n (l.map eK)):Src w 3 A n (l.flatMap gu):=Src.jL (Sl.mM h) (EL _) (E3 _) ad
theorem Io:cn prog 32 71 (.agg #[Mq,(0:Int),(0:Int),(0:Int),()]) 5 64:=cn.mk' Tryz.underlying32 (by kernel_rfl) rfl ad
def xI(w:World)(u:aA)(e:Ending)(ab:World):Prop:=∃(GA:Mt) (gn gc:Nat) (MA:Mt) (mn mc:Nat) (PA:Mt) (pn pc:Nat),
 e=.returned (.tuple #[.agg #[.slice GA gn gc,.slice MA mn mc,.slice PA pn pc,.int .i64 u.main],.int .i64 0,.int .i64 0,.int .i64 0])/\(tW u).rep ab (fresh w ab) [.slice GA gn gc,.slice MA mn mc,.slice PA pn pc,.int .i64 u.main]/\Ext w ab
def HY(w:World)(x:cM)(e:Ending)(ab:World):Prop:=∃(A:Mt) (n c:Nat) (bV:Mt) (bW bD:Nat),
 e=.returned (.tuple #[.agg #[.string x.name,.int .i64 x.ints,.int .i64 x.an,.int .i64 x.locals,.slice A n c],.slice bV bW bD,.int .i64 0,.int .i64 0])/\(gv x).rep ab (fresh w ab) [.string x.name,.int .i64 x.ints,.int .i64 x.an,.int .i64 x.locals,.slice A n c]/\Ext w ab
def Jf(p:bQ):Prop:=∀(f:aL),f∈p.funcs->∀(GA:Mt) (gn gc:Nat) (MA:Mt) (mn mc:Nat) (FA:Mt) (fn fc:Nat) (bw:Mt) (ln lc:Nat) (PA:Mt) (pn pc:Nat) (ce:Mt) (bn bc:Nat) (w:World),
  hL w (aq w) p GA gn MA mn FA fn->Sl w (aq w) bw ln ((bp p).map b0)->Sl w (aq w) PA pn (f.params.map cD)->Sl w (aq w) ce bn (dc f.body)->
  Calls prog 35 #[.agg #[.slice GA gn gc,.slice MA mn mc,.slice FA fn fc],.slice bw ln lc,.agg #[.string f.name,.slice PA pn pc,.slice ce bn bc]] w (HY w (eG p f))
namespace Dq
theorem dC(h:p:=by
 clear bq am aG;generalize hX:World.setCell _ _ _=dS;have J:=cp hX;obtain⟨al,aC,cn,e1,bt⟩:=bX.o;have r1:Ext V dS:=Fr.low (M:=λb=>V.heap.size<=b) (((b5.1.trans e1).mono λ_ h=>h.elim).trans ((aC.mono λb O=>by have:=j b O;omega).trans (J.mono λb O=>ad))) λ_ h=>h;have dQ:au dS u 34 #[.slice cC (k+1) c3,.slice A2 mn bY,(),mi]:=hX▸bt.aN 0 _;have fg:=((b5.2.2.1.aj e1).dr aC.size λb an hp=>aC.block b an λhe=>by
  rcases hp with hp|hp
  .exact hp.elim
  .have:=j b he;have:=(cT.o b hp).2;omega).dr J.size λb an hp=>J.block b an λhe=>by
  rcases hp with hp|hp
  .exact hp.elim
  .exact(cT.o b hp).1 he
 have gT:Gr (λ_=>False) aB 3 1 dS cC (k+1) c3 (((p.globals.take (k+1)).map (·.2)).map D.i):=by
  rw[aY aN.o,LR,LR];exact al.dr J.size λb an hp=>J.block b an λhe=>by
   rcases hp with hp|hp
   .exact hp.elim
   .have:=(al.lt hp).1;omega
 have gW:aB<=dS:=by have ac:=e1.size;have ap:=aC.size;have aV:=J.size;omega
 have a3:=cL r1 dQ fg gT gW;clear r1 dQ fg gT gW al aC cn e1 bt J hX;go_wp2;go_roundw
 case rel=>exact⟨k+1,cC,c3,ad,by go_num,a3.o⟩
 case measure=>exact aH
 ):p:=h
theorem fy(h:p:=by
 refine ch ?_;generalize hX:World.setCell _ _ _=X;obtain⟨dw,dz,bH,bi⟩:=bC.o;obtain⟨cr,bu,b4⟩:=bA (w:=V) [(),.slice A2 mn bY,(),mi] (by rfl) bH dw ad hX;have bU:=dz.dr b4.size λb an hp=>b4.block b an λhe=>by
  subst he;rcases hp with hp|hp
  .exact hp.elim
  .exact bi hp
 obtain⟨aB,be⟩:∃N,N=X.heap.size:=⟨_,rfl⟩
 have Z:∀b,(Value.slice A2 mn bY).ownBlock=some b->b≠u/\b<aB:=λb O=>⟨λe=>bi (by rw[<-e];exact O),by have:=(bU.lt O).2;omega⟩
 have cT:=ae Z;have cU:=ae (show Ext V X/\au X u 34 #[(),.slice A2 mn bY,(),mi]/\Gr (λ_=>False) cN 89 3 X A2 mn bY (p.af.map eK)/\Gr (λ_=>False) aB 3 1 X none 0 0 (((p.globals.take 0).map (·.2)).map D.i)/\aB<=X from ⟨bu,cr,bU,Gr.nil _ _ _ _ _,ad⟩);have d3:u<aB:=by have:=cr.lt;omega
 clear bC hX cr bu b4 bU dw dz bH bi Z bq am aG;have bE:=T.aj cU.1;obtain⟨a0,ai,af⟩:=bE.two;clear bE;go_wp2;clear a0 ai af;go_loopw [11] (λcA wr=>∃(k:Nat) (A:Mt) (c:Nat),k<=gn/\cA=.int .i64 k/\Ext V wr/\au wr u 34 #[.slice A k c,.slice A2 mn bY,(),mi]/\Gr (λ_=>False) cN 89 3 wr A2 mn bY (p.af.map eK)/\Gr (λ_=>False) aB 3 1 wr A k c (((p.globals.take k).map (·.2)).map D.i)/\aB<=wr.heap.size) (λcA _=>gn - (intOf cA).toNat)
 case atStart=>exact⟨0,none,0,ad,rfl,cU.o⟩
 case round=>
  obtain⟨k,A,c,aj,rfl,aw,hU,H,r,ca⟩:=hrel;clear cU;have b5:=cL aw hU H r ca;have ck:=T.aj aw;obtain⟨a0,ai,af⟩:=ck.two;obtain⟨bq,am,aG⟩:=hU.two;by_cases an:k<gn
  .obtain⟨b,o,g,cs,rfl,O,hx,a5,bh,a4⟩:=(ab.o _ (cj.trans aw)).g.hf oR an;obtain rfl:=mE.1 a5;have cq:=a4 1 _ rfl;have a1:b<wr:=O;have aN:=ae hx;clear aw hU H r ck a5 bh a4 O hx;go_wp2;refine eJ (λ_=>False) [(0,3),(1,0),(2,3),(3,0),(4,3),(5,3),(6,3),(7,0),(8,1),(9,2),(10,3),(11,2)] ?_;refine pf ?_;refine ph ?_;refine pf ?_;refine ph ?_
   iterate 3 refine pf ?_
   refine ph ?_;refine rb ?_;generalize hV:World.drew (World.alloc _ _)=dD;have e1:=gQ hV;have cX:au dD wr 3 #[.int .i64 g.2]:=hV▸(Mp).drew;clear hV;refine ax rfl (λK hK=>?_);rw[if_pos (by rfl)];refine fo cF (.tmp 69) (.tmp 76) (by rfl) (b5.2.2.2.1.aj e1) cX (show (D.i g.2).rep dD _ _ from by simp only[D.rep]) (by rfl) (by rfl) (by rfl) ad ad (ay e1.size) ?_;intro cC c3 cS al aC cn cb;have j:∀b,(Value.slice A k c).ownBlock=some b->aB<=b:=λb O=>(b5.2.2.2.1.lt O).1;have bt:=(b5.2.1.aj e1).on aC λO=>by have:=j _ O;omega
   have bX:=cL al aC cn e1 bt;clear al aC cn e1 cX a0 ai af bq am aG cq a1;obtain⟨bq,am,aG⟩:=bt.two;clear bt;exact sL
  .obtain rfl:gn=k:=ad;rw[LS (by rw[b6.1];exact LK _)] at r;obtain⟨ao,b3⟩:∃N,N=wr.heap.size:=⟨_,rfl⟩
   have dN:=hU.lt;have dY:u<ao:=ad;have c6:∀b,(Value.slice A gn c).ownBlock=some b->b≠u/\b<ao:=λb O=>⟨by have:=(r.lt O).1;omega,by have:=(r.lt O).2;omega⟩
   have cw:=ae c6;have dV:aB<=ao:=ad;have db:=ae (show Ext V wr/\au wr u 34 #[.slice A gn c,.slice A2 mn bY,(),mi]/\Gr (λ_=>False) cN 89 3 wr A2 mn bY (p.af.map eK)/\Gr (λ_=>False) aB 3 1 wr A gn c ((p.globals.map (·.2)).map D.i)/\Gr (λb=>ao<=b) ao 71 5 wr none 0 0 (((p.funcs.take 0).map (eG p)).map gv)/\ao<=wr from ⟨aw,hU,H,r,Gr.nil _ _ _ _ _,ad⟩);clear b5 aw hU H r ck c6 dN bq am aG aj an;generalize A=cR at *;generalize c=c1 at *;go_wp2;clear a0 ai af;go_loopw [12] (λcA wr=>∃(k:Nat) (A:Mt) (c:Nat),k<=fn/\cA=.int .i64 k/\Ext V wr/\au wr u 34 #[.slice cR gn c1,.slice A2 mn bY,.slice A k c,mi]/\Gr (λ_=>False) cN 89 3 wr A2 mn bY (p.af.map eK)/\Gr (λ_=>False) aB 3 1 wr cR gn c1 ((p.globals.map (·.2)).map D.i)/\Gr (λb=>ao<=b) ao 71 5 wr A k c (((p.funcs.take k).map (eG p)).map gv)/\ao<=wr.heap.size) (λcA _=>fn - (intOf cA).toNat)
   case atStart=>exact⟨0,none,0,ad,rfl,db.o⟩
   case round=>
    obtain⟨k,A,c,aj,rfl,aw,hU,H,r,aW,ca⟩:=hrel;clear db;have b5:=dm aw hU H r aW ca;have ck:=T.aj aw;obtain⟨a0,ai,af⟩:=ck.two;by_cases an:k<fn
    .obtain⟨b,o,f,cs,bj,O,hx,a5,bh,a4⟩:=(ab.o _ (cj.trans aw)).f.hf nt an;injection bj with bj;injection bj with hFA1 hFA2;subst hFA1 hFA2;obtain⟨QA,b1,qc,m,U,I,rfl,fh,dW,cG,cv⟩:=k5.1 a5;have c0:=a4 0 _ rfl;have cq:=a4 1 _ rfl;have cf:=a4 2 _ rfl;simp only[LW] at c0;have a1:cm<wr:=O;have aN:=az hx cG cv;have dM:=ab.o _ (cj.trans aw);have dI:=di.on (Fr.ext aw);have s:=ag dM dI;clear aw hU H r aW ck a5 bh a4 O hx cG cv dM dI;go_upto_region 17 with(fail);refine r0 (λ_=>False) [7,14] (.held 0 (.free 1 (.free 2 (.held 3 (.free 4 (.free 5 (.held 6 (.pick [7,13] (λi=>bif i == 7 then .free 8 (.free 9 (.free 10 (.free 11 (.free 12 (.pick [13] (λ_=>.pick [14] (λ_=>.free 15 (.free 16 (.free 17 (.stop)))))))))) else .pick [7] (λ_=>.free 8 (.free 9 (.free 10 (.free 11 (.free 12 (.pick [14] (λ_=>.free 15 (.free 16 (.free 17 (.stop))))))))))))))))))) ?_;refine th ?_
     iterate 2 refine tf ?_
     refine th ?_
     iterate 2 refine tf ?_
     refine th ?_;clear a0 ai af c0 cq cf;refine xp (P:=?KH) (ops:=?KQ) (Q:=?KR) (R:=?KS) (tails:=?KT) (rest:=.pick [14] (λ_=>.free 15 (.free 16 (.free 17 (.stop))))) (aa:=?KI)
      (C:=λ(dh:Nat) (cM:Mt) (bI rc:Nat) (bV:Mt) (bW bD:Nat) cP=>Ext wr cP/\au cP dh 71 #[Mq,(0:Int),(0:Int),(0:Int),()]/\wr<=dh/\(gv (eG p f)).rep cP (λb=>wr.heap.size<=b/\b<cP.heap.size/\b≠dh) [.string (eG p f).name,.int .i64 (eG p f).ints,.int .i64 (eG p f).an,.int .i64 (eG p f).locals,.slice cM bI rc]) (λkey=>?JD) ?Jz
     case JD=>
      refine a2 ?_ ?_
      ·
       refine bR rfl (λK hK=>?_) rfl;go_simp;refine(c2.o f (LN aN.1) GA gn gc MA mn mc (some ⟨cm,da,none⟩) fn fc bw (bp p).length lc QA b1 qc m U I wr.drew ⟨s.1.g.on (Fr.ext Mo.drew),s.1.m.on (Fr.ext Mo.drew),s.1.f.on (Fr.ext Mo.drew)⟩ (s.2.on (Fr.ext Mo.drew)) (aN.2.1.on (Fr.ext Mo.drew)) (aN.2.2.on (Fr.ext Mo.drew))).mono ?_;rintro e aS ⟨cM,bI,rc,bV,bW,bD,rfl,aX,ar⟩;refine dX hK ?_;clear hK K
       iterate 5 refine tf ?_
       refine av ?_;refine eu ?_;have F:Ext wr (aS.alloc (.cells #[Mq,(0:Int),(0:Int),(0:Int),()] 71))/\au (aS.alloc (.cells #[Mq,(0:Int),(0:Int),(0:Int),()] 71)) aS 71 #[Mq,(0:Int),(0:Int),(0:Int),()]/\wr<=aS.heap.size/\(gv (eG p f)).rep (aS.alloc (.cells #[Mq,(0:Int),(0:Int),(0:Int),()] 71)) (λb=>wr.heap.size<=b/\b<(aS.alloc (.cells #[Mq,(0:Int),(0:Int),(0:Int),()] 71)).heap.size/\b≠aS.heap.size) [.string (eG p f).name,.int .i64 (eG p f).ints,.int .i64 (eG p f).an,.int .i64 (eG p f).locals,.slice cM bI rc]:=
        ⟨(Fr.aG ar).alloc _,Mp,(Fr.aG ar).size,D.aK (λb O=>⟨O.1,by have:=O.2;simp;omega,by have:=O.2;omega⟩) _ _ (D.aS (λb O=>Below.heap_alloc aS _ b O.2) _ _ aX)⟩
       clear aX ar;revert F;generalize aS.heap.size=dh;intro F;exact key dh cM bI rc bV bW bD _ F
      ·
       refine eu ?_;generalize hV:World.alloc _ _=cc;have co:=aU hV;have ck:=aI hV;clear hV;refine av ?_;refine bR rfl (λK hK=>?_) rfl;go_simp;refine(c2.o f (LN aN.1) GA gn gc MA mn mc (some ⟨cm,da,none⟩) fn fc bw (bp p).length lc QA b1 qc m U I cc.drew ⟨s.1.g.on (Fr.ext co.drew),s.1.m.on (Fr.ext co.drew),s.1.f.on (Fr.ext co.drew)⟩ (s.2.on (Fr.ext co.drew)) (aN.2.1.on (Fr.ext co.drew)) (aN.2.2.on (Fr.ext co.drew))).mono ?_;rintro e aS ⟨cM,bI,rc,bV,bW,bD,rfl,aX,ar⟩;refine dX hK ?_;clear hK K
       iterate 5 refine tf ?_
       have cI:=ck.lt;have F:Ext wr aS/\au aS wr 71 #[Mq,(0:Int),(0:Int),(0:Int),()]/\wr<=wr.heap.size/\(gv (eG p f)).rep aS (λb=>wr.heap.size<=b/\b<aS.heap.size/\b≠wr.heap.size) [.string (eG p f).name,.int .i64 (eG p f).ints,.int .i64 (eG p f).an,.int .i64 (eG p f).locals,.slice cM bI rc]:=
        ⟨co.trans (Fr.aG ar),ck.aj (Fr.aG ar),LK _,D.aK (λb O=>⟨by have ac:cc.heap.size<=b:=O.1;omega,O.2,by have ac:cc.heap.size<=b:=O.1;omega⟩) _ _ aX⟩
       clear aX ar co ck cI;exact key wr cM bI rc bV bW bD _ F
     case Jz=>
      rintro dh cM bI rc bV bW bD cP ⟨ds,aA,dg,aX⟩;obtain⟨d0,aK,aM⟩:=aA.two;have ah:=az ds aA aX;clear ds aA aX;refine av ?_;refine bR rfl (λK hK=>?_) rfl;go_simp;refine dX hK ?_;clear hK K
      iterate 3 refine tf ?_
      refine ch ?_;generalize hX:World.setCell _ _ _=hf;obtain⟨ds,aA,aX⟩:=ah.o;obtain⟨ck,bP,a9⟩:=bA (w:=wr) [.string (eG p f).name,.int .i64 (eG p f).ints,.int .i64 (eG p f).an,.int .i64 (eG p f).locals,.slice cM bI rc] (by rfl) aA ds dg hX;have ci:=b5.2.1.aj bP;have b2:=b5.2.2.2.2.1.aj bP;have bv:∀b,(Value.slice A k c).ownBlock=some b->b<wr.heap.size:=λb O=>(b5.2.2.2.2.1.lt O).2;have dZ:=a9.size;have d6:=bP.size;have hd:(gv (eG p f)).rep hf (lh (λb=>ao<=b) hf (.slice A k c)) [.string (eG p f).name,.int .i64 (eG p f).ints,.int .i64 (eG p f).an,.int .i64 (eG p f).locals,.slice cM bI rc]:=
       D.aK (λb O=>⟨by have:=O.1;omega,by have:=O.2.1;omega,λhc=>by have:=bv b hc;have:=O.1;omega⟩) _ _ (D.aS (λb O=>a9.block b O.2.1 O.2.2) _ _ aX)
      have dB:=az bP b2 hd;clear hX ds aA aX a9 b2 hd d0 aK aM ah bv bP;obtain⟨d0,aK,aM⟩:=ck.two;obtain⟨bq,am,aG⟩:=ci.two;have dT:=ae ci;clear ck ci;go_wp2_with((at_builtin;refine bL Io rfl (.tmp 106) (.tmp 108) rfl dB.2.1 dB.2.2 rfl rfl rfl ad ad ad ?_;intro cC c3 cV al aC cn cb;have cl:=dT.on aC (λO=>by have:=(dB.2.1.lt O).1;omega);clear bq am aG d0 aK aM;obtain⟨bq,am,aG⟩:=cl.two;have dU:=ae cl;clear cl));generalize hX:World.setCell _ _ _=dF;have cW:=cp hX;have bP:=dB.1;have j:∀b,(Value.slice A k c).ownBlock=some b->ao<=b:=λb O=>(dB.2.1.lt O).1;have dP:(((p.funcs.take (k+1)).map (eG p)).map gv)=((p.funcs.take k).map (eG p)).map gv++[gv (eG p f)]:=by rw[aY aN.1,LR,LR];rfl
      have q1:Ext V dF:=Fr.low (M:=λb=>V.heap.size<=b) (((b5.1.trans bP).mono λ_ h=>h.elim).trans ((aC.mono λb O=>by have:=j b O;omega).trans (cW.mono λb O=>ad))) λ_ h=>h;have cJ:au dF u 34 #[.slice cR gn c1,.slice A2 mn bY,.slice cC (k+1) c3,mi]:=hX▸dU.aN 2 _;have c9:=((b5.2.2.1.aj bP).dr aC.size λb an hp=>aC.block b an λhe=>by
       rcases hp with hp|hp
       .exact hp.elim
       .have:=j b he;have:=(cT.o b hp).2;omega).dr cW.size λb an hp=>cW.block b an λhe=>by
       rcases hp with hp|hp
       .exact hp.elim
       .exact(cT.o b hp).1 he
      have dk:=((b5.2.2.2.1.aj bP).dr aC.size λb an hp=>aC.block b an λhe=>by
       rcases hp with hp|hp
       .exact hp.elim
       .have:=j b he;have:=(cw.o b hp).2;omega).dr cW.size λb an hp=>cW.block b an λhe=>by
       rcases hp with hp|hp
       .exact hp.elim
       .exact(cw.o b hp).1 he
      have q5:Gr (λb=>ao<=b) ao 71 5 dF cC (k+1) c3 (((p.funcs.take (k+1)).map (eG p)).map gv):=by
       rw[dP];exact al.dr cW.size λb an hp=>cW.block b an λhe=>by
        rcases hp with hp|hp
        .omega
        .have:=(al.lt hp).1;omega
      have dr:ao<=dF:=by have ac:=bP.size;have ap:=aC.size;have aV:=cW.size;omega
      have a3:=dm q1 cJ c9 dk q5 dr;clear q1 cJ c9 dk q5 dr al aC cn bP cW hX j dP bq am aG;go_wp2;go_roundw
      case rel=>exact⟨k+1,cC,c3,ad,by go_num,a3.o⟩
      case measure=>exact aH
    .obtain rfl:fn=k:=ad;rw[LS (by rw[b6.2.2];exact LK _)] at aW;have bs:=bg.aj aw;have d5:w+1<V.heap.size:=bg.lt;have cB:=ae hU;obtain⟨bq,am,aG⟩:=hU.two;obtain⟨d0,aK,aM⟩:=bs.two;obtain⟨cQ,c7⟩:=aJ bs aW;clear aw hU H r aW ck bs;go_wp2;generalize hX:World.setCell _ _ _=gM;obtain⟨f2,dl,bS⟩:=bA (w:=w) [.slice cR gn c1,.slice A2 mn bY,.slice A fn c,mi] (by rfl) cQ.o (cj.trans b5.1) (Nat.le_succ _) hX;obtain⟨bl,aD,aP⟩:=f2.two;clear bq am aG d0 aK aM a0 ai af;refine Mn (v:=.tuple #[.agg #[.slice cR gn c1,.slice A2 mn bY,.slice A fn c,mi],(0:Int),(0:Int),(0:Int)]) (by simp[results,Tryz.results12,go_sem,bl]) rfl ?_;have bd:(gB p).main=(mi:Int):=by
      show jo (bp p) iL=_
      unfold jo;rw[show iL=⟨#[109,97,105,110]⟩ from rfl,dp.o]
     have eF:=cj.size;have d7:=bS.size;have aL:∀b,V.heap.size<=b->b<wr.heap.size->gM.heap[b]?=wr.heap[b]?:=λb ac ap=>bS.block b ap ad;have c5:=b5.2.2.1.dr bS.size λb an hp=>by
      rcases hp with hp|hp
      .exact hp.elim
      .exact aL b (by have:=(b5.2.2.1.lt hp).1;omega) an
     have dv:=b5.2.2.2.1.dr bS.size λb an hp=>by
      rcases hp with hp|hp
      .exact hp.elim
      .exact aL b (by have:=(b5.2.2.2.1.lt hp).1;omega) an
     have dt:=c7.dr bS.size λb an hp=>by
      rcases hp with hp|hp
      .exact aL b ad an
      .exact aL b (by have:=(c7.lt hp).1;omega) an
     refine⟨cR,gn,c1,A2,mn,bY,A,fn,c,by rw[bd],?_,dl⟩;unfold tW;rw[bd,bN];exact aO.2 ⟨cR,gn,c1,_,rfl,dv.cap.1,dv.sl (λb _ h=>h.elim) (λb ac ap=>⟨ad,ac⟩),aO.2 ⟨A2,mn,bY,_,rfl,c5.cap.1,c5.sl (λb _ h=>h.elim) (λb ac ap=>⟨ad,ac⟩),
      aO.2 ⟨A,fn,c,_,rfl,dt.cap.1,dt.sl (λb ac ap=>⟨ad,ac⟩) (λb ac ap=>⟨ad,ac⟩),bo.2 ⟨_,rfl,aR.2 rfl⟩⟩⟩⟩
 ):p:=h
theorem sJ(h:p:=by
 have cO:(bp p).length<=100:=by rw[k3];omega
 obtain⟨mi,bx,bm,cz,ak⟩:=hp.main;have cY:dJ (bp p) ⟨#[109,97,105,110]⟩=some ⟨⟨#[109,97,105,110]⟩,3,(mi:Int)⟩:=by
  have:=lg (nW hp) (LN (xZ bm));rw[cz] at this;exact this
 have bb:mi<fn:=by have:=(List.getElem?_eq_some_iff.1 bm).1;omega
 obtain⟨de,ct,c2,dp⟩:=iY h hp dH cY;have dj:=ag bm ak;have b6:=az dx lm lf;have d1:=ae cO;clear h hp dH cY bm cz ak dx lm lf cO;go_enter func12,ntmps12;go_upto_region 1 with(fail);generalize ba:World.alloc _ _=W;have aw:=h9 ba;have aQ:=gb ba;have dG:=fG ba;obtain⟨br,b9,dy⟩:=ef aw aQ dG;obtain⟨a0,ai,af⟩:=aQ.two;have dR:∀(aS:World),Ext w aS->hL aS (aq aS) p GA gn MA mn FA fn:=λ_ he=>⟨de.g.on (Fr.ext he),de.m.on (Fr.ext he),de.f.on (Fr.ext he)⟩
 have ab:=ae dR;clear ba aw aQ dG dR;go_wp2_with(fail);refine(GY p ct.o GA gn gc MA mn mc FA fn fc W (ab.o _ br.o)).mono ?_;rintro e aS ⟨rfl,ar⟩;have bB:=ae (br.trans ar);have cK:=b9.aj ar;have G:=ae cK;have cD:=ae (dy.aj ar);clear a0 ai af ar;obtain⟨a0,ai,af⟩:=cK.two;clear cK;go_wp2_with(fail);refine(sT p ct.o GA gn gc MA mn mc FA fn fc aS (ab.o _ bB.o)).mono ?_;rintro e aT ⟨bw,lc,rfl,y,bJ⟩;have a8:=ae (bB.trans bJ);have bM:=G.aj bJ;have bz:=ae bM;have cE:=ae (cD.aj bJ);have b8:Sl aT (aq aT) bw (bp p).length ((bp p).map b0):=y.mono λb O=>O.2;have cu:=ae b8;clear a0 ai af bJ y b8;obtain⟨a0,ai,af⟩:=bM.two;clear bM;go_wp2_with(fail);refine(ej bw (bp p).length lc (bp p) ⟨#[109,97,105,110]⟩ aT cu.o (ay d1.o)).mono ?_;rintro e b7 ⟨rfl,bK⟩;rw[dp.o];simp only[jb,q9];have cd:=ae (a8.trans bK);have bf:=ae (bz.aj bK);have cH:=ae (cE.aj bK);have df:=ae (cu.on (Fr.ext bK));clear a0 ai af bK;go_upto_region 7 with(fail);generalize hV:World.alloc _ _=V;have L:=aU hV;have du:=aI hV;have cj:=ae (cd.trans L);have bZ:=bf.aj L;have T:=ae bZ;have bg:=ae (cH.aj L);have di:=ae (df.on (Fr.ext L));have d2:=ae du;obtain⟨cm,da,S,cs,rfl,cy,z,cg,bG,bk⟩:=(ab.o _ cj.o).f.hf nt bb;rw[dj.1] at z;injection z with z;subst z;obtain⟨PA,pn,pc,ce,bn,bc,rfl,dc,cx,bO,_⟩:=k5.1 cg;have f4:=bk 1 _ rfl;have a6:cm<V:=cy;obtain rfl:0=pn:=by have:=bO.1;rw[dj.2] at this;exact this
 clear hV L cg bG bk bO cy;obtain⟨a0,ai,af⟩:=bZ.two;obtain⟨bq,am,aG⟩:=du.two;clear bZ du;go_upto_region 9 with(fail);have c4:=ae (ab.o _ cj.o).m;obtain⟨cN,dA⟩:∃N,N=V.heap.size:=⟨_,rfl⟩
 have gD:¬cN<=w:=ad;have gE:¬cN<=b7:=ad;clear f4 a6;refine r0 (λb=>cN<=b) [8] (.free 0 (.held 1 (.free 3 (.held 4 (.pick [2,7] (λi=>bif i == 2 then .pick [5,7] (λi=>bif i == 5 then .free 6 (.pick [7] (λ_=>.pick [8] (λ_=>.stop))) else .pick [5] (λ_=>.free 6 (.pick [8] (λ_=>.stop)))) else .pick [2] (λ_=>.pick [5] (λ_=>.free 6 (.pick [8] (λ_=>.stop)))))))))) ?_;refine tf ?_;refine oI ?_;refine tf ?_;refine oI ?_;clear a0 ai af bq am aG;refine iT (P:=?oM) (ops:=?IH) (Q:=?FN) (R:=?IJ) (tails:=?IW) (rest:=.pick [8] (λ_=>.stop)) (aa:=?Ih)
  (C:=λ(_:Nat) u A2 bY cP=>Ext V cP/\Gr (λ_=>False) cN 89 3 cP A2 mn bY (p.af.map eK)/\au cP u 34 #[(),(),(),(0:Int)]/\(Value.slice A2 mn bY).ownBlock≠some u/\cN<=u) (λkey=>?wI) ?wz
 case wI=>
  refine a2 ?_ ?_
  ·
   refine eu ?_;generalize hV:World.drew (World.alloc _ _)=cc;have e1:=gQ hV;have dd:Gr (λ_=>False) cN 89 3 cc (some ⟨V,0,none⟩) 0 0 []:=by rw[<-hV,dA];exact(Gr.lit (w:=V) (n:=0) (l:=[]) rfl (by rfl) ad (by simp only[D.aM])).aj Mo.drew
   clear hV;refine a2 ?_ ?_
   ·
    refine aE rfl (λK hK=>?_) rfl;rw[if_pos (by rfl)];refine ju lX (.tmp 56) (.tmp 58) (by rfl) dd (qi p.af) c4.1 (s8 (c4.on (Fr.ext e1))) (λh=>by subst h;exact Sl.none_ c4.o) (by rfl) (by rfl) ad ad (by rw[dA];exact e1.size) ?_;intro A2 bY cV bT f1 o1 c1;refine dq hK (f1.mono λb O=>ad) ?_;clear hK K;refine tf ?_;refine av ?_;refine eu ?_;have e2:Ext V cV:=Fr.low (M:=λb=>V.heap.size<=b) ((e1.mono λ_ h=>h.elim).trans (f1.mono λb O=>ad)) λ_ h=>h;have F:Ext V (cV.alloc (.cells #[(),(),(),(0:Int)] 34))/\Gr (λ_=>False) cN 89 3 (cV.alloc (.cells #[(),(),(),(0:Int)] 34)) A2 mn bY (p.af.map eK)/\au (cV.alloc (.cells #[(),(),(),(0:Int)] 34)) cV 34 #[(),(),(),(0:Int)]/\(Value.slice A2 mn bY).ownBlock≠some cV.heap.size/\cN<=cV:=
     ⟨e2.alloc _,bT.aj (Mo.alloc _),Mp,λO=>by have:=(bT.lt O).2;omega,by have:=e2.size;omega⟩
    clear bT dd f1 o1 e1 e2;revert F;generalize cV.heap.size=u;generalize V.heap.size=cZ;intro F;exact key cZ u A2 bY _ F
   ·
    refine eu ?_;generalize hV:World.alloc _ _=eR;have e2:=aU hV;have a7:au eR cc 34 #[(),(),(),(0:Int)]:=hV▸Mp;have dK:V<cc.heap.size:=(dd.lt (g:=V.heap.size) rfl).2;clear hV;refine av ?_;refine aE rfl (λK hK=>?_) rfl;rw[if_pos (by rfl)];refine ju lX (.tmp 56) (.tmp 58) (by rfl) (dd.aj e2) (qi p.af) c4.1 (s8 (c4.on (Fr.ext (e1.trans e2)))) (λh=>by subst h;exact Sl.none_ c4.o) (by rfl) (by rfl) ad ad (by rw[dA];exact(e1.trans e2).size) ?_;intro A2 bY cV bT f1 o1 c1;refine dq hK (f1.mono λb O=>ad) ?_;clear hK K;refine tf ?_;have e3:Ext V cV:=Fr.low (M:=λb=>V.heap.size<=b) (((e1.trans e2).mono λ_ h=>h.elim).trans (f1.mono λb O=>ad)) λ_ h=>h;have dO:=a7.lt;have F:Ext V cV/\Gr (λ_=>False) cN 89 3 cV A2 mn bY (p.af.map eK)/\au cV cc 34 #[(),(),(),(0:Int)]/\(Value.slice A2 mn bY).ownBlock≠some cc.heap.size/\cN<=cc:=⟨e3,bT,a7.on f1 ad,λO=>by
     rcases o1 _ O with h|h
     .omega
     .omega,ad⟩
    clear bT dd f1 o1 e1 e2 e3 a7 dK dO;revert F;generalize cc.heap.size=u;generalize V.heap.size=cZ;intro F;exact key cZ u A2 bY _ F
  ·
   refine eu ?_;generalize hV:World.drew (World.alloc _ _)=cc;have e1:=gQ hV;have a7:au cc V 34 #[(),(),(),(0:Int)]:=hV▸(Mp).drew;clear hV;refine av ?_;refine eu ?_;generalize hV:World.alloc _ _=eR;have e2:=aU hV;have dd:Gr (λ_=>False) cc 89 3 eR (some ⟨cc,0,none⟩) 0 0 []:=hV▸Gr.lit (w:=cc) (n:=0) (l:=[]) rfl (by rfl) ad (by simp only[D.aM]);have dn:=a7.aj e2;have dK:V<cc.heap.size:=a7.lt;have dE:cc<=eR.heap.size:=e2.size;clear hV a7;refine av ?_;refine aE rfl (λK hK=>?_) rfl;rw[if_pos (by rfl)];refine ju lX (.tmp 56) (.tmp 58) (by rfl) dd (qi p.af) c4.1 (s8 (c4.on (Fr.ext (e1.trans e2)))) (λh=>by subst h;exact Sl.none_ c4.o) (by rfl) (by rfl) ad ad dE ?_;intro A2 bY cV bT f1 o1 c1;refine dq hK (f1.mono λb O=>ad) ?_;clear hK K;refine tf ?_;have e3:Ext V cV:=Fr.low (M:=λb=>V.heap.size<=b) (((e1.trans e2).mono λ_ h=>h.elim).trans (f1.mono λb O=>ad)) λ_ h=>h;have F:Ext V cV/\Gr (λ_=>False) cN 89 3 cV A2 mn bY (p.af.map eK)/\au cV V 34 #[(),(),(),(0:Int)]/\(Value.slice A2 mn bY).ownBlock≠some V.heap.size/\cN<=V:=⟨e3,bT.base ad,dn.on f1 ad,λO=>by have:=(bT.lt O).1;omega,ad⟩
   clear bT dd f1 o1 e1 e2 e3 dn dK dE;revert F;generalize cc.heap.size=cZ;generalize V.heap.size=u;intro F;exact key cZ u A2 bY _ F
 case wz=>
  rintro cZ u A2 bY Y ⟨dw,dz,bH,bi,d4⟩;obtain⟨bq,am,aG⟩:=bH.two;have bC:=bF dw dz bH bi;clear dw dz bH bi;exact fQ
 ):p:=h
end Dq
open Dq in
theorem yZ(p:bQ)(hp:oJ p)(dH:Jf p)(GA:Mt)(gn gc:Nat)(MA:Mt)(mn mc:Nat)(FA:Mt)(fn fc:Nat)(w:World)(h:hL w (aq w) p GA gn MA mn FA fn) :
  Calls prog 12 #[.agg #[.slice GA gn gc,.slice MA mn mc,.slice FA fn fc]] w (xI w (gB p)):=by
 have dx:p.globals.length=gn:=by rw[<-h.g.1,LO]
 have lm:p.af.length=mn:=by rw[<-h.m.1,LO]
 have lf:p.funcs.length=fn:=by rw[<-h.f.1,LO]
 exact sI
namespace Dy
theorem dC(h:p:=by
 generalize hw:World.setCell _ _ _=wf;have ah:=b3.2;rw[hw] at ah;have U:Fr (λb=>b=w.heap.size+1+1+1+1) Z wf:=(b3.1.mono λ_ h=>h.elim).trans (by rw[<-hw];exact(Fr.refl (λb=>b=w.heap.size+1+1+1+1) gW).setCell (.inl rfl) _);have eB:¬di=w+1+1+1+1:=λh=>ah.kg h.symm;have a3:=cL (bk.1.eZ (U.below bk.1.size λk aj h=>ad)) (bk.2.1.on U ad) (bk.2.2.1.on U ad) (bk.2.2.2.1.on U eB) ah;clear hw ah U eB b3 bq am aG;go_wp2_with(fail);go_roundw
 case rel=>exact⟨bg+1,ay,eq,bw,cw,eY,cy,ew,eX,_,by go_num,ad,ad,ad,eA,d7.o,by simp;omega,a3.o⟩
 case measure=>exact aH
 ):p:=h
theorem fy(h:p:=by
 refine tf ?_;refine ch ?_;generalize hX:World.setCell _ _ _=X;obtain⟨bp,bu,cE⟩:=ei (M:=λ_=>False) [.int .i64 y.proc,.slice c5 dd de] (by rfl) ao bd gz hX;have ee:Sl X (aq X) c5 dd (y.an.map .i):=(c4.ai λb O=>cE.block b O.2.1 O.2.2).mono λb O=>LL O.2.1 cE.size;have ed:Sl X (λb=>wr.heap.size<=b/\b<X.heap.size) c5 dd (y.an.map .i):=(c4.ai λb O=>cE.block b O.2.1 O.2.2).mono λb O=>⟨O.1,LL O.2.1 cE.size⟩
 have aN:=cL (bt.1.trans bu) (bt.2.1.aj bu) (bt.2.2.1.aj bu) (bt.2.2.2.1.aj bu) (bt.2.2.2.2.on (bu.mono λ_ h=>h.elim));have d2:=ae bp;have dh:=az ee ed bu;clear hX bp cE bu ee ed c4 ao bd ci bO b5;have a8:cs[bg]?=some (cs[bg]'ad):=Array.getElem?_eq_getElem ad;have eM:=ae a8
 cases ok with
 | false=>
  obtain⟨dg,el,ep⟩:=aN.2.2.2.1.two;go_wp2_with(fail);generalize cG:World.setCell _ _ _=Z;have bf:=cp cG;have bs:au Z di 3 (cs.setIfInBounds bg (.int .i64 (-1))):=cG▸aN.2.2.2.1.aN bg _;have d8:w<=di:=dA.1;have bk:=cL (aN.1.eZ (bf.below aN.1.size λk aj h=>ad)) (aN.2.1.on bf dA.2.1) (aN.2.2.1.on bf dA.2.2) bs (aN.2.2.2.2.on bf);clear cG bf bs dg el ep;go_roundw
  case rel=>exact⟨bg+1,some ⟨dH,fm,none⟩,m,dj,bV,bW,bD,bE,dF,_,by go_num,ad,ad,ad,ad,d3.o,by simp;omega,bk.o⟩
  case measure=>exact aH
 | true=>
  have eF:=ca rfl;have eP:=ae eF;clear ca eF a8;obtain⟨bq,am,aG⟩:=aN.2.2.2.2.blk.two;obtain⟨ci,bO,b5⟩:=d2.two;go_wp2_with(fail);have b8:∀z∈bE,z.an.length<=1000000:=λz aL=>by
   obtain⟨q,_,bK,hl⟩:=aN.2.2.2.2.ok z aL;have:=(cB.procs q (LN bK)).an.2;omega
  have eO:=ae b8;clear b8;refine(pY _ m dj _ i b2 bV bW bD bE y c5 dd de X (aN.2.2.2.2.ins.sl (λb h _=>h) (λb h _=>h)) dh.1 ad eO.o).mono ?_;rintro e c6 ⟨r,rfl,c7,df,bP⟩;have aQ:=cL (aN.1.trans bP) (aN.2.1.aj bP) (aN.2.2.1.aj bP) (aN.2.2.2.1.aj bP) (aN.2.2.2.2.on (bP.mono λ_ h=>h.elim));have b9:=ae (d2.aj bP);have e5:=(dh.2.2.trans bP).size;have cc:=ag (dh.1.on (Fr.ext bP)) ((dh.2.1.ai λb O=>bP.block b O.2 λh=>h).mono λb O=>(⟨O.1,LL O.2 bP.size⟩:wr.heap.size<=b/\b<c6.heap.size));clear aN d2 dh bP bq am aG ci bO b5 c7 df;obtain⟨bq,am,aG⟩:=aQ.2.2.2.2.blk.two;obtain⟨ci,bO,b5⟩:=b9.two;rcases Int.lt_or_le r 0 with a5|a5
  have eV:decide (r<0)=true:=by simpa using a5
  clear a5;have dD:=bt.2.2.2.2;have cu:=dD.blk.lt;have hD:(fO y).rep c6 (lh (λb=>b≠w.heap.size+1+1+1+1/\(Value.slice S i b2).ownBlock≠some b/\¬b=di) c6 (.slice (some ⟨dH,fm,none⟩) m dj)) [.int .i64 y.proc,.slice c5 dd de]:=
   kK.2 ⟨c5,de,dd,rfl,c9,cc.2.mono λb O=>⟨⟨by have:=O.1;omega,λh=>by have:=(dD.cl b h).2;have:=O.1;omega,λh=>by have:=dD.kl b h;have:=O.1;omega⟩,O.2,λh=>by have:=(dD.ins.lt h).2;have:=O.1;omega⟩⟩
  have db:∀b,(Value.slice (some ⟨dH,fm,none⟩) m dj).ownBlock=some b->b<wr.heap.size:=λb O=>(dD.ins.lt O).2;obtain⟨b4,ev⟩:=aJ hD db;have bb:w+1+1<=c6.heap.size:=ad;clear dD cu hD db;go_upto_region 19 with(at_builtin;refine bL Ik rfl (.tmp 77) (.tmp 79) rfl aQ.2.2.2.2.ins b4.o rfl rfl rfl ad ad bb ?_;intro ay bw cV eh cW ek eU;have al:=az eh cW ek;have cH:=aQ.2.2.2.2.blk.on cW (λO=>(aQ.2.2.2.2.ig _ O).1 rfl);clear bq am aG ci bO b5 eh cW ek eU;obtain⟨bq,am,aG⟩:=cH.two;clear cH);have ap:=aQ.2.2.2.2.J4 eP.o al.1 al.2.1 al.2.2;have cW:=al.2.1;have dP:=aQ.2.2.2.2.ig;have bz:(bE++[y])[i]?=some ⟨dz,dt⟩:=by rw[List.getElem?_append_left (List.getElem?_eq_some_iff.1 d3.o).1];exact d3.o
  have cI:∀v,Fr (λb=>b=w.heap.size+1+1+1+1) cV (cV.setCell ⟨w.heap.size+1+1+1+1,0,none⟩ v):=λv=>(Fr.refl (λb=>b=w.heap.size+1+1+1+1) cV).setCell (.inl rfl) v;have db:=ev.o;have cn:∀v,Fr (λb=>b=w.heap.size+1+1+1+1\/(Value.slice (some ⟨dH,fm,none⟩) m dj).ownBlock=some b) c6 (cV.setCell ⟨w.heap.size+1+1+1+1,0,none⟩ v):=λv=>(cW.mono λ_ h=>.inr h).trans ((cI v).mono λ_ h=>.inl h);have dx:=λb (O:(Value.slice (some ⟨dH,fm,none⟩) m dj).ownBlock=some b)=>(aQ.2.2.2.2.ins.lt O).1;have cl:=bt.2.2.2.2.blk.lt;have c3:¬(aC=w.heap.size+1+1+1+1\/(Value.slice (some ⟨dH,fm,none⟩) m dj).ownBlock=some aC):=by
   rintro(h|h)
   .omega
   .have:=db _ h;omega
  have dT:¬(w.heap.size=w.heap.size+1+1+1+1\/(Value.slice (some ⟨dH,fm,none⟩) m dj).ownBlock=some w.heap.size):=by
   rintro(h|h)
   .omega
   .have:=dx _ h;omega
  have dS:¬(w.heap.size+1=w.heap.size+1+1+1+1\/(Value.slice (some ⟨dH,fm,none⟩) m dj).ownBlock=some (w.heap.size+1)):=by
   rintro(h|h)
   .omega
   .have:=dx _ h;omega
  have eD:¬(di=w.heap.size+1+1+1+1\/(Value.slice (some ⟨dH,fm,none⟩) m dj).ownBlock=some di):=by
   rintro(h|h)
   .exact aQ.2.2.2.2.kg h.symm
   .exact(dP _ h).2.2 rfl
  have eE:Sl (cV.setCell ⟨w.heap.size+1+1+1+1,0,none⟩ (.slice ay (m+1) bw)) (aq (cV.setCell ⟨w.heap.size+1+1+1+1,0,none⟩ (.slice ay (m+1) bw))) c5 dd (y.an.map .i):=
   (cc.2.ai λb O=>(cn _).block b O.2 (by
    rintro(h|h)
    .have:=O.1;omega
    .have:=db _ h;have:=O.1;omega)).mono λb O=>LL O.2 (cn (.slice ay (m+1) bw)).size
  have br:Ext w (cV.setCell ⟨w.heap.size+1+1+1+1,0,none⟩ (.slice ay (m+1) bw)):=aQ.1.eZ ((cn _).below aQ.1.size (by
   rintro k aj (h|h)
   .omega
   .have:=dx _ h;omega))
  have aT:=z9 (show m+1<=st+bg+1+1 by omega) (show i<m+1 by omega) bz br (aQ.2.1.on (cn (.slice ay (m+1) bw)) dT) (aQ.2.2.1.on (cn (.slice ay (m+1) bw)) dS) (aQ.2.2.2.1.on (cn (.slice ay (m+1) bw)) eD) ap (b9.on (cn (.slice ay (m+1) bw)) c3) eE;clear bz cI db cn dx cl c3 dT dS eD eE br ap cW dP aQ b9 cc al ev b4 bq am aG bb;revert aT;generalize World.setCell _ _ _=gT;generalize m+1=eq;generalize bE++[y]=ew;intro aT
  rotate_left
  have eV:decide (r<0)=false:=by simpa using a5
  clear a5;go_upto_region 19 with(fail);have aT:=z9 (show m<=st+bg+1+1 by omega) (show i<m by omega) d3.o aQ.1 aQ.2.1 aQ.2.2.1 aQ.2.2.2.1 aQ.2.2.2.2 b9.o cc.1;clear aQ b9 cc bq am aG ci bO b5;revert aT;generalize c6=gT;generalize dj=bw;generalize m=eq;generalize bE=ew;generalize (some ⟨dH,fm,none⟩:Mt)=ay;intro aT
  rotate_left
  all_goals
   obtain⟨e9,eA,bz,br,d5,d4,dN,ap,cb,eg⟩:=aT.o;obtain⟨bq,am,aG⟩:=ap.blk.two;obtain⟨ci,bO,b5⟩:=cb.two;clear bz br d5 d4 dN ap cb eg;go_wp2_with(fail);have b8:∀z∈ew,z.an.length<=1000000:=λz aL=>by
    obtain⟨q,_,bK,hl⟩:=aT.2.2.2.2.2.2.2.1.ok z aL;have:=(cB.procs q (LN bK)).an.2;omega
   refine(pY ay eq bw S i b2 bV bW bD ew y c5 dd de gT (aT.2.2.2.2.2.2.2.1.ins.sl (λb h _=>h) (λb h _=>h)) aT.2.2.2.2.2.2.2.2.2 ad b8).mono ?_;rintro e bU ⟨dQ,rfl,cq,bS,cv⟩;clear bq am aG ci bO b5 b8 cq bS;obtain⟨_,_,bz,br,d5,d4,dN,ap,cb,eg⟩:=aT.o;obtain⟨dg,el,ep⟩:=(dN.aj cv).two;have a8:=eM.o;have ds:=dm bz (br.trans cv) (d5.aj cv) (d4.aj cv) (dN.aj cv) (ap.on (cv.mono λ_ h=>h.elim));clear bz br d5 d4 dN ap cb eg cv aT;go_upto_region 20 with(fail);generalize cG:World.setCell _ _ _=Z;have bf:=cp cG;have bs:au Z di 3 (cs.setIfInBounds bg dQ):=cG▸ds.2.2.2.2.1.aN bg _;have d8:w<=di:=dA.1;have a9:Ext w Z:=ds.2.1.eZ (bf.below ds.2.1.size λk aj h=>ad);have bk:=cL a9 (ds.2.2.1.on bf dA.2.1) (ds.2.2.2.1.on bf dA.2.2) bs (ds.2.2.2.2.2.on bf);have d7:=ae ds.1;clear cG bf bs dg el ep d8 ds a8;obtain⟨bc,bZ,c,cells,eo,en,es,EA,em,ec,QA,qm,qc,fe,fg,fc,KA,eL,fb,eT,cx,hc,bQ,aZ⟩:=dJ.EH bi;have bA:=bQ.cells;subst bA eT;have c0:=(a9.qO.1 bc (bZ+bg*12+0) cx).trans (aZ 0 _ rfl);simp only[LW] at c0;clear aZ bQ hc a9;by_cases bn:c.op=3
   .rw[bn] at c0;clear bn;have a8:Z.cell? ⟨di,bg,none⟩=some (.int .i64 dQ):=by
     rw[bk.2.2.2.1.cell,Array.getElem?_setIfInBounds_self_of_lt ad]
    obtain⟨gs,g5,eN,_⟩:=bk.2.2.2.2.IL.some_ bk.2.2.2.2.w6;subst eN;obtain⟨bq,am,aG⟩:=bk.2.2.2.2.blk.two;have e3:=bk.2.2.2.1.lt;have ez:bc<Z:=LL cx bk.1.size;go_upto_region 21 with(fail);refine eJ (λ_=>False) [(0,3),(1,0),(2,3),(3,3),(4,3),(5,0),(6,2),(7,3),(8,2)] ?_;refine pf ?_;refine ph ?_
    iterate 3 refine pf ?_
    refine ph ?_;refine ax rfl (λK hK=>?_);go_simp;refine(FI _ gs g5 bW bD dF dQ Z.drew (bk.2.2.2.2.on Mo.drew).IL (λb O=>O.1) ad bk.2.2.2.2.zb bk.2.2.2.2.w6).mono ?_;rintro e gW ⟨cw,eY,cy,eX,rfl,dp,cq,d6,cf,dl⟩;have dM:Ext Z gW:=Fr.aG dl;have f2:=bk.2.2.2.2.blk.aj dM;clear bq am aG c0 a8;obtain⟨bq,am,aG⟩:=f2.two;have ah:=hE.KC (bk.2.2.2.2.on Mo.drew) rfl cf dl dp d6;have b3:=ag dM ah;clear cf dl dM f2 ah;exact sL
   .have b1:(c.op == 3)=false:=by simpa using bn
    clear bn;have ez:bc<Z:=LL cx bk.1.size;go_wp2_with(fail);go_roundw
    case rel=>exact⟨bg+1,ay,eq,bw,bV,bW,bD,ew,dF,_,by go_num,ad,ad,ad,eA,d7.o,by simp;omega,bk.o⟩
    case measure=>exact aH
 ):p:=h
end Dy
open Dy in
theorem yF(u:aA)(hu:da u)(GA:Mt)(gn gc:Nat)(MA:Mt)(mn mc:Nat)(PA:Mt)(pn pc:Nat)(w:World)(hU:hP w (aq w) u GA gn MA mn PA pn) :
  Calls prog 13 #[.agg #[.slice GA gn gc,.slice MA mn mc,.slice PA pn pc,.int .i64 u.main]] w
   λe ab=>∃(et:Mt) (n0 c0:Nat) (cR:Mt) (n1 c1:Nat) (A2:Mt) (n2 c2:Nat) (k:Int),e=.returned (.tuple #[.agg #[.slice et n0 c0,.slice cR n1 c1,.slice A2 n2 c2],k])/\Ext w ab:=by
 have eC:u.procs.length=pn:=by rw[<-hU.p.1,LO]
 have dW:pn<=16:=by have:=hu.E1;omega
 obtain⟨cB,dI⟩:=aJ hu hU;obtain⟨mp,bC,ak,_,cj⟩:=hu.main;have cU:=ae (show l5 u ⟨u.main,[]⟩ from ⟨mp,bC,ak,by simp[cj]⟩);clear hU hu bC ak cj;go_enter func13,ntmps13;go_wp2_with(fail);generalize ba:World.alloc _ _=W;have aw:Ext w W:=ba▸((((Mo.alloc _).alloc _).alloc _).alloc _).alloc _;have bN:au W w 34 #[.slice GA gn gc,.slice MA mn mc,.slice PA pn pc,.int .i64 u.main]:=ba▸((((Mp).alloc _).alloc _).alloc _).alloc _;have aV:au W (w.heap.size+1) 38 #[(),(),()]:=ba▸(((au.gX _ _ _ (by simp)).alloc _).alloc _).alloc _;have N:hE u (w.heap.size+1+1+1+1) (w.heap.size+1+1) (λ_=>False) W (some ⟨w.heap.size+1+1,0,none⟩) 1 1 none 0 0 (some ⟨w.heap.size+1+1+1,0,none⟩) 1 1 [⟨u.main,[]⟩] [0]:=by
  have b0:au W (w.heap.size+1+1+1) 3 #[(0:Int)]:=ba▸(au.gX _ _ _ (by simp)).alloc _;have hl:=b0.lt;refine⟨by rw[<-ba];exact au.gX _ _ _ (by simp),?_,?_,⟨[],⟨by simp,.inl ⟨rfl,rfl⟩⟩⟩,?_,ad,LK _,λb O=>?_,λb O=>(by cases O),λh=>h,λ_ h=>h.elim⟩
  .have ac:=Gr.lit (P:=λb=>b≠w.heap.size+1+1+1+1/\(Value.slice none 0 0).ownBlock≠some b/\¬False) (w:=(w.alloc (.cells #[.slice GA gn gc,.slice MA mn mc,.slice PA pn pc,.int .i64 u.main] 34)).alloc (.cells #[(),(),()] 38))
    (e:=111) (z:=2) (n:=1) (cs:=#[.int .i64 u.main,.slice none 0 0]) (l:=[fO ⟨u.main,[]⟩]) rfl rfl ad (D.bg.2 (kK.2 ⟨none,0,0,rfl,LK _,Sl.bS _⟩))
   simp only[World.size_alloc] at ac;rw[<-ba];exact ac.aj ((Mo.alloc _).alloc _)
  .intro x hx;simp only[Mi] at hx;subst hx;exact cU.o
  .exact Sl.ta b0 (D.bg.2 (by simp only[D.rep])) ⟨hl,ad,by simp[Value.ownBlock],by simp[Value.ownBlock],λh=>h⟩ rfl
  .simp only[Value.ownBlock,Mj] at O;refine⟨ad,by simp[Value.ownBlock],λh=>h⟩
 have dG:=bF aw bN aV N;clear ba aw bN aV N cU;go_loopw [5,6] (λsv cA wr=>∃(i st:Nat) (IA:Mt) (n ic:Nat) (S:Mt) (b2:Nat) (cM:Mt) (bI rc:Nat) (L:List h5) (b7:List Int),sv=.int .i64 st/\cA=.int .i64 i/\i<=256/\st<=8000/\n<=st+1/\bI<=st+1/\i<=n/\
  Ext w wr/\au wr w 34 #[.slice GA gn gc,.slice MA mn mc,.slice PA pn pc,.int .i64 u.main]/\au wr (w.heap.size+1) 38 #[(),(),()]/\hE u (w.heap.size+1+1+1+1) (w.heap.size+1+1) (λ_=>False) wr IA n ic S i b2 cM bI rc L b7) (λ_ cA _=>257 - (intOf cA).toNat)
 case atStart=>exact⟨0,0,_,_,_,_,_,_,_,_,_,_,rfl,rfl,ad,ad,ad,ad,ad,dG.1,dG.2.1,dG.2.2.1,dG.2.2.2⟩
 case round=>
  obtain⟨i,st,IA,n,ic,S,b2,cM,bI,rc,L,b7,rfl,rfl,aX,cz,hn,dL,a6,aw,bN,aV,N⟩:=hrel;clear dG;have bt:=bF aw bN aV N;obtain⟨a0,ai,af⟩:=bN.two;obtain⟨bq,am,aG⟩:=N.blk.two;by_cases an:i<n
  .have cS:(0:Int)<=(i:Int):=ad;have cQ:(i:Int)<(n:Int):=ad;have dO:Sl wr (aq wr) IA n (L.map fO):=N.ins.sl (λb h _=>h) (λb h _=>h);obtain⟨b,o,x,cX,cO,cY,dk,aB,hx,c0,c1,bv,ck⟩:=dO.wx an;obtain⟨p,h0,hp,aY⟩:=N.ok x (LN hx);obtain⟨eK,dt⟩:=x;simp only at h0 hp aY c0 ck;obtain⟨dz,rfl⟩:=LP h0;rw[Mc] at hp;have zq:dz<pn:=by have:=(List.getElem?_eq_some_iff.1 hp).1;omega
   have ej:(0:Int)<=(dz:Int):=ad;have b6:(dz:Int)<(pn:Int):=ad;obtain⟨pb,gU,d1,fd,cT,eG,rfl,cZ,cD,p0,a1,bJ,p3,p4,c8,dU⟩:=dI.proc zq;have p4:=(aw.qO.1 pb (gU+dz*5+4) cZ).trans p4;have cZ:pb<wr:=LL cZ aw.size;obtain rfl:d1=p:=by rw[hp] at cD;injection cD with cD;exact cD.symm
   subst dk;have fH:d1.code.length=cT:=by rw[<-dU.1,LO]
   have bh:cT<=201:=by
    obtain⟨s,hs,hl,_⟩:=(cB.procs d1 (LN hp)).code;have:d1.code.length<=201:=by rw[hs];simp;omega
    omega
   have ct:=az hp aY hx;have dJ:=ae dU;clear aw bN aV N dO hx hp aY cD ck dU p0 a1 bJ p3 bv c1;go_upto_region 6 with(fail);refine eJ (λ_=>False) [(0,3),(1,0),(2,3),(3,0),(4,3),(5,3),(6,3),(7,0),(8,3),(9,3),(10,0),(11,3)] ?_;refine pf ?_;refine ph ?_;refine pf ?_;refine ph ?_
   iterate 3 refine pf ?_
   refine ph ?_
   iterate 2 refine pf ?_
   refine ph ?_;refine pf ?_;refine aF ?_;have cd:hE u (w.heap.size+1+1+1+1) (w.heap.size+1+1) (λ_=>False) wr.drew (some ⟨b,o,none⟩) n ic S i b2 cM bI rc L b7:=bt.2.2.2.on Mo.drew;have ea:=bt.2.2.1.drew;have d9:=bt.2.1.drew;have aW:Ext w wr.drew:=bt.1.drew;replace bt:=bF aW d9 ea cd
   clear a0 ai af bq am aG c0 p4;clear aW d9 ea cd;have dr:b<wr.drew.heap.size:=aB;clear cZ aB;revert bt dr;generalize wr.drew=wd;intro bt dr;obtain⟨d0,aK,aM⟩:=bt.2.2.1.two;by_cases eZ:i<256
   case neg=>
    have q1:decide ((i:Int)>=256)=true:=by simp;omega
    exact Hs
   have q1:decide ((i:Int)>=256)=false:=by simp;omega
   by_cases eQ:st+cT<=8000
   case neg=>
    have cJ:decide ((st:Int)+cT > 8000)=true:=by simp;omega
    exact Hs
   have cJ:decide ((st:Int)+cT > 8000)=false:=by simp;omega
   have dE:=λW=>run_mk (P:=prog) cF .i64 .i64 cT ad ad W;clear d0 aK aM;go_wp2_with(fail);clear dE;generalize hV:World.alloc _ _=V;have bo:=aU hV;have be:=aI hV;have bM:(madeCells #[(0:Int)] cT).size=cT:=size_madeCells _ _;have dc:=dm bM (bt.1.trans bo) (bt.2.1.aj bo) (bt.2.2.1.aj bo) be (bt.2.2.2.apart bo (LK _) be.lt);clear hV bo be bM;generalize madeCells #[(0:Int)] cT=ff at dc;have dA:=ae (show w.heap.size<=wd.heap.size/\¬w=wd.heap.size/\¬w+1=wd.heap.size by
    have:=bt.2.2.1.lt;omega)
   clear bt;generalize wd.heap.size=di at *;have e8:=ag hn dL;go_loopw [9] (λeW dY=>∃(bg:Nat) (dn:Mt) (m dj:Nat) (bV:Mt) (bW bD:Nat) (bE:List h5) (dF:List Int) (cs:Array Value),eW=.int .i64 bg/\bg<=cT/\m<=st+bg+1/\bW<=st+bg+1/\i<m/\bE[i]?=some ⟨dz,dt⟩/\
    cs.size=cT/\Ext w dY/\au dY w 34 #[.slice GA gn gc,.slice MA mn mc,.slice (some ⟨pb,gU,none⟩) pn pc,.int .i64 u.main]/\au dY (w.heap.size+1) 38 #[(),(),()]/\
    au dY di 3 cs/\hE u (w.heap.size+1+1+1+1) (w.heap.size+1+1) (λb=>b=di) dY dn m dj S i b2 bV bW bD bE dF) (λeW _=>cT - (intOf eW).toNat)
   case atStart=>exact⟨0,_,_,_,_,_,_,_,_,_,rfl,ad,ad,ad,an,ct.2.2,dc.o⟩
   case round=>
    obtain⟨bg,dn,m,dj,bV,bW,bD,bE,dF,cs,rfl,dv,hm,cC,dR,ef,T,aw,bN,aV,be,N⟩:=hrel;clear dc;have bt:=cL aw bN aV be N;obtain⟨a0,ai,af⟩:=bN.two;obtain⟨bq,am,aG⟩:=N.blk.two;by_cases bi:bg<cT
    .have e6:(bg:Int)<(cT:Int):=ad;have e4:(i:Int)<(m:Int):=ad;have dO:Sl wr (aq wr) dn m (bE.map fO):=N.ins.sl (λb h _=>h) (λb h _=>h);obtain⟨dH,fm,a4,ex,eI,eH,eR,ey,a7,c0,c1,e7,dV⟩:=dO.wx dR;obtain rfl:a4=⟨dz,dt⟩:=by rw[ef] at a7;injection a7 with a7;exact a7.symm
     subst eR;simp only at c0 dV;obtain⟨du,d3⟩:=aJ dV ef;clear dV a7 dO aw bN aV be N ef;go_upto_region 14 with(fail);refine r0 (λ_=>False) [12] (.held 0 (.free 1 (.held 2 (.free 3 (.free 4 (.held 5 (.free 6 (.pick [7,11] (λi=>bif i == 7 then .free 8 (.free 9 (.free 10 (.pick [11] (λ_=>.pick [12] (λ_=>.free 13 (.stop)))))) else .pick [7] (λ_=>.free 8 (.free 9 (.free 10 (.pick [12] (λ_=>.free 13 (.stop))))))))))))))) ?_;refine th ?_;refine tf ?_;refine th ?_
     iterate 2 refine tf ?_
     refine th ?_;refine tf ?_;have fa:∀k,k<wr.heap.size->k<wr.drew.heap.size:=λ_ h=>h;refine g9 (P:=?oM) (ops:=?IH) (Q:=?FN) (R:=?IJ) (tails:=?IW) (rest:=.pick [12] (λ_=>.free 13 (.stop))) (aa:=?Ih)
      (C:=λ(aC:Nat) (ok:Bool) (Y:Value) cP=>Ext wr cP/\au cP aC 111 #[(0:Int),()]/\wr<=aC/\∃(y:h5) (c5:Mt) (dd de:Nat),Y=.agg #[.int .i64 y.proc,.slice c5 dd de]/\(ok=true->l5 u y)/\dd<=de/\Sl cP (λb=>wr.heap.size<=b/\b<cP.heap.size/\b≠aC) c5 dd (y.an.map .i)) (λkey=>?wI) ?wz
     case wI=>
      refine a2 ?_ ?_
      ·
       refine aE rfl (λK hK=>?_) rfl;go_simp;refine(pM u cB.o GA gn gc MA mn mc (some ⟨pb,gU,none⟩) pn pc ⟨dz,dt⟩ ex eI eH d1 ej ct.1 ct.2.1 bg ad wr.drew (dI.on bt.1.drew) (du.on (Fr.ext Mo.drew))).mono ?_;rintro e aS ⟨ok,y,c5,dd,de,rfl,ca,c9,c4,ar⟩;refine dq hK (ar) ?_;clear hK K
       iterate 3 refine tf ?_
       refine av ?_;refine eu ?_;generalize cG:World.alloc _ _=Z;have e2:=aU cG;have cq:wr<=aS.heap.size:=ar.size;have F:Ext wr Z/\au Z aS 111 #[(0:Int),()]/\wr<=aS.heap.size/\∃(er:h5) (dK:Mt) (dw dZ:Nat),(Value.agg #[.int .i64 y.proc,.slice c5 dd de])=.agg #[.int .i64 er.proc,.slice dK dw dZ]/\(ok=true->l5 u er)/\dw<=dZ/\Sl Z (λb=>wr.heap.size<=b/\b<Z.heap.size/\b≠aS.heap.size) dK dw (er.an.map .i):=
        ⟨(Fr.aG ar).trans e2,by rw[<-cG];exact Mp,cq,y,c5,dd,de,rfl,ca,c9,(c4.ai λb O=>e2.block b O.2 λh=>h).mono λb O=>⟨O.1,LL O.2 e2.size,by have:=O.2;omega⟩⟩
       clear cG e2 cq ar c4 ca c9;revert F;generalize aS.heap.size=aC;generalize (Value.agg #[.int .i64 y.proc,.slice c5 dd de])=Y;intro F;exact key aC ok Y _ F
      ·
       refine eu ?_;generalize hV:World.drew (World.alloc _ _)=fh;have e1:=gQ hV;have cK:=kE hV;have cq:=cK.lt;refine av ?_;refine aE rfl (λK hK=>?_) rfl;go_simp;refine(pM u cB.o GA gn gc MA mn mc (some ⟨pb,gU,none⟩) pn pc ⟨dz,dt⟩ ex eI eH d1 ej ct.1 ct.2.1 bg ad fh (dI.on (bt.1.trans e1)) (du.on (Fr.ext e1))).mono ?_;rintro e aS ⟨ok,y,c5,dd,de,rfl,ca,c9,c4,ar⟩;refine dq hK (ar) ?_;clear hK K
       iterate 3 refine tf ?_
       have F:Ext wr aS/\au aS wr 111 #[(0:Int),()]/\wr<=wr.heap.size/\∃(er:h5) (dK:Mt) (dw dZ:Nat),(Value.agg #[.int .i64 y.proc,.slice c5 dd de])=.agg #[.int .i64 er.proc,.slice dK dw dZ]/\(ok=true->l5 u er)/\dw<=dZ/\Sl aS (λb=>wr.heap.size<=b/\b<aS.heap.size/\b≠wr.heap.size) dK dw (er.an.map .i):=
        ⟨e1.trans ar,cK.aj ar,LK _,y,c5,dd,de,rfl,ca,c9,c4.mono λb O=>⟨by have:=O.1;omega,O.2,by have:=O.1;omega⟩⟩
       clear hV e1 cK cq ar c4 ca c9;revert F key;generalize (Value.agg #[.int .i64 y.proc,.slice c5 dd de])=Y;intro key F;exact key wr ok Y _ F
     case wz=>
      rintro aC ok Y cP ⟨bd,ao,gz,y,c5,dd,de,rfl,ca,c9,c4⟩;obtain⟨ci,bO,b5⟩:=ao.two;clear a0 ai af bq am aG c0 c1;exact fQ
    .obtain rfl:bg=cT:=ad;obtain⟨xs,eb⟩:=N.Iv;have bY:∀u∈(#[Value.slice (some ⟨di,0,none⟩) bg bg]:Array Value).toList,u.oneCell'=true:=λu hu=>by
      simp only[Mi] at hu;subst hu;rfl
     have bb:w+1+1<=wr.heap.size:=by have:=N.blk.lt;omega
     clear aw bN aV be N;go_wp2_with(at_builtin;refine cN _ Ip rfl (.tmp 103) (.tmp 105) rfl (w.heap.size+1+1) _ i xs _ rfl eb rfl rfl bY ad ad bb ?_;intro v1 aS aO bj ce;obtain⟨cr,cm,dy,e0,_⟩:=bT aO;subst dy;have bB:Fr (λb=>(Value.slice S i b2).ownBlock=some b) wr aS:=Mo.grown bj (λg aR=>.inl aR);have cK:=bt.2.2.2.2.blk.on bB (λO=>(bt.2.2.2.2.cg _ O).1 rfl);have bm:dB wr S i b2 cr (i+1) cm:=(λb O=>ce.elim (λh=>.inl (h▸O)) (λh=>.inr (by rw[h] at O;injection O with O;omega)));have bX:=az aO bB bm;clear bq am aG aO bj ce bB bm eb bY;obtain⟨bq,am,aG⟩:=cK.two;clear cK);generalize hw:World.setCell _ _ _=wf;have ah:=(bt.2.2.2.2.J3 bX.1 bX.2.1 bX.2.2).free;rw[hw] at ah;have bh:=bt.2.2.2.2.cl;have U:Fr (λb=>b=w.heap.size+1+1+1+1\/(Value.slice S i b2).ownBlock=some b) wr wf:=(bX.2.1.mono λ_ h=>.inr h).trans (by rw[<-hw];exact(Fr.refl (λb=>b=w.heap.size+1+1+1+1\/(Value.slice S i b2).ownBlock=some b) aS).setCell (.inl (.inl rfl)) _);have dT:¬(w.heap.size=w.heap.size+1+1+1+1\/(Value.slice S i b2).ownBlock=some w.heap.size):=by
      rintro(h|h)
      .omega
      .have:=(bh _ h).1;omega
     have dS:¬(w.heap.size+1=w.heap.size+1+1+1+1\/(Value.slice S i b2).ownBlock=some (w.heap.size+1)):=by
      rintro(h|h)
      .omega
      .have:=(bh _ h).1;omega
     have cg:Ext w wf:=bt.1.eZ (U.below bt.1.size (by
      rintro k aj (h|h)
      .omega
      .have:=(bh _ h).1;omega))
     have a3:=bF cg (bt.2.1.on U dT) (bt.2.2.1.on U dS) ah;clear hw ah bh U dT dS cg bt bX bq am aG;go_roundw
     case rel=>exact⟨i+1,st+bg,dn,m,dj,cr,cm,bV,bW,bD,bE,dF,by go_num,by go_num,ad,ad,ad,ad,ad,a3.o⟩
     case measure=>exact aH
  .obtain rfl:i=n:=ad;clear aw bN N;obtain⟨d0,aK,aM⟩:=aV.two;clear aV;go_wp2_with(fail);generalize co:World.setCell _ _ _=Y;obtain⟨bH,bG,bx⟩:=ei (M:=λ_=>False) [.slice IA i ic,.slice S i b2,.slice cM bI rc] (by rfl) bt.2.2.1 (w:=w) bt.1 ad co;obtain⟨bl,aD,aP⟩:=bH.two;refine Mn (v:=.tuple #[.agg #[.slice IA i ic,.slice S i b2,.slice cM bI rc],(0:Int)]) (by simp[results,Tryz.results13,go_sem,bl]) rfl ?_;exact⟨_,_,_,_,_,_,_,_,_,_,rfl,bG⟩
end Go.Proofs.YtpkfopfkdgkfkaaGreat

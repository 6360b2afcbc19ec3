/- Part 37 of the proof. No condition of its own. -/
import Derived.Test.YtglbpimocmhojaaGreatQ16
import Derived.Test.YtglbpimocmhojaaGreatQ36
namespace Go.Proofs.YtglbpimocmhojaaGreat
open Go.RowKit Go.Proofs.Tryz
set_option maxRecDepth 1000000
set_option maxHeartbeats 25600000
set_option linter.unusedVariables false
variable{p:Prop}{w:World}
theorem wM{P:Program}{ops:Array Oper}{Q:Exit->Act->World->Prop}{R:World->World->Prop}{tails:List Nat}{α β γ δ ε ζ η:Type}{rest:PT}{aa:α->β->γ->δ->ε->ζ->η->Act}{C:α->β->γ->δ->ε->ζ->η->World->Prop}{G:Prop}
  (h:(∀a b c d e f g V,C a b c d e f g V->cN P ops Q R tails rest (aa a b c d e f g) V)->G) (key:∀a b c d e f g V,C a b c d e f g V->cN P ops Q R tails rest (aa a b c d e f g) V):G:=h key
theorem pX{P:Nat->Prop}(l:List bG):D.aQ w P (l.map ey) (l.flatMap gy):=mN (λ_=>fb.2 rfl) l
theorem sO{A:Lp}{n:Nat}{l:List bG}(h:Sl w (av w) A n (l.map ey)):Src w 3 A n (l.flatMap gy):=Src.lv (Sl.om h) (DG _) (DV _) ad
theorem G9:ch prog 28 82 (.agg #[.string ⟨#[]⟩,.int .i64 0,.int .i64 0,.int .i64 0,.slice none 0 0]) 5 64:=ch.mk' Tryz.underlying28 (by kernel_rfl) rfl ad
def w5(w:World)(u:ay)(e:Ending)(ab:World):Prop:=∃(GA:Lp) (gn gc:Nat) (MA:Lp) (mn mc:Nat) (PA:Lp) (pn pc:Nat),
 e=.returned (.tuple #[.agg #[.slice GA gn gc,.slice MA mn mc,.slice PA pn pc,.int .i64 u.main],.int .i64 0,.int .i64 0,.int .i64 0])/\(tC u).rep ab (fresh w ab) [.slice GA gn gc,.slice MA mn mc,.slice PA pn pc,.int .i64 u.main]/\Ext w ab
def GP(w:World)(x:cH)(e:Ending)(ab:World):Prop:=∃(A:Lp) (n c:Nat) (bR:Lp) (bV bC:Nat),
 e=.returned (.tuple #[.agg #[.string x.name,.int .i64 x.ints,.int .i64 x.au,.int .i64 x.locals,.slice A n c],.slice bR bV bC,.int .i64 0,.int .i64 0])/\(gd x).rep ab (fresh w ab) [.string x.name,.int .i64 x.ints,.int .i64 x.au,.int .i64 x.locals,.slice A n c]/\Ext w ab
def HX(p:bK):Prop:=∀(f:aJ),f∈p.funcs->∀(GA:Lp) (gn gc:Nat) (MA:Lp) (mn mc:Nat) (FA:Lp) (fn fc:Nat) (S:Lp) (ln lc:Nat) (PA:Lp) (pn pc:Nat) (fu:Lp) (bn bc:Nat) (w:World),
  hk w (av w) p GA gn MA mn FA fn->Sl w (av w) S ln ((bo p).map bY)->Sl w (av w) PA pn (f.params.map ds)->Sl w (av w) fu bn (c4 f.body)->
  Calls prog 70 #[.agg #[.slice GA gn gc,.slice MA mn mc,.slice FA fn fc],.slice S ln lc,.agg #[.string f.name,.slice PA pn pc,.slice fu bn bc]] w (GP w (et p f))
namespace BO
theorem dB(h:p:=by
 clear a8 am aF;generalize hX:World.setCell _ _ _=dQ;have J:=cJ hX;obtain⟨bF,az,al,e1,aI⟩:=b4.o;have r1:Ext V dQ:=Fr.low (M:=λb=>V.heap.size<=b) (((cq.1.trans e1).mono λ_ h=>h.elim).trans ((az.mono λb O=>by have:=j b O;omega).trans (J.mono λb O=>ad))) λ_ h=>h;have dL:aq dQ u 30 #[.slice cC (k+1) c3,.slice A2 mn bO,.slice none 0 0,.int .i64 mi]:=hX▸aI.aM 0 _;have gS:=((cq.2.2.1.ai e1).dj az.size λb ak hp=>az.block b ak λhe=>by
  rcases hp with hp|hp
  .exact hp.elim
  .have:=j b he;have:=(cH.o b hp).2;omega).dj J.size λb ak hp=>J.block b ak λhe=>by
  rcases hp with hp|hp
  .exact hp.elim
  .exact(cH.o b hp).1 he
 have gP:Gr (λ_=>False) a2 3 1 dQ cC (k+1) c3 (((p.globals.take (k+1)).map (·.2)).map D.i):=by
  rw[aZ aQ.o,KK,KK];exact bF.dj J.size λb ak hp=>J.block b ak λhe=>by
   rcases hp with hp|hp
   .exact hp.elim
   .have:=(bF.lt hp).1;omega
 have gQ:a2<=dQ.heap.size:=by have ac:=e1.size;have au:=az.size;have aU:=J.size;omega
 have aW:=cK r1 dL gS gP gQ;clear r1 dL gS gP gQ bF az al e1 aI J hX;go_wp2;go_roundw
 case rel=>exact⟨k+1,cC,c3,ad,by go_num,aW.o⟩
 case measure=>exact aG
 ):p:=h
theorem eQ(h:p:=by
 refine b3 ?_;generalize hX:World.setCell _ _ _=X;obtain⟨ds,dt,bE,be⟩:=bB.o;obtain⟨cx,bp,b8⟩:=bA (w:=V) [.slice none 0 0,.slice A2 mn bO,.slice none 0 0,.int .i64 mi] (by rfl) bE ds ad hX;have cB:=dt.dj b8.size λb ak hp=>b8.block b ak λhe=>by
  subst he;rcases hp with hp|hp
  .exact hp.elim
  .exact be hp
 obtain⟨a2,bk⟩:∃N,N=X.heap.size:=⟨_,rfl⟩
 have a3:∀b,(Value.slice A2 mn bO).ownBlock=some b->b≠u/\b<a2:=λb O=>⟨λe=>be (by rw[<-e];exact O),by have:=(cB.lt O).2;omega⟩
 have cH:=ae a3;have ck:=ae (show Ext V X/\aq X u 30 #[.slice none 0 0,.slice A2 mn bO,.slice none 0 0,.int .i64 mi]/\Gr (λ_=>False) cZ 129 3 X A2 mn bO (p.af.map ey)/\Gr (λ_=>False) a2 3 1 X none 0 0 (((p.globals.take 0).map (·.2)).map D.i)/\a2<=X.heap.size from ⟨bp,cx,cB,Gr.nil _ _ _ _ _,ad⟩);have dZ:u<a2:=by have:=cx.lt;omega
 clear bB hX cx bp b8 cB ds dt bE be a3 a8 am aF;have bH:=T.ai ck.1;obtain⟨a0,ai,af⟩:=bH.two;clear bH;go_wp2;clear a0 ai af;go_loopw [11] (λcu wr=>∃(k:Nat) (A:Lp) (c:Nat),k<=gn/\cu=.int .i64 k/\Ext V wr/\aq wr u 30 #[.slice A k c,.slice A2 mn bO,.slice none 0 0,.int .i64 mi]/\Gr (λ_=>False) cZ 129 3 wr A2 mn bO (p.af.map ey)/\Gr (λ_=>False) a2 3 1 wr A k c (((p.globals.take k).map (·.2)).map D.i)/\a2<=wr.heap.size) (λcu _=>gn - (intOf cu).toNat)
 case atStart=>exact⟨0,none,0,ad,rfl,ck.o⟩
 case round=>
  obtain⟨k,A,c,ap,rfl,aw,hU,ab,r,bZ⟩:=hrel;clear ck;have cq:=cK aw hU ab r bZ;have ce:=T.ai aw;obtain⟨a0,ai,af⟩:=ce.two;obtain⟨a8,am,aF⟩:=hU.two;by_cases ak:k<gn
  .obtain⟨b,o,g,cs,rfl,O,hx,a5,bj,Z⟩:=(aj.o _ (cj.trans aw)).g.g0 oC ak;obtain rfl:=mu.1 a5;have cp:=Z 1 _ rfl;have aV:b<wr.heap.size:=O;have aQ:=ae hx;clear aw hU ab r ce a5 bj Z O hx;go_wp2;refine eK (λ_=>False) [(0,3),(1,0),(2,3),(3,0),(4,3),(5,3),(6,3),(7,0),(8,1),(9,2),(10,3),(11,2)] ?_;refine pf ?_;refine ph ?_;refine pf ?_;refine ph ?_
   iterate 3 refine pf ?_
   refine ph ?_;refine qV ?_;generalize hV:World.drew (World.alloc _ _)=dm;have e1:=gG hV;have cA:aq dm wr.heap.size 3 #[.int .i64 g.2]:=hV▸(Lm).drew;clear hV;refine ax rfl (λK hK=>?_);rw[if_pos (by rfl)];refine e5 de (.tmp 69) (.tmp 76) (by rfl) (cq.2.2.2.1.ai e1) cA (show (D.i g.2).rep dm _ _ from by simp only[D.rep]) (by rfl) (by rfl) (by rfl) ad ad (aC e1.size) ?_;intro cC c3 cL bF az al ci;have j:∀b,(Value.slice A k c).ownBlock=some b->a2<=b:=λb O=>(cq.2.2.2.1.lt O).1;have aI:=(cq.2.1.ai e1).on az λO=>by have:=j _ O;omega
   have b4:=cK bF az al e1 aI;clear bF az al e1 cA a0 ai af a8 am aF cp aV;obtain⟨a8,am,aF⟩:=aI.two;clear aI;exact sq
  .obtain rfl:gn=k:=ad;rw[KL (by rw[b9.1];exact KD _)] at r;obtain⟨U,cD⟩:∃N,N=wr.heap.size:=⟨_,rfl⟩
   have dG:=hU.lt;have dW:u<U:=ad;have db:∀b,(Value.slice A gn c).ownBlock=some b->b≠u/\b<U:=λb O=>⟨by have:=(r.lt O).1;omega,by have:=(r.lt O).2;omega⟩
   have cQ:=ae db;have dT:a2<=U:=ad;have c9:=ae (show Ext V wr/\aq wr u 30 #[.slice A gn c,.slice A2 mn bO,.slice none 0 0,.int .i64 mi]/\Gr (λ_=>False) cZ 129 3 wr A2 mn bO (p.af.map ey)/\Gr (λ_=>False) a2 3 1 wr A gn c ((p.globals.map (·.2)).map D.i)/\Gr (λb=>U<=b) U 82 5 wr none 0 0 (((p.funcs.take 0).map (et p)).map gd)/\U<=wr.heap.size from ⟨aw,hU,ab,r,Gr.nil _ _ _ _ _,ad⟩);clear cq aw hU ab r ce db dG a8 am aF ap ak;generalize A=bU at *;generalize c=c1 at *;go_wp2;clear a0 ai af;go_loopw [12] (λcu wr=>∃(k:Nat) (A:Lp) (c:Nat),k<=fn/\cu=.int .i64 k/\Ext V wr/\aq wr u 30 #[.slice bU gn c1,.slice A2 mn bO,.slice A k c,.int .i64 mi]/\Gr (λ_=>False) cZ 129 3 wr A2 mn bO (p.af.map ey)/\Gr (λ_=>False) a2 3 1 wr bU gn c1 ((p.globals.map (·.2)).map D.i)/\Gr (λb=>U<=b) U 82 5 wr A k c (((p.funcs.take k).map (et p)).map gd)/\U<=wr.heap.size) (λcu _=>fn - (intOf cu).toNat)
   case atStart=>exact⟨0,none,0,ad,rfl,c9.o⟩
   case round=>
    obtain⟨k,A,c,ap,rfl,aw,hU,ab,r,bb,bZ⟩:=hrel;clear c9;have cq:=cS aw hU ab r bb bZ;have ce:=T.ai aw;obtain⟨a0,ai,af⟩:=ce.two;by_cases ak:k<fn
    .obtain⟨b,o,f,cs,m,O,hx,a5,bj,Z⟩:=(aj.o _ (cj.trans aw)).f.g0 nc ak;injection m with m;injection m with hFA1 hFA2;subst hFA1 hFA2;obtain⟨QA,cg,qc,H,bg,I,rfl,gr,dU,bS,b2⟩:=kR.1 a5;have c0:=Z 0 _ rfl;have cp:=Z 1 _ rfl;have f0:=Z 2 _ rfl;simp only[KN] at c0;have aV:ch<wr.heap.size:=O;have aQ:=aD hx bS b2;have dF:=aj.o _ (cj.trans aw);have dD:=dk.on (Fr.ext aw);have s:=ah dF dD;clear aw hU ab r bb ce a5 bj Z O hx bS b2 dF dD;go_upto_region 17 with(fail);refine qY (λ_=>False) [7,14] (.held 0 (.free 1 (.free 2 (.held 3 (.free 4 (.free 5 (.held 6 (.pick [7,13] (λi=>bif i == 7 then .free 8 (.free 9 (.free 10 (.free 11 (.free 12 (.pick [13] (λ_=>.pick [14] (λ_=>.free 15 (.free 16 (.free 17 (.stop)))))))))) else .pick [7] (λ_=>.free 8 (.free 9 (.free 10 (.free 11 (.free 12 (.pick [14] (λ_=>.free 15 (.free 16 (.free 17 (.stop))))))))))))))))))) ?_;refine th ?_
     iterate 2 refine tf ?_
     refine th ?_
     iterate 2 refine tf ?_
     refine th ?_;clear a0 ai af c0 cp f0;refine wM (P:=?JA) (ops:=?JJ) (Q:=?JK) (R:=?JL) (tails:=?JM) (rest:=.pick [14] (λ_=>.free 15 (.free 16 (.free 17 (.stop))))) (aa:=?JB)
      (C:=λ(c6:Nat) (cc:Lp) (bD rc:Nat) (bR:Lp) (bV bC:Nat) eN=>Ext wr eN/\aq eN c6 82 #[.string ⟨#[]⟩,.int .i64 0,.int .i64 0,.int .i64 0,.slice none 0 0]/\wr.heap.size<=c6/\(gd (et p f)).rep eN (λb=>wr.heap.size<=b/\b<eN.heap.size/\b≠c6) [.string (et p f).name,.int .i64 (et p f).ints,.int .i64 (et p f).au,.int .i64 (et p f).locals,.slice cc bD rc]) (λkey=>?Ip) ?Ij
     case Ip=>
      refine aY ?_ ?_
      ·
       refine bM rfl (λK hK=>?_) rfl;go_simp;refine(c4.o f (KG aQ.1) GA gn gc MA mn mc (some ⟨ch,c5,none⟩) fn fc S (bo p).length lc QA cg qc H bg I wr.drew ⟨s.1.g.on (Fr.ext Ll.drew),s.1.m.on (Fr.ext Ll.drew),s.1.f.on (Fr.ext Ll.drew)⟩ (s.2.on (Fr.ext Ll.drew)) (aQ.2.1.on (Fr.ext Ll.drew)) (aQ.2.2.on (Fr.ext Ll.drew))).mono ?_;rintro e aS ⟨cc,bD,rc,bR,bV,bC,rfl,b5,ar⟩;refine dO hK ?_;clear hK K
       iterate 5 refine tf ?_
       refine ao ?_;refine dP ?_;have F:Ext wr (aS.alloc (.cells #[.string ⟨#[]⟩,.int .i64 0,.int .i64 0,.int .i64 0,.slice none 0 0] 82))/\aq (aS.alloc (.cells #[.string ⟨#[]⟩,.int .i64 0,.int .i64 0,.int .i64 0,.slice none 0 0] 82)) aS.heap.size 82 #[.string ⟨#[]⟩,.int .i64 0,.int .i64 0,.int .i64 0,.slice none 0 0]/\wr.heap.size<=aS.heap.size/\(gd (et p f)).rep (aS.alloc (.cells #[.string ⟨#[]⟩,.int .i64 0,.int .i64 0,.int .i64 0,.slice none 0 0] 82)) (λb=>wr.heap.size<=b/\b<(aS.alloc (.cells #[.string ⟨#[]⟩,.int .i64 0,.int .i64 0,.int .i64 0,.slice none 0 0] 82)).heap.size/\b≠aS.heap.size) [.string (et p f).name,.int .i64 (et p f).ints,.int .i64 (et p f).au,.int .i64 (et p f).locals,.slice cc bD rc]:=
        ⟨(Fr.aF ar).alloc _,Lm,(Fr.aF ar).size,D.aL (λb O=>⟨O.1,by have:=O.2;simp;omega,by have:=O.2;omega⟩) _ _ (D.aS (λb O=>Below.heap_alloc aS _ b O.2) _ _ b5)⟩
       clear b5 ar;revert F;generalize aS.heap.size=c6;intro F;exact key c6 cc bD rc bR bV bC _ F
      ·
       refine dP ?_;generalize hV:World.alloc _ _=bG;have ct:=aX hV;have ce:=aK hV;clear hV;refine ao ?_;refine bM rfl (λK hK=>?_) rfl;go_simp;refine(c4.o f (KG aQ.1) GA gn gc MA mn mc (some ⟨ch,c5,none⟩) fn fc S (bo p).length lc QA cg qc H bg I bG.drew ⟨s.1.g.on (Fr.ext ct.drew),s.1.m.on (Fr.ext ct.drew),s.1.f.on (Fr.ext ct.drew)⟩ (s.2.on (Fr.ext ct.drew)) (aQ.2.1.on (Fr.ext ct.drew)) (aQ.2.2.on (Fr.ext ct.drew))).mono ?_;rintro e aS ⟨cc,bD,rc,bR,bV,bC,rfl,b5,ar⟩;refine dO hK ?_;clear hK K
       iterate 5 refine tf ?_
       have cF:=ce.lt;have F:Ext wr aS/\aq aS wr.heap.size 82 #[.string ⟨#[]⟩,.int .i64 0,.int .i64 0,.int .i64 0,.slice none 0 0]/\wr.heap.size<=wr.heap.size/\(gd (et p f)).rep aS (λb=>wr.heap.size<=b/\b<aS.heap.size/\b≠wr.heap.size) [.string (et p f).name,.int .i64 (et p f).ints,.int .i64 (et p f).au,.int .i64 (et p f).locals,.slice cc bD rc]:=
        ⟨ct.trans (Fr.aF ar),ce.ai (Fr.aF ar),KD _,D.aL (λb O=>⟨by have ac:bG.heap.size<=b:=O.1;omega,O.2,by have ac:bG.heap.size<=b:=O.1;omega⟩) _ _ b5⟩
       clear b5 ar ct ce cF;exact key wr.heap.size cc bD rc bR bV bC _ F
     case Ij=>
      rintro c6 cc bD rc bR bV bC eN ⟨dq,ay,dn,b5⟩;obtain⟨d0,aL,aM⟩:=ay.two;have ag:=aD dq ay b5;clear dq ay b5;refine ao ?_;refine bM rfl (λK hK=>?_) rfl;go_simp;refine dO hK ?_;clear hK K
      iterate 3 refine tf ?_
      refine b3 ?_;generalize hX:World.setCell _ _ _=g8;obtain⟨dq,ay,b5⟩:=ag.o;obtain⟨ce,b0,aJ⟩:=bA (w:=wr) [.string (et p f).name,.int .i64 (et p f).ints,.int .i64 (et p f).au,.int .i64 (et p f).locals,.slice cc bD rc] (by rfl) ay dq dn hX;have b7:=cq.2.1.ai b0;have bJ:=cq.2.2.2.2.1.ai b0;have cr:∀b,(Value.slice A k c).ownBlock=some b->b<wr.heap.size:=λb O=>(cq.2.2.2.2.1.lt O).2;have dX:=aJ.size;have d4:=b0.size;have hd:(gd (et p f)).rep g8 (lu (λb=>U<=b) g8 (.slice A k c)) [.string (et p f).name,.int .i64 (et p f).ints,.int .i64 (et p f).au,.int .i64 (et p f).locals,.slice cc bD rc]:=
       D.aL (λb O=>⟨by have:=O.1;omega,by have:=O.2.1;omega,λhc=>by have:=cr b hc;have:=O.1;omega⟩) _ _ (D.aS (λb O=>aJ.block b O.2.1 O.2.2) _ _ b5)
      have z:=aD b0 bJ hd;clear hX dq ay b5 aJ bJ hd d0 aL aM ag cr b0;obtain⟨d0,aL,aM⟩:=ce.two;obtain⟨a8,am,aF⟩:=b7.two;have dR:=ae b7;clear ce b7;go_wp2_with((at_builtin;refine bP G9 rfl (.tmp 106) (.tmp 108) rfl z.2.1 z.2.2 rfl rfl rfl ad ad ad ?_;intro cC c3 cU bF az al ci;have cm:=dR.on az (λO=>by have:=(z.2.1.lt O).1;omega);clear a8 am aF d0 aL aM;obtain⟨a8,am,aF⟩:=cm.two;have dS:=ae cm;clear cm));generalize hX:World.setCell _ _ _=dE;have cW:=cJ hX;have b0:=z.1;have j:∀b,(Value.slice A k c).ownBlock=some b->U<=b:=λb O=>(z.2.1.lt O).1;have dM:(((p.funcs.take (k+1)).map (et p)).map gd)=((p.funcs.take k).map (et p)).map gd++[gd (et p f)]:=by rw[aZ aQ.1,KK,KK];rfl
      have q1:Ext V dE:=Fr.low (M:=λb=>V.heap.size<=b) (((cq.1.trans b0).mono λ_ h=>h.elim).trans ((az.mono λb O=>by have:=j b O;omega).trans (cW.mono λb O=>ad))) λ_ h=>h;have cI:aq dE u 30 #[.slice bU gn c1,.slice A2 mn bO,.slice cC (k+1) c3,.int .i64 mi]:=hX▸dS.aM 2 _;have dd:=((cq.2.2.1.ai b0).dj az.size λb ak hp=>az.block b ak λhe=>by
       rcases hp with hp|hp
       .exact hp.elim
       .have:=j b he;have:=(cH.o b hp).2;omega).dj cW.size λb ak hp=>cW.block b ak λhe=>by
       rcases hp with hp|hp
       .exact hp.elim
       .exact(cH.o b hp).1 he
      have df:=((cq.2.2.2.1.ai b0).dj az.size λb ak hp=>az.block b ak λhe=>by
       rcases hp with hp|hp
       .exact hp.elim
       .have:=j b he;have:=(cQ.o b hp).2;omega).dj cW.size λb ak hp=>cW.block b ak λhe=>by
       rcases hp with hp|hp
       .exact hp.elim
       .exact(cQ.o b hp).1 he
      have q5:Gr (λb=>U<=b) U 82 5 dE cC (k+1) c3 (((p.funcs.take (k+1)).map (et p)).map gd):=by
       rw[dM];exact bF.dj cW.size λb ak hp=>cW.block b ak λhe=>by
        rcases hp with hp|hp
        .omega
        .have:=(bF.lt hp).1;omega
      have di:U<=dE.heap.size:=by have ac:=b0.size;have au:=az.size;have aU:=cW.size;omega
      have aW:=cS q1 cI dd df q5 di;clear q1 cI dd df q5 di bF az al b0 cW hX j dM a8 am aF;go_wp2;go_roundw
      case rel=>exact⟨k+1,cC,c3,ad,by go_num,aW.o⟩
      case measure=>exact aG
    .obtain rfl:fn=k:=ad;rw[KL (by rw[b9.2.2];exact KD _)] at bb;have bh:=bv.ai aw;have d2:w.heap.size+1<V.heap.size:=bv.lt;have cz:=ae hU;obtain⟨a8,am,aF⟩:=hU.two;obtain⟨d0,aL,aM⟩:=bh.two;obtain⟨c2,c8⟩:=aH bh bb;clear aw hU ab r bb ce bh;go_wp2;generalize hX:World.setCell _ _ _=gM;obtain⟨gq,cN,bW⟩:=bA (w:=w) [.slice bU gn c1,.slice A2 mn bO,.slice A fn c,.int .i64 mi] (by rfl) c2.o (cj.trans cq.1) (Nat.le_succ _) hX;obtain⟨bl,aA,aO⟩:=gq.two;clear a8 am aF d0 aL aM a0 ai af;refine Lk (v:=.tuple #[.agg #[.slice bU gn c1,.slice A2 mn bO,.slice A fn c,.int .i64 mi],.int .i64 0,.int .i64 0,.int .i64 0]) (by simp[results,Tryz.results22,go_sem,bl]) rfl ?_;have bd:(gj p).main=(mi:Int):=by
      show jh (bo p) iF=_
      unfold jh;rw[show iF=⟨#[109,97,105,110]⟩ from rfl,dl.o]
     have eD:=cj.size;have d5:=bW.size;have bt:∀b,V.heap.size<=b->b<wr.heap.size->gM.heap[b]?=wr.heap[b]?:=λb ac au=>bW.block b au ad;have da:=cq.2.2.1.dj bW.size λb ak hp=>by
      rcases hp with hp|hp
      .exact hp.elim
      .exact bt b (by have:=(cq.2.2.1.lt hp).1;omega) ak
     have bi:=cq.2.2.2.1.dj bW.size λb ak hp=>by
      rcases hp with hp|hp
      .exact hp.elim
      .exact bt b (by have:=(cq.2.2.2.1.lt hp).1;omega) ak
     have cM:=c8.dj bW.size λb ak hp=>by
      rcases hp with hp|hp
      .exact bt b ad ak
      .exact bt b (by have:=(c8.lt hp).1;omega) ak
     refine⟨bU,gn,c1,A2,mn,bO,A,fn,c,by rw[bd],?_,cN⟩;unfold tC;rw[bd,bI];exact aN.2 ⟨bU,gn,c1,_,rfl,bi.cap.1,bi.sl (λb _ h=>h.elim) (λb ac au=>⟨ad,ac⟩),aN.2 ⟨A2,mn,bO,_,rfl,da.cap.1,da.sl (λb _ h=>h.elim) (λb ac au=>⟨ad,ac⟩),
      aN.2 ⟨A,fn,c,_,rfl,cM.cap.1,cM.sl (λb ac au=>⟨ad,ac⟩) (λb ac au=>⟨ad,ac⟩),bm.2 ⟨_,rfl,aP.2 rfl⟩⟩⟩⟩
 ):p:=h
theorem so(h:p:=by
 have cy:(bo p).length<=100:=by rw[kP];omega
 obtain⟨mi,bz,an,dH,a1⟩:=hp.main;have cX:dA (bo p) ⟨#[109,97,105,110]⟩=some ⟨⟨#[109,97,105,110]⟩,3,(mi:Int)⟩:=by
  have:=kY (nL hp) (KG (xq an));rw[dH] at this;exact this
 have bx:mi<fn:=by have:=(List.getElem?_eq_some_iff.1 an).1;omega
 obtain⟨dh,cn,c4,dl⟩:=iS h hp dC cX;have dp:=ah an a1;have b9:=aD dv lm lf;have d3:=ae cy;clear h hp dC cX an dH a1 dv lm lf cy;go_enter func22,ntmps22;go_upto_region 1 with(fail);generalize ba:World.alloc _ _=W;have aw:=iN ba;have aR:=gC ba;have dx:=ga ba;obtain⟨bq,b1,du⟩:=eh aw aR dx;obtain⟨a0,ai,af⟩:=aR.two;have dN:∀(aS:World),Ext w aS->hk aS (av aS) p GA gn MA mn FA fn:=λ_ he=>⟨dh.g.on (Fr.ext he),dh.m.on (Fr.ext he),dh.f.on (Fr.ext he)⟩
 have aj:=ae dN;clear ba aw aR dx dN;go_wp2_with(fail);refine(FH p cn.o GA gn gc MA mn mc FA fn fc W (aj.o _ bq.o)).mono ?_;rintro e aS ⟨rfl,ar⟩;have bu:=ae (bq.trans ar);have cE:=b1.ai ar;have G:=ae cE;have cR:=ae (du.ai ar);clear a0 ai af ar;obtain⟨a0,ai,af⟩:=cE.two;clear cE;go_wp2_with(fail);refine(sC p cn.o GA gn gc MA mn mc FA fn fc aS (aj.o _ bu.o)).mono ?_;rintro e aT ⟨S,lc,rfl,y,bw⟩;have a4:=ae (bu.trans bw);have bs:=G.ai bw;have br:=ae bs;have cT:=ae (cR.ai bw);have bQ:Sl aT (av aT) S (bo p).length ((bo p).map bY):=y.mono λb O=>O.2;have cf:=ae bQ;clear a0 ai af bw y bQ;obtain⟨a0,ai,af⟩:=bs.two;clear bs;go_wp2_with(fail);refine(dV S (bo p).length lc (bo p) ⟨#[109,97,105,110]⟩ aT cf.o (aC d3.o)).mono ?_;rintro e bX ⟨rfl,bT⟩;rw[dl.o];simp only[iU,qT];have a9:=ae (a4.trans bT);have a7:=ae (br.ai bT);have cV:=ae (cT.ai bT);have dg:=ae (cf.on (Fr.ext bT));clear a0 ai af bT;go_upto_region 7 with(fail);generalize hV:World.alloc _ _=V;have L:=aX hV;have dr:=aK hV;have cj:=ae (a9.trans L);have b6:=a7.ai L;have T:=ae b6;have bv:=ae (cV.ai L);have dk:=ae (dg.on (Fr.ext L));have dY:=ae dr;obtain⟨ch,c5,a6,cs,rfl,cw,bN,cb,cO,co⟩:=(aj.o _ cj.o).f.g0 nc bx;rw[dp.1] at bN;injection bN with bN;subst bN;obtain⟨PA,pn,pc,fu,bn,bc,rfl,dc,cv,cl,_⟩:=kR.1 cb;have f4:=co 1 _ rfl;have bf:ch<V.heap.size:=cw;obtain rfl:0=pn:=by have:=cl.1;rw[dp.2] at this;exact this
 clear hV L cb cO co cl cw;obtain⟨a0,ai,af⟩:=b6.two;obtain⟨a8,am,aF⟩:=dr.two;clear b6 dr;go_upto_region 9 with(fail);have c7:=ae (aj.o _ cj.o).m;obtain⟨cZ,dy⟩:∃N,N=V.heap.size:=⟨_,rfl⟩
 have gD:¬cZ<=w.heap.size:=ad;have gE:¬cZ<=bX.heap.size:=ad;clear f4 bf;refine qY (λb=>cZ<=b) [8] (.free 0 (.held 1 (.free 3 (.held 4 (.pick [2,7] (λi=>bif i == 2 then .pick [5,7] (λi=>bif i == 5 then .free 6 (.pick [7] (λ_=>.pick [8] (λ_=>.stop))) else .pick [5] (λ_=>.free 6 (.pick [8] (λ_=>.stop)))) else .pick [2] (λ_=>.pick [5] (λ_=>.free 6 (.pick [8] (λ_=>.stop)))))))))) ?_;refine tf ?_;refine mU ?_;refine tf ?_;refine mU ?_;clear a0 ai af a8 am aF;refine iL (P:=?ow) (ops:=?Hq) (Q:=?Hs) (R:=?Hu) (tails:=?HE) (rest:=.pick [8] (λ_=>.stop)) (aa:=?G3)
  (C:=λ(_:Nat) u A2 bO eN=>Ext V eN/\Gr (λ_=>False) cZ 129 3 eN A2 mn bO (p.af.map ey)/\aq eN u 30 #[.slice none 0 0,.slice none 0 0,.slice none 0 0,.int .i64 0]/\(Value.slice A2 mn bO).ownBlock≠some u/\cZ<=u) (λkey=>?vY) ?vR
 case vY=>
  refine aY ?_ ?_
  ·
   refine dP ?_;generalize hV:World.drew (World.alloc _ _)=bG;have e1:=gG hV;have cP:Gr (λ_=>False) cZ 129 3 bG (some ⟨V.heap.size,0,none⟩) 0 0 []:=by rw[<-hV,dy];exact(Gr.lit (w:=V) (n:=0) (l:=[]) rfl (by rfl) ad (by simp only[D.aQ])).ai Ll.drew
   clear hV;refine aY ?_ ?_
   ·
    refine aB rfl (λK hK=>?_) rfl;rw[if_pos (by rfl)];refine jl lM (.tmp 56) (.tmp 58) (by rfl) cP (pX p.af) c7.1 (sO (c7.on (Fr.ext e1))) (λh=>by subst h;exact Sl.none_ c7.o) (by rfl) (by rfl) ad ad (by rw[dy];exact e1.size) ?_;intro A2 bO cU ca f1 o1 c1;refine dz hK (f1.mono λb O=>ad) ?_;clear hK K;refine tf ?_;refine ao ?_;refine dP ?_;have e2:Ext V cU:=Fr.low (M:=λb=>V.heap.size<=b) ((e1.mono λ_ h=>h.elim).trans (f1.mono λb O=>ad)) λ_ h=>h;have F:Ext V (cU.alloc (.cells #[.slice none 0 0,.slice none 0 0,.slice none 0 0,.int .i64 0] 30))/\Gr (λ_=>False) cZ 129 3 (cU.alloc (.cells #[.slice none 0 0,.slice none 0 0,.slice none 0 0,.int .i64 0] 30)) A2 mn bO (p.af.map ey)/\aq (cU.alloc (.cells #[.slice none 0 0,.slice none 0 0,.slice none 0 0,.int .i64 0] 30)) cU.heap.size 30 #[.slice none 0 0,.slice none 0 0,.slice none 0 0,.int .i64 0]/\(Value.slice A2 mn bO).ownBlock≠some cU.heap.size/\cZ<=cU.heap.size:=
     ⟨e2.alloc _,ca.ai (Ll.alloc _),Lm,λO=>by have:=(ca.lt O).2;omega,by have:=e2.size;omega⟩
    clear ca cP f1 o1 e1 e2;revert F;generalize cU.heap.size=u;generalize V.heap.size=eX;intro F;exact key eX u A2 bO _ F
   ·
    refine dP ?_;generalize hV:World.alloc _ _=eR;have e2:=aX hV;have cd:aq eR bG.heap.size 30 #[.slice none 0 0,.slice none 0 0,.slice none 0 0,.int .i64 0]:=hV▸Lm;have dJ:V.heap.size<bG.heap.size:=(cP.lt (g:=V.heap.size) rfl).2;clear hV;refine ao ?_;refine aB rfl (λK hK=>?_) rfl;rw[if_pos (by rfl)];refine jl lM (.tmp 56) (.tmp 58) (by rfl) (cP.ai e2) (pX p.af) c7.1 (sO (c7.on (Fr.ext (e1.trans e2)))) (λh=>by subst h;exact Sl.none_ c7.o) (by rfl) (by rfl) ad ad (by rw[dy];exact(e1.trans e2).size) ?_;intro A2 bO cU ca f1 o1 c1;refine dz hK (f1.mono λb O=>ad) ?_;clear hK K;refine tf ?_;have e3:Ext V cU:=Fr.low (M:=λb=>V.heap.size<=b) (((e1.trans e2).mono λ_ h=>h.elim).trans (f1.mono λb O=>ad)) λ_ h=>h;have dI:=cd.lt;have F:Ext V cU/\Gr (λ_=>False) cZ 129 3 cU A2 mn bO (p.af.map ey)/\aq cU bG.heap.size 30 #[.slice none 0 0,.slice none 0 0,.slice none 0 0,.int .i64 0]/\(Value.slice A2 mn bO).ownBlock≠some bG.heap.size/\cZ<=bG.heap.size:=⟨e3,ca,cd.on f1 ad,λO=>by
     rcases o1 _ O with h|h
     .omega
     .omega,ad⟩
    clear ca cP f1 o1 e1 e2 e3 cd dJ dI;revert F;generalize bG.heap.size=u;generalize V.heap.size=eX;intro F;exact key eX u A2 bO _ F
  ·
   refine dP ?_;generalize hV:World.drew (World.alloc _ _)=bG;have e1:=gG hV;have cd:aq bG V.heap.size 30 #[.slice none 0 0,.slice none 0 0,.slice none 0 0,.int .i64 0]:=hV▸(Lm).drew;clear hV;refine ao ?_;refine dP ?_;generalize hV:World.alloc _ _=eR;have e2:=aX hV;have cP:Gr (λ_=>False) bG.heap.size 129 3 eR (some ⟨bG.heap.size,0,none⟩) 0 0 []:=hV▸Gr.lit (w:=bG) (n:=0) (l:=[]) rfl (by rfl) ad (by simp only[D.aQ]);have dj:=cd.ai e2;have dJ:V.heap.size<bG.heap.size:=cd.lt;have dw:bG.heap.size<=eR.heap.size:=e2.size;clear hV cd;refine ao ?_;refine aB rfl (λK hK=>?_) rfl;rw[if_pos (by rfl)];refine jl lM (.tmp 56) (.tmp 58) (by rfl) cP (pX p.af) c7.1 (sO (c7.on (Fr.ext (e1.trans e2)))) (λh=>by subst h;exact Sl.none_ c7.o) (by rfl) (by rfl) ad ad dw ?_;intro A2 bO cU ca f1 o1 c1;refine dz hK (f1.mono λb O=>ad) ?_;clear hK K;refine tf ?_;have e3:Ext V cU:=Fr.low (M:=λb=>V.heap.size<=b) (((e1.trans e2).mono λ_ h=>h.elim).trans (f1.mono λb O=>ad)) λ_ h=>h;have F:Ext V cU/\Gr (λ_=>False) cZ 129 3 cU A2 mn bO (p.af.map ey)/\aq cU V.heap.size 30 #[.slice none 0 0,.slice none 0 0,.slice none 0 0,.int .i64 0]/\(Value.slice A2 mn bO).ownBlock≠some V.heap.size/\cZ<=V.heap.size:=⟨e3,ca.base ad,dj.on f1 ad,λO=>by have:=(ca.lt O).1;omega,ad⟩
   clear ca cP f1 o1 e1 e2 e3 dj dJ dw;revert F;generalize bG.heap.size=eX;generalize V.heap.size=u;intro F;exact key eX u A2 bO _ F
 case vR=>
  rintro eX u A2 bO Y ⟨ds,dt,bE,be,d1⟩;obtain⟨a8,am,aF⟩:=bE.two;have bB:=bL ds dt bE be;clear ds dt bE be;exact fj
 ):p:=h
end BO
open BO in
theorem yn(p:bK)(hp:ot p)(dC:HX p)(GA:Lp)(gn gc:Nat)(MA:Lp)(mn mc:Nat)(FA:Lp)(fn fc:Nat)(w:World)(h:hk w (av w) p GA gn MA mn FA fn) :
  Calls prog 22 #[.agg #[.slice GA gn gc,.slice MA mn mc,.slice FA fn fc]] w (w5 w (gj p)):=by
 have dv:p.globals.length=gn:=by rw[<-h.g.1,KH]
 have lm:p.af.length=mn:=by rw[<-h.m.1,KH]
 have lf:p.funcs.length=fn:=by rw[<-h.f.1,KH]
 exact sn
theorem I9(p:bK)(hp:ot p):HX p:=λf J GA gn gc MA mn mc FA fn fc S ln lc PA pn pc fu bn bc w h hl cl bl=>
 (sH (λU nk F b=>x3 Fs U nk F b) p hp f J GA gn gc MA mn mc FA fn fc S ln lc PA pn pc fu bn bc w h hl cl bl).mono λ_ _ h=>h
theorem DM(p:bK)(hp:ot p)(GA:Lp)(gn gc:Nat)(MA:Lp)(mn mc:Nat)(FA:Lp)(fn fc:Nat)(w:World)(h:hk w (av w) p GA gn MA mn FA fn) :
  Calls prog 22 #[.agg #[.slice GA gn gc,.slice MA mn mc,.slice FA fn fc]] w (w5 w (gj p)):=yn p hp (I9 p hp) GA gn gc MA mn mc FA fn fc w h
end Go.Proofs.YtglbpimocmhojaaGreat

/- Part 30 of the proof. No condition of its own. -/
import Derived.Test.YtflecliffjbleaaGreatQ28
import Derived.Test.YtflecliffjbleaaGreatQ29
namespace Go.Proofs.YtflecliffjbleaaGreat
open Go.RowKit Go.Proofs.Tryz
set_option maxRecDepth 1000000
set_option maxHeartbeats 25600000
set_option linter.unusedVariables false
variable{p:Prop}{w:World}
theorem xd{P:Program}{ops:Array Oper}{Q:Exit->Act->World->Prop}{R:World->World->Prop}{tails:List Nat}{α β γ δ ε ζ η:Type}{rest:PT}{aa:α->β->γ->δ->ε->ζ->η->Act}{C:α->β->γ->δ->ε->ζ->η->World->Prop}{G:Prop}
  (h:(∀a b c d e f g V,C a b c d e f g V->cQ P ops Q R tails rest (aa a b c d e f g) V)->G) (key:∀a b c d e f g V,C a b c d e f g V->cQ P ops Q R tails rest (aa a b c d e f g) V):G:=h key
theorem qs{P:Nat->Prop}(l:List bF):D.aJ w P (l.map ek) (l.flatMap hy):=m7 (λ_=>e4.2 rfl) l
theorem s7{A:LP}{n:Nat}{l:List bF}(h:Sl w (au w) A n (l.map ek)):Src w 3 A n (l.flatMap hy):=Src.ov (Sl.rr h) (DD _) (DQ _) ab
theorem Hk:ca prog 24 114 (.agg #[.string ⟨#[]⟩,.int .i64 0,.int .i64 0,.int .i64 0,.slice none 0 0]) 5 64:=ca.mk' Tryz.underlying24 (by kernel_rfl) rfl ab
def xt(w:World)(u:av)(e:Ending)(ac:World):Prop:=∃(GA:LP) (gn gc:Nat) (MA:LP) (mn mc:Nat) (PA:LP) (pn pc:Nat),
 e=.returned (.tuple #[.agg #[.slice GA gn gc,.slice MA mn mc,.slice PA pn pc,.int .i64 u.main],.int .i64 0,.int .i64 0,.int .i64 0])/\(ua u).rep ac (fresh w ac) [.slice GA gn gc,.slice MA mn mc,.slice PA pn pc,.int .i64 u.main]/\Ext w ac
def G4(w:World)(x:di)(e:Ending)(ac:World):Prop:=∃(A:LP) (n c:Nat) (bM:LP) (b2 bo:Nat),
 e=.returned (.tuple #[.agg #[.string x.name,.int .i64 x.ints,.int .i64 x.aw,.int .i64 x.locals,.slice A n c],.slice bM b2 bo,.int .i64 0,.int .i64 0])/\(fX x).rep ac (fresh w ac) [.string x.name,.int .i64 x.ints,.int .i64 x.aw,.int .i64 x.locals,.slice A n c]/\Ext w ac
def Ii(p:bD):Prop:=∀(f:aA),f∈p.funcs->∀(GA:LP) (gn gc:Nat) (MA:LP) (mn mc:Nat) (FA:LP) (fn fc:Nat) (S:LP) (ln lc:Nat) (PA:LP) (pn pc:Nat) (bT:LP) (bn fk:Nat) (w:World),
  hh w (au w) p GA gn MA mn FA fn->Sl w (au w) S ln ((bc p).map bS)->Sl w (au w) PA pn (f.params.map ct)->Sl w (au w) bT bn (cY f.body)->
  Calls prog 71 #[.agg #[.slice GA gn gc,.slice MA mn mc,.slice FA fn fc],.slice S ln lc,.agg #[.string f.name,.slice PA pn pc,.slice bT bn fk]] w (G4 w (eg p f))
namespace Cq
theorem jU(h:p:=by
 clear a3 am aJ;generalize hX:World.setCell _ _ _=dK;have I:=dj hX;obtain⟨al,ay,cf,e1,aO⟩:=bY.o;have r1:Ext V dK:=Fr.low (M:=λb=>V.heap.size<=b) (((ct.1.trans e1).mono λ_ h=>h.elim).trans ((ay.mono λb O=>by have:=j b O;omega).trans (I.mono λb O=>ab))) λ_ h=>h;have gG:an dK u 26 #[.slice ck (k+1) c3,.slice A2 mn bJ,.slice none 0 0,.int .i64 mi]:=hX▸aO.aD 0 _;have gP:=((ct.2.2.1.aj e1).c7 ay.size λb aw hp=>ay.block b aw λhe=>by
  rcases hp with hp|hp
  .exact hp.elim
  .have:=j b he;have:=(bA.o b hp).2;omega).c7 I.size λb aw hp=>I.block b aw λhe=>by
  rcases hp with hp|hp
  .exact hp.elim
  .exact(bA.o b hp).1 he
 have f0:Gr (λ_=>False) ax 3 1 dK ck (k+1) c3 (((p.globals.take (k+1)).map (·.2)).map D.i):=by
  rw[a1 aR.o,Li,Li];exact al.c7 I.size λb aw hp=>I.block b aw λhe=>by
   rcases hp with hp|hp
   .exact hp.elim
   .have:=(al.lt hp).1;omega
 have gL:ax<=dK.heap.size:=by have ae:=e1.size;have aD:=ay.size;have aU:=I.size;omega
 have aZ:=dq r1 gG gP f0 gL;clear r1 gG gP f0 gL al ay cf e1 aO I hX;go_wp2;go_roundw
 case rel=>exact⟨k+1,ck,c3,ab,by go_num,aZ.o⟩
 case measure=>exact az
 ):p:=h
theorem gA(h:p:=by
 refine cB ?_;generalize hX:World.setCell _ _ _=X;obtain⟨dp,ds,bz,a6⟩:=bP.o;obtain⟨cT,bq,b1⟩:=cm (w:=V) [.slice none 0 0,.slice A2 mn bJ,.slice none 0 0,.int .i64 mi] (by rfl) bz dp ab hX;have cH:=ds.c7 b1.size λb aw hp=>b1.block b aw λhe=>by
  subst he;rcases hp with hp|hp
  .exact hp.elim
  .exact a6 hp
 obtain⟨ax,bf⟩:∃N,N=X.heap.size:=⟨_,rfl⟩
 have bu:∀b,(Value.slice A2 mn bJ).ownBlock=some b->b≠u/\b<ax:=λb O=>⟨λe=>a6 (by rw[<-e];exact O),by have:=(cH.lt O).2;omega⟩
 have bA:=ad bu;have dL:=ad (show Ext V X/\an X u 26 #[.slice none 0 0,.slice A2 mn bJ,.slice none 0 0,.int .i64 mi]/\Gr (λ_=>False) cR 131 3 X A2 mn bJ (p.ae.map ek)/\Gr (λ_=>False) ax 3 1 X none 0 0 (((p.globals.take 0).map (·.2)).map D.i)/\ax<=X.heap.size from ⟨bq,cT,cH,Gr.nil _ _ _ _ _,ab⟩);have dT:u<ax:=by have:=cT.lt;omega
 clear bP hX cT bq b1 cH dp ds bz a6 bu a3 am aJ;have bv:=T.aj dL.1;obtain⟨a0,ap,aj⟩:=bv.two;clear bv;go_wp2;clear a0 ap aj;go_loopw [11] (λce wr=>∃(k:Nat) (A:LP) (c:Nat),k<=gn/\ce=.int .i64 k/\Ext V wr/\an wr u 26 #[.slice A k c,.slice A2 mn bJ,.slice none 0 0,.int .i64 mi]/\Gr (λ_=>False) cR 131 3 wr A2 mn bJ (p.ae.map ek)/\Gr (λ_=>False) ax 3 1 wr A k c (((p.globals.take k).map (·.2)).map D.i)/\ax<=wr.heap.size) (λce _=>gn - (intOf ce).toNat)
 case atStart=>exact⟨0,none,0,ab,rfl,dL.o⟩
 case round=>
  obtain⟨k,A,c,ai,rfl,aE,hU,z,r,cc⟩:=hrel;clear dL;have ct:=dq aE hU z r cc;have aY:=T.aj aE;obtain⟨a0,ap,aj⟩:=aY.two;obtain⟨a3,am,aJ⟩:=hU.two;by_cases aw:k<gn
  .obtain⟨b,o,g,cs,rfl,O,hx,aQ,bi,Z⟩:=(J.o _ (bw.trans aE)).g.gZ oU aw;obtain rfl:=mP.1 aQ;have cS:=Z 1 _ rfl;have aX:b<wr.heap.size:=O;have aR:=ad hx;clear aE hU z r aY aQ bi Z O hx;go_wp2;refine eU (λ_=>False) [(0,3),(1,0),(2,3),(3,0),(4,3),(5,3),(6,3),(7,0),(8,1),(9,2),(10,3),(11,2)] ?_;refine pf ?_;refine ph ?_;refine pf ?_;refine ph ?_
   iterate 3 refine pf ?_
   refine ph ?_;refine r9 ?_;generalize hV:World.drew (World.alloc _ _)=db;have e1:=gX hV;have cL:an db wr.heap.size 3 #[.int .i64 g.2]:=hV▸(LM).drew;clear hV;refine aq rfl (λK hK=>?_);rw[if_pos (by rfl)];refine eX de (.tmp 69) (.tmp 76) (by rfl) (ct.2.2.2.1.aj e1) cL (show (D.i g.2).rep db _ _ from by simp only[D.rep]) (by rfl) (by rfl) (by rfl) ab ab (aC e1.size) ?_;intro ck c3 cz al ay cf bR;have j:∀b,(Value.slice A k c).ownBlock=some b->ax<=b:=λb O=>(ct.2.2.2.1.lt O).1;have aO:=(ct.2.1.aj e1).on ay λO=>by have:=j _ O;omega
   have bY:=dq al ay cf e1 aO;clear al ay cf e1 cL a0 ap aj a3 am aJ cS aX;obtain⟨a3,am,aJ⟩:=aO.two;clear aO;exact l2
  .obtain rfl:gn=k:=ab;rw[Lj (by rw[bN.1];exact Lb _)] at r;obtain⟨av,cD⟩:∃N,N=wr.heap.size:=⟨_,rfl⟩
   have dE:=hU.lt;have dP:u<av:=ab;have c5:∀b,(Value.slice A gn c).ownBlock=some b->b≠u/\b<av:=λb O=>⟨by have:=(r.lt O).1;omega,by have:=(r.lt O).2;omega⟩
   have cU:=ad c5;have dO:ax<=av:=ab;have dh:=ad (show Ext V wr/\an wr u 26 #[.slice A gn c,.slice A2 mn bJ,.slice none 0 0,.int .i64 mi]/\Gr (λ_=>False) cR 131 3 wr A2 mn bJ (p.ae.map ek)/\Gr (λ_=>False) ax 3 1 wr A gn c ((p.globals.map (·.2)).map D.i)/\Gr (λb=>av<=b) av 114 5 wr none 0 0 (((p.funcs.take 0).map (eg p)).map fX)/\av<=wr.heap.size from ⟨aE,hU,z,r,Gr.nil _ _ _ _ _,ab⟩);clear ct aE hU z r aY c5 dE a3 am aJ ai aw;generalize A=cy at *;generalize c=c1 at *;go_wp2;clear a0 ap aj;go_loopw [12] (λce wr=>∃(k:Nat) (A:LP) (c:Nat),k<=fn/\ce=.int .i64 k/\Ext V wr/\an wr u 26 #[.slice cy gn c1,.slice A2 mn bJ,.slice A k c,.int .i64 mi]/\Gr (λ_=>False) cR 131 3 wr A2 mn bJ (p.ae.map ek)/\Gr (λ_=>False) ax 3 1 wr cy gn c1 ((p.globals.map (·.2)).map D.i)/\Gr (λb=>av<=b) av 114 5 wr A k c (((p.funcs.take k).map (eg p)).map fX)/\av<=wr.heap.size) (λce _=>fn - (intOf ce).toNat)
   case atStart=>exact⟨0,none,0,ab,rfl,dh.o⟩
   case round=>
    obtain⟨k,A,c,ai,rfl,aE,hU,z,r,aI,cc⟩:=hrel;clear dh;have ct:=ej aE hU z r aI cc;have aY:=T.aj aE;obtain⟨a0,ap,aj⟩:=aY.two;by_cases aw:k<fn
    .obtain⟨b,o,f,cs,U,O,hx,aQ,bi,Z⟩:=(J.o _ (bw.trans aE)).f.gZ nA aw;injection U with U;injection U with hFA1 hFA2;subst hFA1 hFA2;obtain⟨QA,cg,qc,m,aW,ac,rfl,gK,dF,eJ,b4⟩:=la.1 aQ;have c0:=Z 0 _ rfl;have cS:=Z 1 _ rfl;have dD:=Z 2 _ rfl;simp only[Ll] at c0;have aX:b5<wr.heap.size:=O;have aR:=aL hx eJ b4;have dC:=J.o _ (bw.trans aE);have dz:=dk.on (Fr.ext aE);have s:=ah dC dz;clear aE hU z r aI aY aQ bi Z O hx eJ b4 dC dz;go_upto_region 17 with(fail);refine uP (λ_=>False) [7,14] (.held 0 (.free 1 (.free 2 (.held 3 (.free 4 (.free 5 (.held 6 (.pick [7,13] (λi=>bif i == 7 then .free 8 (.free 9 (.free 10 (.free 11 (.free 12 (.pick [13] (λ_=>.pick [14] (λ_=>.free 15 (.free 16 (.free 17 (.stop)))))))))) else .pick [7] (λ_=>.free 8 (.free 9 (.free 10 (.free 11 (.free 12 (.pick [14] (λ_=>.free 15 (.free 16 (.free 17 (.stop))))))))))))))))))) ?_;refine th ?_
     iterate 2 refine tf ?_
     refine th ?_
     iterate 2 refine tf ?_
     refine th ?_;clear a0 ap aj c0 cS dD;refine xd (P:=?JV) (ops:=?J4) (Q:=?J5) (R:=?J6) (tails:=?J7) (rest:=.pick [14] (λ_=>.free 15 (.free 16 (.free 17 (.stop))))) (aa:=?JW)
      (C:=λ(df:Nat) (cn:LP) (bW rc:Nat) (bM:LP) (b2 bo:Nat) dG=>Ext wr dG/\an dG df 114 #[.string ⟨#[]⟩,.int .i64 0,.int .i64 0,.int .i64 0,.slice none 0 0]/\wr.heap.size<=df/\(fX (eg p f)).rep dG (λb=>wr.heap.size<=b/\b<dG.heap.size/\b≠df) [.string (eg p f).name,.int .i64 (eg p f).ints,.int .i64 (eg p f).aw,.int .i64 (eg p f).locals,.slice cn bW rc]) (λkey=>?IT) ?IQ
     case IT=>
      refine bt ?_ ?_
      ·
       refine cj rfl (λK hK=>?_) rfl;go_simp;refine(dc.o f (Le aR.1) GA gn gc MA mn mc (some ⟨b5,cG,none⟩) fn fc S (bc p).length lc QA cg qc m aW ac wr.drew ⟨s.1.g.on (Fr.ext LL.drew),s.1.m.on (Fr.ext LL.drew),s.1.f.on (Fr.ext LL.drew)⟩ (s.2.on (Fr.ext LL.drew)) (aR.2.1.on (Fr.ext LL.drew)) (aR.2.2.on (Fr.ext LL.drew))).mono ?_;rintro e aP ⟨cn,bW,rc,bM,b2,bo,rfl,bO,ar⟩;refine eL hK ?_;clear hK K
       iterate 5 refine tf ?_
       refine ao ?_;refine fj ?_;have F:Ext wr (aP.alloc (.cells #[.string ⟨#[]⟩,.int .i64 0,.int .i64 0,.int .i64 0,.slice none 0 0] 114))/\an (aP.alloc (.cells #[.string ⟨#[]⟩,.int .i64 0,.int .i64 0,.int .i64 0,.slice none 0 0] 114)) aP.heap.size 114 #[.string ⟨#[]⟩,.int .i64 0,.int .i64 0,.int .i64 0,.slice none 0 0]/\wr.heap.size<=aP.heap.size/\(fX (eg p f)).rep (aP.alloc (.cells #[.string ⟨#[]⟩,.int .i64 0,.int .i64 0,.int .i64 0,.slice none 0 0] 114)) (λb=>wr.heap.size<=b/\b<(aP.alloc (.cells #[.string ⟨#[]⟩,.int .i64 0,.int .i64 0,.int .i64 0,.slice none 0 0] 114)).heap.size/\b≠aP.heap.size) [.string (eg p f).name,.int .i64 (eg p f).ints,.int .i64 (eg p f).aw,.int .i64 (eg p f).locals,.slice cn bW rc]:=
        ⟨(Fr.aQ ar).alloc _,LM,(Fr.aQ ar).size,D.aE (λb O=>⟨O.1,by have:=O.2;simp;omega,by have:=O.2;omega⟩) _ _ (D.aP (λb O=>Below.heap_alloc aP _ b O.2) _ _ bO)⟩
       clear bO ar;revert F;generalize aP.heap.size=df;intro F;exact key df cn bW rc bM b2 bo _ F
      ·
       refine fj ?_;generalize hV:World.alloc _ _=br;have cN:=bb hV;have aY:=aT hV;clear hV;refine ao ?_;refine cj rfl (λK hK=>?_) rfl;go_simp;refine(dc.o f (Le aR.1) GA gn gc MA mn mc (some ⟨b5,cG,none⟩) fn fc S (bc p).length lc QA cg qc m aW ac br.drew ⟨s.1.g.on (Fr.ext cN.drew),s.1.m.on (Fr.ext cN.drew),s.1.f.on (Fr.ext cN.drew)⟩ (s.2.on (Fr.ext cN.drew)) (aR.2.1.on (Fr.ext cN.drew)) (aR.2.2.on (Fr.ext cN.drew))).mono ?_;rintro e aP ⟨cn,bW,rc,bM,b2,bo,rfl,bO,ar⟩;refine eL hK ?_;clear hK K
       iterate 5 refine tf ?_
       have cd:=aY.lt;have F:Ext wr aP/\an aP wr.heap.size 114 #[.string ⟨#[]⟩,.int .i64 0,.int .i64 0,.int .i64 0,.slice none 0 0]/\wr.heap.size<=wr.heap.size/\(fX (eg p f)).rep aP (λb=>wr.heap.size<=b/\b<aP.heap.size/\b≠wr.heap.size) [.string (eg p f).name,.int .i64 (eg p f).ints,.int .i64 (eg p f).aw,.int .i64 (eg p f).locals,.slice cn bW rc]:=
        ⟨cN.trans (Fr.aQ ar),aY.aj (Fr.aQ ar),Lb _,D.aE (λb O=>⟨by have ae:br.heap.size<=b:=O.1;omega,O.2,by have ae:br.heap.size<=b:=O.1;omega⟩) _ _ bO⟩
       clear bO ar cN aY cd;exact key wr.heap.size cn bW rc bM b2 bo _ F
     case IQ=>
      rintro df cn bW rc bM b2 bo dG ⟨dn,ag,bl,bO⟩;obtain⟨d0,af,aS⟩:=ag.two;have aH:=aL dn ag bO;clear dn ag bO;refine ao ?_;refine cj rfl (λK hK=>?_) rfl;go_simp;refine eL hK ?_;clear hK K
      iterate 3 refine tf ?_
      refine cB ?_;generalize hX:World.setCell _ _ _=g8;obtain⟨dn,ag,bO⟩:=aH.o;obtain⟨aY,a4,aA⟩:=cm (w:=wr) [.string (eg p f).name,.int .i64 (eg p f).ints,.int .i64 (eg p f).aw,.int .i64 (eg p f).locals,.slice cn bW rc] (by rfl) ag dn bl hX;have cE:=ct.2.1.aj a4;have bC:=ct.2.2.2.2.1.aj a4;have co:∀b,(Value.slice A k c).ownBlock=some b->b<wr.heap.size:=λb O=>(ct.2.2.2.2.1.lt O).2;have dQ:=aA.size;have dX:=a4.size;have hd:(fX (eg p f)).rep g8 (lu (λb=>av<=b) g8 (.slice A k c)) [.string (eg p f).name,.int .i64 (eg p f).ints,.int .i64 (eg p f).aw,.int .i64 (eg p f).locals,.slice cn bW rc]:=
       D.aE (λb O=>⟨by have:=O.1;omega,by have:=O.2.1;omega,λhc=>by have:=co b hc;have:=O.1;omega⟩) _ _ (D.aP (λb O=>aA.block b O.2.1 O.2.2) _ _ bO)
      have bV:=aL a4 bC hd;clear hX dn ag bO aA bC hd d0 af aS aH co a4;obtain⟨d0,af,aS⟩:=aY.two;obtain⟨a3,am,aJ⟩:=cE.two;have dM:=ad cE;clear aY cE;go_wp2_with((at_builtin;refine bI Hk rfl (.tmp 106) (.tmp 108) rfl bV.2.1 bV.2.2 rfl rfl rfl ab ab ab ?_;intro ck c3 cx al ay cf bR;have cK:=dM.on ay (λO=>by have:=(bV.2.1.lt O).1;omega);clear a3 am aJ d0 af aS;obtain⟨a3,am,aJ⟩:=cK.two;have dN:=ad cK;clear cK));generalize hX:World.setCell _ _ _=dl;have cA:=dj hX;have a4:=bV.1;have j:∀b,(Value.slice A k c).ownBlock=some b->av<=b:=λb O=>(bV.2.1.lt O).1;have dI:(((p.funcs.take (k+1)).map (eg p)).map fX)=((p.funcs.take k).map (eg p)).map fX++[fX (eg p f)]:=by rw[a1 aR.1,Li,Li];rfl
      have q1:Ext V dl:=Fr.low (M:=λb=>V.heap.size<=b) (((ct.1.trans a4).mono λ_ h=>h.elim).trans ((ay.mono λb O=>by have:=j b O;omega).trans (cA.mono λb O=>ab))) λ_ h=>h;have cp:an dl u 26 #[.slice cy gn c1,.slice A2 mn bJ,.slice ck (k+1) c3,.int .i64 mi]:=hX▸dN.aD 2 _;have cw:=((ct.2.2.1.aj a4).c7 ay.size λb aw hp=>ay.block b aw λhe=>by
       rcases hp with hp|hp
       .exact hp.elim
       .have:=j b he;have:=(bA.o b hp).2;omega).c7 cA.size λb aw hp=>cA.block b aw λhe=>by
       rcases hp with hp|hp
       .exact hp.elim
       .exact(bA.o b hp).1 he
      have cO:=((ct.2.2.2.1.aj a4).c7 ay.size λb aw hp=>ay.block b aw λhe=>by
       rcases hp with hp|hp
       .exact hp.elim
       .have:=j b he;have:=(cU.o b hp).2;omega).c7 cA.size λb aw hp=>cA.block b aw λhe=>by
       rcases hp with hp|hp
       .exact hp.elim
       .exact(cU.o b hp).1 he
      have q5:Gr (λb=>av<=b) av 114 5 dl ck (k+1) c3 (((p.funcs.take (k+1)).map (eg p)).map fX):=by
       rw[dI];exact al.c7 cA.size λb aw hp=>cA.block b aw λhe=>by
        rcases hp with hp|hp
        .omega
        .have:=(al.lt hp).1;omega
      have c7:av<=dl.heap.size:=by have ae:=a4.size;have aD:=ay.size;have aU:=cA.size;omega
      have aZ:=ej q1 cp cw cO q5 c7;clear q1 cp cw cO q5 c7 al ay cf a4 cA hX j dI a3 am aJ;go_wp2;go_roundw
      case rel=>exact⟨k+1,ck,c3,ab,by go_num,aZ.o⟩
      case measure=>exact az
    .obtain rfl:fn=k:=ab;rw[Lj (by rw[bN.2.2];exact Lb _)] at aI;have bH:=bm.aj aE;have dV:w.heap.size+1<V.heap.size:=bm.lt;have cv:=ad hU;obtain⟨a3,am,aJ⟩:=hU.two;obtain⟨d0,af,aS⟩:=bH.two;obtain⟨da,dd⟩:=aM bH aI;clear aE hU z r aI aY bH;go_wp2;generalize hX:World.setCell _ _ _=gM;obtain⟨gm,cY,c2⟩:=cm (w:=w) [.slice cy gn c1,.slice A2 mn bJ,.slice A fn c,.int .i64 mi] (by rfl) da.o (bw.trans ct.1) (Nat.le_succ _) hX;obtain⟨bE,bg,bh⟩:=gm.two;clear a3 am aJ d0 af aS a0 ap aj;refine LK (v:=.tuple #[.agg #[.slice cy gn c1,.slice A2 mn bJ,.slice A fn c,.int .i64 mi],.int .i64 0,.int .i64 0,.int .i64 0]) (by simp[results,Tryz.results32,go_sem,bE]) rfl ?_;have a2:(gE p).main=(mi:Int):=by
      show jl (bc p) iD=_
      unfold jl;rw[show iD=⟨#[109,97,105,110]⟩ from rfl,bL.o]
     have fd:=bw.size;have dY:=c2.size;have ba:∀b,V.heap.size<=b->b<wr.heap.size->gM.heap[b]?=wr.heap[b]?:=λb ae aD=>c2.block b aD ab;have c4:=ct.2.2.1.c7 c2.size λb aw hp=>by
      rcases hp with hp|hp
      .exact hp.elim
      .exact ba b (by have:=(ct.2.2.1.lt hp).1;omega) aw
     have c6:=ct.2.2.2.1.c7 c2.size λb aw hp=>by
      rcases hp with hp|hp
      .exact hp.elim
      .exact ba b (by have:=(ct.2.2.2.1.lt hp).1;omega) aw
     have cQ:=dd.c7 c2.size λb aw hp=>by
      rcases hp with hp|hp
      .exact ba b ab aw
      .exact ba b (by have:=(dd.lt hp).1;omega) aw
     refine⟨cy,gn,c1,A2,mn,bJ,A,fn,c,by rw[a2],?_,cY⟩;unfold ua;rw[a2,bB];exact aF.2 ⟨cy,gn,c1,_,rfl,c6.cap.1,c6.sl (λb _ h=>h.elim) (λb ae aD=>⟨ab,ae⟩),aF.2 ⟨A2,mn,bJ,_,rfl,c4.cap.1,c4.sl (λb _ h=>h.elim) (λb ae aD=>⟨ab,ae⟩),
      aF.2 ⟨A,fn,c,_,rfl,cQ.cap.1,cQ.sl (λb ae aD=>⟨ab,ae⟩) (λb ae aD=>⟨ab,ae⟩),a5.2 ⟨_,rfl,aK.2 rfl⟩⟩⟩⟩
 ):p:=h
theorem sI(h:p:=by
 have cu:(bc p).length<=100:=by rw[k8];omega
 obtain⟨mi,bd,ak,eM,cI⟩:=hp.main;have bj:dv (bc p) ⟨#[109,97,105,110]⟩=some ⟨⟨#[109,97,105,110]⟩,3,(mi:Int)⟩:=by
  have:=lq (n9 hp) (Le (xR ak));rw[eM] at this;exact this
 have cF:mi<fn:=by have:=(List.getElem?_eq_some_iff.1 ak).1;omega
 obtain⟨cr,cb,dc,bL⟩:=iR h hp dy bj;have dm:=ah ak cI;have bN:=aL dr lm lf;have dW:=ad cu;clear h hp dy bj ak eM cI dr lm lf cu;go_enter func32,ntmps32;go_upto_region 1 with(fail);generalize be:World.alloc _ _=W;have aE:=im be;have aN:=fU be;have dx:=fL be;obtain⟨a8,bx,dt⟩:=eG aE aN dx;obtain⟨a0,ap,aj⟩:=aN.two;have dJ:∀(aP:World),Ext w aP->hh aP (au aP) p GA gn MA mn FA fn:=λ_ he=>⟨cr.g.on (Fr.ext he),cr.m.on (Fr.ext he),cr.f.on (Fr.ext he)⟩
 have J:=ad dJ;clear be aE aN dx dJ;go_wp2_with(fail);refine(FY p cb.o GA gn gc MA mn mc FA fn fc W (J.o _ a8.o)).mono ?_;rintro e aP ⟨rfl,ar⟩;have bs:=ad (a8.trans ar);have ca:=bx.aj ar;have G:=ad ca;have cZ:=ad (dt.aj ar);clear a0 ap aj ar;obtain⟨a0,ap,aj⟩:=ca.two;clear ca;go_wp2_with(fail);refine(sQ p cb.o GA gn gc MA mn mc FA fn fc aP (J.o _ bs.o)).mono ?_;rintro e aV ⟨S,lc,rfl,y,bU⟩;have a7:=ad (bs.trans bU);have bF:=G.aj bU;have b8:=ad bF;have c8:=ad (cZ.aj bU);have bQ:Sl aV (au aV) S (bc p).length ((bc p).map bS):=y.mono λb O=>O.2;have bZ:=ad bQ;clear a0 ap aj bU y bQ;obtain⟨a0,ap,aj⟩:=bF.two;clear bF;go_wp2_with(fail);refine(dS S (bc p).length lc (bc p) ⟨#[109,97,105,110]⟩ aV bZ.o (aC dW.o)).mono ?_;rintro e b3 ⟨rfl,b0⟩;rw[bL.o];simp only[iU,rp];have bX:=ad (a7.trans b0);have b6:=ad (b8.aj b0);have c9:=ad (c8.aj b0);have di:=ad (bZ.on (Fr.ext b0));clear a0 ap aj b0;go_upto_region 7 with(fail);generalize hV:World.alloc _ _=V;have L:=bb hV;have cJ:=aT hV;have bw:=ad (bX.trans L);have bK:=b6.aj L;have T:=ad bK;have bm:=ad (c9.aj L);have dk:=ad (di.on (Fr.ext L));have dR:=ad cJ;obtain⟨b5,cG,a9,cs,rfl,bk,bp,H,cV,ci⟩:=(J.o _ bw.o).f.gZ nA cF;rw[dm.1] at bp;injection bp with bp;subst bp;obtain⟨PA,pn,pc,bT,bn,fk,rfl,cX,cC,cq,_⟩:=la.1 H;have f4:=ci 1 _ rfl;have cM:b5<V.heap.size:=bk;obtain rfl:0=pn:=by have:=cq.1;rw[dm.2] at this;exact this
 clear hV L H cV ci cq bk;obtain⟨a0,ap,aj⟩:=bK.two;obtain⟨a3,am,aJ⟩:=cJ.two;clear bK cJ;go_upto_region 9 with(fail);have cW:=ad (J.o _ bw.o).m;obtain⟨cR,du⟩:∃N,N=V.heap.size:=⟨_,rfl⟩
 have gB:¬cR<=w.heap.size:=ab;have gC:¬cR<=b3.heap.size:=ab;clear f4 cM;refine uP (λb=>cR<=b) [8] (.free 0 (.held 1 (.free 3 (.held 4 (.pick [2,7] (λi=>bif i == 2 then .pick [5,7] (λi=>bif i == 5 then .free 6 (.pick [7] (λ_=>.pick [8] (λ_=>.stop))) else .pick [5] (λ_=>.free 6 (.pick [8] (λ_=>.stop)))) else .pick [2] (λ_=>.pick [5] (λ_=>.free 6 (.pick [8] (λ_=>.stop)))))))))) ?_;refine tf ?_;refine oJ ?_;refine tf ?_;refine oJ ?_;clear a0 ap aj a3 am aJ;refine iL (P:=?pw) (ops:=?H2) (Q:=?H4) (R:=?H6) (tails:=?H9) (rest:=.pick [8] (λ_=>.stop)) (aa:=?H0)
  (C:=λ(_:Nat) u A2 bJ dG=>Ext V dG/\Gr (λ_=>False) cR 131 3 dG A2 mn bJ (p.ae.map ek)/\an dG u 26 #[.slice none 0 0,.slice none 0 0,.slice none 0 0,.int .i64 0]/\(Value.slice A2 mn bJ).ownBlock≠some u/\cR<=u) (λkey=>?yV) ?yO
 case yV=>
  refine bt ?_ ?_
  ·
   refine fj ?_;generalize hV:World.drew (World.alloc _ _)=br;have e1:=gX hV;have ch:Gr (λ_=>False) cR 131 3 br (some ⟨V.heap.size,0,none⟩) 0 0 []:=by rw[<-hV,du];exact(Gr.lit (w:=V) (n:=0) (l:=[]) rfl (by rfl) ab (by simp only[D.aJ])).aj LL.drew
   clear hV;refine bt ?_ ?_
   ·
    refine aG rfl (λK hK=>?_) rfl;rw[if_pos (by rfl)];refine jr l5 (.tmp 56) (.tmp 58) (by rfl) ch (qs p.ae) cW.1 (s7 (cW.on (Fr.ext e1))) (λh=>by subst h;exact Sl.none_ cW.o) (by rfl) (by rfl) ab ab (by rw[du];exact e1.size) ?_;intro A2 bJ cx b9 f1 o1 c1;refine ei hK (f1.mono λb O=>ab) ?_;clear hK K;refine tf ?_;refine ao ?_;refine fj ?_;have e2:Ext V cx:=Fr.low (M:=λb=>V.heap.size<=b) ((e1.mono λ_ h=>h.elim).trans (f1.mono λb O=>ab)) λ_ h=>h;have F:Ext V (cx.alloc (.cells #[.slice none 0 0,.slice none 0 0,.slice none 0 0,.int .i64 0] 26))/\Gr (λ_=>False) cR 131 3 (cx.alloc (.cells #[.slice none 0 0,.slice none 0 0,.slice none 0 0,.int .i64 0] 26)) A2 mn bJ (p.ae.map ek)/\an (cx.alloc (.cells #[.slice none 0 0,.slice none 0 0,.slice none 0 0,.int .i64 0] 26)) cx.heap.size 26 #[.slice none 0 0,.slice none 0 0,.slice none 0 0,.int .i64 0]/\(Value.slice A2 mn bJ).ownBlock≠some cx.heap.size/\cR<=cx.heap.size:=
     ⟨e2.alloc _,b9.aj (LL.alloc _),LM,λO=>by have:=(b9.lt O).2;omega,by have:=e2.size;omega⟩
    clear b9 ch f1 o1 e1 e2;revert F;generalize cx.heap.size=u;generalize V.heap.size=eT;intro F;exact key eT u A2 bJ _ F
   ·
    refine fj ?_;generalize hV:World.alloc _ _=eH;have e2:=bb hV;have b7:an eH br.heap.size 26 #[.slice none 0 0,.slice none 0 0,.slice none 0 0,.int .i64 0]:=hV▸LM;have dB:V.heap.size<br.heap.size:=(ch.lt (g:=V.heap.size) rfl).2;clear hV;refine ao ?_;refine aG rfl (λK hK=>?_) rfl;rw[if_pos (by rfl)];refine jr l5 (.tmp 56) (.tmp 58) (by rfl) (ch.aj e2) (qs p.ae) cW.1 (s7 (cW.on (Fr.ext (e1.trans e2)))) (λh=>by subst h;exact Sl.none_ cW.o) (by rfl) (by rfl) ab ab (by rw[du];exact(e1.trans e2).size) ?_;intro A2 bJ cx b9 f1 o1 c1;refine ei hK (f1.mono λb O=>ab) ?_;clear hK K;refine tf ?_;have e3:Ext V cx:=Fr.low (M:=λb=>V.heap.size<=b) (((e1.trans e2).mono λ_ h=>h.elim).trans (f1.mono λb O=>ab)) λ_ h=>h;have dH:=b7.lt;have F:Ext V cx/\Gr (λ_=>False) cR 131 3 cx A2 mn bJ (p.ae.map ek)/\an cx br.heap.size 26 #[.slice none 0 0,.slice none 0 0,.slice none 0 0,.int .i64 0]/\(Value.slice A2 mn bJ).ownBlock≠some br.heap.size/\cR<=br.heap.size:=⟨e3,b9,b7.on f1 ab,λO=>by
     rcases o1 _ O with h|h
     .omega
     .omega,ab⟩
    clear b9 ch f1 o1 e1 e2 e3 b7 dB dH;revert F;generalize br.heap.size=u;generalize V.heap.size=eT;intro F;exact key eT u A2 bJ _ F
  ·
   refine fj ?_;generalize hV:World.drew (World.alloc _ _)=br;have e1:=gX hV;have b7:an br V.heap.size 26 #[.slice none 0 0,.slice none 0 0,.slice none 0 0,.int .i64 0]:=hV▸(LM).drew;clear hV;refine ao ?_;refine fj ?_;generalize hV:World.alloc _ _=eH;have e2:=bb hV;have ch:Gr (λ_=>False) br.heap.size 131 3 eH (some ⟨br.heap.size,0,none⟩) 0 0 []:=hV▸Gr.lit (w:=br) (n:=0) (l:=[]) rfl (by rfl) ab (by simp only[D.aJ]);have dg:=b7.aj e2;have dB:V.heap.size<br.heap.size:=b7.lt;have dw:br.heap.size<=eH.heap.size:=e2.size;clear hV b7;refine ao ?_;refine aG rfl (λK hK=>?_) rfl;rw[if_pos (by rfl)];refine jr l5 (.tmp 56) (.tmp 58) (by rfl) ch (qs p.ae) cW.1 (s7 (cW.on (Fr.ext (e1.trans e2)))) (λh=>by subst h;exact Sl.none_ cW.o) (by rfl) (by rfl) ab ab dw ?_;intro A2 bJ cx b9 f1 o1 c1;refine ei hK (f1.mono λb O=>ab) ?_;clear hK K;refine tf ?_;have e3:Ext V cx:=Fr.low (M:=λb=>V.heap.size<=b) (((e1.trans e2).mono λ_ h=>h.elim).trans (f1.mono λb O=>ab)) λ_ h=>h;have F:Ext V cx/\Gr (λ_=>False) cR 131 3 cx A2 mn bJ (p.ae.map ek)/\an cx V.heap.size 26 #[.slice none 0 0,.slice none 0 0,.slice none 0 0,.int .i64 0]/\(Value.slice A2 mn bJ).ownBlock≠some V.heap.size/\cR<=V.heap.size:=⟨e3,b9.base ab,dg.on f1 ab,λO=>by have:=(b9.lt O).1;omega,ab⟩
   clear b9 ch f1 o1 e1 e2 e3 dg dB dw;revert F;generalize br.heap.size=eT;generalize V.heap.size=u;intro F;exact key eT u A2 bJ _ F
 case yO=>
  rintro eT u A2 bJ Y ⟨dp,ds,bz,a6,dU⟩;obtain⟨a3,am,aJ⟩:=bz.two;have bP:=bG dp ds bz a6;clear dp ds bz a6;exact hk
 ):p:=h
end Cq
open Cq in
theorem yS(p:bD)(hp:oK p)(dy:Ii p)(GA:LP)(gn gc:Nat)(MA:LP)(mn mc:Nat)(FA:LP)(fn fc:Nat)(w:World)(h:hh w (au w) p GA gn MA mn FA fn) :
  Calls prog 32 #[.agg #[.slice GA gn gc,.slice MA mn mc,.slice FA fn fc]] w (xt w (gE p)):=by
 have dr:p.globals.length=gn:=by rw[<-h.g.1,Lf]
 have lm:p.ae.length=mn:=by rw[<-h.m.1,Lf]
 have lf:p.funcs.length=fn:=by rw[<-h.f.1,Lf]
 exact sH
theorem Jt(p:bD)(hp:oK p):Ii p:=λf J GA gn gc MA mn mc FA fn fc S ln lc PA pn pc bT bn fk w h hl cq bE=>
 (sX (λU nk F b=>yw FB U nk F b) p hp f J GA gn gc MA mn mc FA fn fc S ln lc PA pn pc bT bn fk w h hl cq bE).mono λ_ _ h=>h
theorem DI(p:bD)(hp:oK p)(GA:LP)(gn gc:Nat)(MA:LP)(mn mc:Nat)(FA:LP)(fn fc:Nat)(w:World)(h:hh w (au w) p GA gn MA mn FA fn) :
  Calls prog 32 #[.agg #[.slice GA gn gc,.slice MA mn mc,.slice FA fn fc]] w (xt w (gE p)):=yS p hp (Jt p hp) GA gn gc MA mn mc FA fn fc w h
end Go.Proofs.YtflecliffjbleaaGreat

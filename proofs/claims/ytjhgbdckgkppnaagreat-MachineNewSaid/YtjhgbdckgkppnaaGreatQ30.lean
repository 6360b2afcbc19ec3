/- Part 30 of the proof (LoK LoL), without conditions of its own. -/
import Derived.Test.YtjhgbdckgkppnaaGreatQ29
namespace Go.Proofs.YtjhgbdckgkppnaaGreat
open Go.RowKit Go.Proofs.Tryz
set_option maxRecDepth 1000000
set_option maxHeartbeats 25600000
set_option linter.unusedVariables false
variable{p:Prop}{w:World}
theorem tP{P:Program}{ops:Array Oper}{Q:Exit→Act→World→Prop}{R:World→World→Prop}{tails:List Nat}{α β γ δ ε ζ η:Type}{rest:PT}{aa:α→β→γ→δ→ε→ζ→η→Act}{C:α→β→γ→δ→ε→ζ→η→World→Prop}{G:Prop}
  (h:(∀a b c d e f g V,C a b c d e f g V→cN P ops Q R tails rest (aa a b c d e f g) V)→G) (key:∀a b c d e f g V,C a b c d e f g V→cN P ops Q R tails rest (aa a b c d e f g) V):G:=h key
theorem og{P:Nat→Prop}(l:List bF):D.aL w P (l.map d4) (l.flatMap hi):=lz (fun _=>ez.2 rfl) l
theorem qk{A:GR}{n:Nat}{l:List bF}(h:Sl w (au w) A n (l.map d4)):Src w 3 A n (l.flatMap hi):=Src.ru (Sl.ql h) (AH _) (AX _) ad
theorem DX:b0 prog 28 85 (.agg #[.string ⟨#[]⟩,.int .i64 0,.int .i64 0,.int .i64 0,.slice none 0 0]) 5 64:=b0.mk' Tryz.underlying28 (by kernel_rfl) rfl ad
def ua(w:World)(u:aF)(e:Ending)(ab:World):Prop:=∃(GA:GR) (gn gc:Nat) (MA:GR) (mn mc:Nat) (PA:GR) (pn pc:Nat),
 e=.returned (.tuple #[.agg #[.slice GA gn gc,.slice MA mn mc,.slice PA pn pc,.int .i64 u.main],.int .i64 0,.int .i64 0,.int .i64 0])∧(q5 u).rep ab (fresh w ab) [.slice GA gn gc,.slice MA mn mc,.slice PA pn pc,.int .i64 u.main]∧Ext w ab
def DK(w:World)(x:c5)(e:Ending)(ab:World):Prop:=∃(A:GR) (n c:Nat) (bI:GR) (bG bq:Nat),
 e=.returned (.tuple #[.agg #[.string x.name,.int .i64 x.ints,.int .i64 x.av,.int .i64 x.locals,.slice A n c],.slice bI bG bq,.int .i64 0,.int .i64 0])∧(fm x).rep ab (fresh w ab) [.string x.name,.int .i64 x.ints,.int .i64 x.av,.int .i64 x.locals,.slice A n c]∧Ext w ab
def EH(p:bC):Prop:=∀(f:aG),f∈p.funcs→∀(GA:GR) (gn gc:Nat) (MA:GR) (mn mc:Nat) (FA:GR) (fn fc:Nat) (bj:GR) (ln lc:Nat) (PA:GR) (pn pc:Nat) (f4:GR) (bn bc:Nat) (w:World),
  gr w (au w) p GA gn MA mn FA fn→Sl w (au w) bj ln ((bf p).map bN)→Sl w (au w) PA pn (f.params.map cW)→Sl w (au w) f4 bn (cL f.body)→
  Calls prog 78 #[.agg #[.slice GA gn gc,.slice MA mn mc,.slice FA fn fc],.slice bj ln lc,.agg #[.string f.name,.slice PA pn pc,.slice f4 bn bc]] w (DK w (dR p f))
namespace y8
theorem di(h:p:=by
 clear a7 am aE;generalize ah:World.setCell _ _ _=dx;have aG:Fr (fun b=>b=s) cy dx:=ah▸(Fr.refl (fun b=>b=s) cy).setCell (.inl rfl) _;obtain⟨an,aq,b3,e1,cD⟩:=bB.o;have fg:Ext V dx:=Fr.low (M:=fun b=>V.heap.size≤b) (((cW.1.trans e1).mono fun _ h=>h.elim).trans ((aq.mono fun b O=>by have:=j b O;omega).trans (aG.mono fun b O=>ad))) fun _ h=>h;have gN:ag dx s 30 #[.slice cl (k+1) c3,.slice A2 mn bZ,.slice none 0 0,.int .i64 mi]:=ah▸cD.aH 0 _;have g3:=((cW.2.2.1.al e1).cz aq.size fun b ao hp=>aq.block b ao fun he=>by
  rcases hp with hp|hp
  ·exact hp.elim
  ·have:=j b he;have:=(ct.o b hp).2;omega).cz aG.size fun b ao hp=>aG.block b ao fun he=>by
  rcases hp with hp|hp
  ·exact hp.elim
  ·exact(ct.o b hp).1 he
 have gU:Gr (fun _=>False) a5 3 1 dx cl (k+1) c3 (((p.globals.take (k+1)).map (·.2)).map D.i):=by
  rw[bo aU.o,Gi,Gi];exact an.cz aG.size fun b ao hp=>aG.block b ao fun he=>by
   rcases hp with hp|hp
   ·exact hp.elim
   ·have:=(an.lt hp).1;omega
 have gV:a5≤dx.heap.size:=by have ac:=e1.size;have J:=aq.size;have aS:=aG.size;omega
 have aZ:=cA fg gN g3 gU gV;clear fg gN g3 gU gV an aq b3 e1 cD aG ah;exact wq
 ):p:=h
theorem gz(h:p:=by
 refine bU ?_;generalize ah:World.setCell _ _ _=X;obtain⟨dC,dE,bA,a2⟩:=bM.o;obtain⟨dg,br,bV⟩:=cx (w:=V) [.slice none 0 0,.slice A2 mn bZ,.slice none 0 0,.int .i64 mi] (by rfl) bA dC ad ah;have cO:=dE.cz bV.size fun b ao hp=>bV.block b ao fun he=>by
  subst he;rcases hp with hp|hp
  ·exact hp.elim
  ·exact a2 hp
 obtain⟨a5,b2⟩:∃N,N=X.heap.size:=⟨_,rfl⟩
 have cg:∀b,(Value.slice A2 mn bZ).ownBlock=some b→b≠s∧b<a5:=fun b O=>⟨fun e=>a2 (by rw[←e];exact O),by have:=(cO.lt O).2;omega⟩
 have ct:=ae cg;have eL:=ae (show Ext V X∧ag X s 30 #[.slice none 0 0,.slice A2 mn bZ,.slice none 0 0,.int .i64 mi]∧Gr (fun _=>False) aO 133 3 X A2 mn bZ (p.af.map d4)∧Gr (fun _=>False) a5 3 1 X none 0 0 (((p.globals.take 0).map (·.2)).map D.i)∧a5≤X.heap.size from ⟨br,dg,cO,Gr.nil _ _ _ _ _,ad⟩);have d9:s<a5:=by have:=dg.lt;omega
 clear bM ah dg br bV cO dC dE bA a2 cg a7 am aE;have bR:=b7.al eL.1;obtain⟨a0,al,af⟩:=bR.two;clear bR;go_wp2;clear a0 al af;go_loopw [11] (fun cp wr=>∃(k:Nat) (A:GR) (c:Nat),k≤gn∧cp=.int .i64 k∧Ext V wr∧ag wr s 30 #[.slice A k c,.slice A2 mn bZ,.slice none 0 0,.int .i64 mi]∧Gr (fun _=>False) aO 133 3 wr A2 mn bZ (p.af.map d4)∧Gr (fun _=>False) a5 3 1 wr A k c (((p.globals.take k).map (·.2)).map D.i)∧a5≤wr.heap.size) (fun cp _=>gn - (intOf cp).toNat)
 case atStart=>exact⟨0,none,0,ad,rfl,eL.o⟩
 case round=>
  obtain⟨k,A,c,ap,rfl,av,hU,U,y,dd⟩:=hrel;clear eL;have cW:=cA av hU U y dd;have ca:=b7.al av;obtain⟨a0,al,af⟩:=ca.two;obtain⟨a7,am,aE⟩:=hU.two;by_cases ao:k<gn
  ·obtain⟨b,o,g,cs,rfl,O,hx,aX,a1,Z⟩:=(ab.o _ (cu.trans av)).g.fJ m0 ao;obtain rfl:=k5.1 aX;have cJ:=Z 1 _ rfl;have aN:b<wr.heap.size:=O;have aU:=ae hx;clear av hU U y ca aX a1 Z O hx;go_wp2;refine eh (fun _=>False) [(0,3),(1,0),(2,3),(3,0),(4,3),(5,3),(6,3),(7,0),(8,1),(9,2),(10,3),(11,2)] ?_;refine pf ?_;refine ph ?_;refine pf ?_;refine ph ?_
   iterate 3 refine pf ?_
   refine ph ?_;refine rC ?_;generalize hV:World.drew (World.alloc _ _)=cS;have e1:Ext wr cS:=hV▸(GN.alloc _).drew;have cZ:ag cS wr.heap.size 3 #[.int .i64 g.2]:=hV▸(GO).drew;clear hV;refine ax rfl (fun K hK=>?_);rw[if_pos (by rfl)];refine d8 dj (.tmp 69) (.tmp 76) (by rfl) (cW.2.2.2.1.al e1) cZ (show (D.i g.2).rep cS _ _ from by simp only[D.rep]) (by rfl) (by rfl) (by rfl) ad ad (aB e1.size) ?_;intro cl c3 cy an aq b3 ce;have j:∀b,(Value.slice A k c).ownBlock=some b→a5≤b:=fun b O=>(cW.2.2.2.1.lt O).1;have cD:=(cW.2.1.al e1).on aq fun O=>by have:=j _ O;omega
   have bB:=cA an aq b3 e1 cD;clear an aq b3 e1 cZ a0 al af a7 am aE cJ aN;obtain⟨a7,am,aE⟩:=cD.two;clear cD;exact pZ
  ·obtain rfl:gn=k:=ad;rw[Gj (by rw[b0.1];exact Gb _)] at y;obtain⟨I,bl⟩:∃N,N=wr.heap.size:=⟨_,rfl⟩
   have dO:=hU.lt;have d6:s<I:=ad;have S:∀b,(Value.slice A gn c).ownBlock=some b→b≠s∧b<I:=fun b O=>⟨by have:=(y.lt O).1;omega,by have:=(y.lt O).2;omega⟩
   have dk:=ae S;have d3:a5≤I:=ad;have ds:=ae (show Ext V wr∧ag wr s 30 #[.slice A gn c,.slice A2 mn bZ,.slice none 0 0,.int .i64 mi]∧Gr (fun _=>False) aO 133 3 wr A2 mn bZ (p.af.map d4)∧Gr (fun _=>False) a5 3 1 wr A gn c ((p.globals.map (·.2)).map D.i)∧Gr (fun b=>I≤b) I 85 5 wr none 0 0 (((p.funcs.take 0).map (dR p)).map fm)∧I≤wr.heap.size from ⟨av,hU,U,y,Gr.nil _ _ _ _ _,ad⟩);clear cW av hU U y ca S dO a7 am aE ap ao;generalize A=cC at *;generalize c=c1 at *;go_wp2;clear a0 al af;go_loopw [12] (fun cp wr=>∃(k:Nat) (A:GR) (c:Nat),k≤fn∧cp=.int .i64 k∧Ext V wr∧ag wr s 30 #[.slice cC gn c1,.slice A2 mn bZ,.slice A k c,.int .i64 mi]∧Gr (fun _=>False) aO 133 3 wr A2 mn bZ (p.af.map d4)∧Gr (fun _=>False) a5 3 1 wr cC gn c1 ((p.globals.map (·.2)).map D.i)∧Gr (fun b=>I≤b) I 85 5 wr A k c (((p.funcs.take k).map (dR p)).map fm)∧I≤wr.heap.size) (fun cp _=>fn - (intOf cp).toNat)
   case atStart=>exact⟨0,none,0,ad,rfl,ds.o⟩
   case round=>
    obtain⟨k,A,c,ap,rfl,av,hU,U,y,ba,dd⟩:=hrel;clear ds;have cW:=dz av hU U y ba dd;have ca:=b7.al av;obtain⟨a0,al,af⟩:=ca.two;by_cases ao:k<fn
    ·obtain⟨b,o,f,cs,m,O,hx,aX,a1,Z⟩:=(ab.o _ (cu.trans av)).f.fJ jV ao;injection m with m;injection m with hFA1 hFA2;subst hFA1 hFA2;obtain⟨QA,ch,qc,H,aV,aI,rfl,gI,d5,dw,cf⟩:=iy.1 aX;have c0:=Z 0 _ rfl;have cJ:=Z 1 _ rfl;have fE:=Z 2 _ rfl;simp only[Gl] at c0;have aN:bY<wr.heap.size:=O;have aU:=aK hx dw cf;have dL:=ab.o _ (cu.trans av);have dK:=du.on (Fr.ext av);have ay:=ai dL dK;clear av hU U y ba ca aX a1 Z O hx dw cf dL dK;go_upto_region 17 with(fail);refine o2 (fun _=>False) [7,14] (.held 0 (.free 1 (.free 2 (.held 3 (.free 4 (.free 5 (.held 6 (.pick [7,13] (fun i=>bif i == 7 then .free 8 (.free 9 (.free 10 (.free 11 (.free 12 (.pick [13] (fun _=>.pick [14] (fun _=>.free 15 (.free 16 (.free 17 (.stop)))))))))) else .pick [7] (fun _=>.free 8 (.free 9 (.free 10 (.free 11 (.free 12 (.pick [14] (fun _=>.free 15 (.free 16 (.free 17 (.stop))))))))))))))))))) ?_;refine th ?_
     iterate 2 refine tf ?_
     refine th ?_
     iterate 2 refine tf ?_
     refine th ?_;clear a0 al af c0 cJ fE;refine tP (P:=?ep) (ops:=?ez) (Q:=?eA) (R:=?eB) (tails:=?eC) (rest:=.pick [14] (fun _=>.free 15 (.free 16 (.free 17 (.stop))))) (aa:=?eq)
      (C:=fun(cG:Nat) (bH:GR) (cm rc:Nat) (bI:GR) (bG bq:Nat) bF=>Ext wr bF∧ag bF cG 85 #[.string ⟨#[]⟩,.int .i64 0,.int .i64 0,.int .i64 0,.slice none 0 0]∧wr.heap.size≤cG∧(fm (dR p f)).rep bF (fun b=>wr.heap.size≤b∧b<bF.heap.size∧b≠cG) [.string (dR p f).name,.int .i64 (dR p f).ints,.int .i64 (dR p f).av,.int .i64 (dR p f).locals,.slice bH cm rc]) (fun key=>?dD) ?dB
     case dD=>
      refine aR ?_ ?_
      ·
       refine aY rfl (fun K hK=>?_) rfl;go_simp;refine(dq.o f (Ge aU.1) GA gn gc MA mn mc (some ⟨bY,cI,none⟩) fn fc bj (bf p).length lc QA ch qc H aV aI wr.drew ⟨ay.1.g.on (Fr.ext GN.drew),ay.1.m.on (Fr.ext GN.drew),ay.1.f.on (Fr.ext GN.drew)⟩ (ay.2.on (Fr.ext GN.drew)) (aU.2.1.on (Fr.ext GN.drew)) (aU.2.2.on (Fr.ext GN.drew))).mono ?_;rintro e aH ⟨bH,cm,rc,bI,bG,bq,rfl,bQ,ar⟩;refine hK _ _ ?_;clear hK K
       try simp only[PU]
       iterate 5 refine tf ?_
       refine ak ?_;refine dU ?_;have F:Ext wr (aH.alloc (.cells #[.string ⟨#[]⟩,.int .i64 0,.int .i64 0,.int .i64 0,.slice none 0 0] 85))∧ag (aH.alloc (.cells #[.string ⟨#[]⟩,.int .i64 0,.int .i64 0,.int .i64 0,.slice none 0 0] 85)) aH.heap.size 85 #[.string ⟨#[]⟩,.int .i64 0,.int .i64 0,.int .i64 0,.slice none 0 0]∧wr.heap.size≤aH.heap.size∧(fm (dR p f)).rep (aH.alloc (.cells #[.string ⟨#[]⟩,.int .i64 0,.int .i64 0,.int .i64 0,.slice none 0 0] 85)) (fun b=>wr.heap.size≤b∧b<(aH.alloc (.cells #[.string ⟨#[]⟩,.int .i64 0,.int .i64 0,.int .i64 0,.slice none 0 0] 85)).heap.size∧b≠aH.heap.size) [.string (dR p f).name,.int .i64 (dR p f).ints,.int .i64 (dR p f).av,.int .i64 (dR p f).locals,.slice bH cm rc]:=
        ⟨(Fr.aE ar).alloc _,GO,(Fr.aE ar).size,D.aP (fun b O=>⟨O.1,by have:=O.2;simp;omega,by have:=O.2;omega⟩) _ _ (D.bg (fun b O=>Below.heap_alloc aH _ b O.2) _ _ bQ)⟩
       clear bQ ar;revert F;generalize aH.heap.size=cG;intro F;exact key cG bH cm rc bI bG bq _ F
      ·
       refine ja ?_;generalize hV:World.alloc _ _=T;have bT:Ext wr T:=hV▸GN.alloc _;have ca:ag T wr.heap.size 85 #[.string ⟨#[]⟩,.int .i64 0,.int .i64 0,.int .i64 0,.slice none 0 0]:=hV▸GO;clear hV;refine ak ?_;refine aY rfl (fun K hK=>?_) rfl;go_simp;refine(dq.o f (Ge aU.1) GA gn gc MA mn mc (some ⟨bY,cI,none⟩) fn fc bj (bf p).length lc QA ch qc H aV aI T.drew ⟨ay.1.g.on (Fr.ext bT.drew),ay.1.m.on (Fr.ext bT.drew),ay.1.f.on (Fr.ext bT.drew)⟩ (ay.2.on (Fr.ext bT.drew)) (aU.2.1.on (Fr.ext bT.drew)) (aU.2.2.on (Fr.ext bT.drew))).mono ?_;rintro e aH ⟨bH,cm,rc,bI,bG,bq,rfl,bQ,ar⟩;refine hK _ _ ?_;clear hK K
       try simp only[PU]
       iterate 5 refine tf ?_
       have cr:=ca.lt;have F:Ext wr aH∧ag aH wr.heap.size 85 #[.string ⟨#[]⟩,.int .i64 0,.int .i64 0,.int .i64 0,.slice none 0 0]∧wr.heap.size≤wr.heap.size∧(fm (dR p f)).rep aH (fun b=>wr.heap.size≤b∧b<aH.heap.size∧b≠wr.heap.size) [.string (dR p f).name,.int .i64 (dR p f).ints,.int .i64 (dR p f).av,.int .i64 (dR p f).locals,.slice bH cm rc]:=
        ⟨bT.trans (Fr.aE ar),ca.al (Fr.aE ar),Gb _,D.aP (fun b O=>⟨by have ac:T.heap.size≤b:=O.1;omega,O.2,by have ac:T.heap.size≤b:=O.1;omega⟩) _ _ bQ⟩
       clear bQ ar bT ca cr;exact key wr.heap.size bH cm rc bI bG bq _ F
     case dB=>
      rintro cG bH cm rc bI bG bq bF ⟨dy,a3,dP,bQ⟩;obtain⟨a6,aL,aP⟩:=a3.two;have aj:=aK dy a3 bQ;clear dy a3 bQ;refine ak ?_;refine aY rfl (fun K hK=>?_) rfl;go_simp;refine hK _ _ ?_;clear hK K
      try simp only[PU]
      iterate 3 refine tf ?_
      refine bU ?_;generalize ah:World.setCell _ _ _=gK;obtain⟨dy,a3,bQ⟩:=aj.o;obtain⟨ca,cj,aA⟩:=cx (w:=wr) [.string (dR p f).name,.int .i64 (dR p f).ints,.int .i64 (dR p f).av,.int .i64 (dR p f).locals,.slice bH cm rc] (by rfl) a3 dy dP ah;have de:=cW.2.1.al cj;have c5:=cW.2.2.2.2.1.al cj;have L:∀b,(Value.slice A k c).ownBlock=some b→b<wr.heap.size:=fun b O=>(cW.2.2.2.2.1.lt O).2;have dW:=aA.size;have ec:=cj.size;have hd:(fm (dR p f)).rep gK (j2 (fun b=>I≤b) gK (.slice A k c)) [.string (dR p f).name,.int .i64 (dR p f).ints,.int .i64 (dR p f).av,.int .i64 (dR p f).locals,.slice bH cm rc]:=
       D.aP (fun b O=>⟨by have:=O.1;omega,by have:=O.2.1;omega,fun hc=>by have:=L b hc;have:=O.1;omega⟩) _ _ (D.bg (fun b O=>aA.block b O.2.1 O.2.2) _ _ bQ)
      have c4:=aK cj c5 hd;clear ah dy a3 bQ aA c5 hd a6 aL aP aj L cj;obtain⟨a6,aL,aP⟩:=ca.two;obtain⟨a7,am,aE⟩:=de.two;have dX:=ae de;clear ca de;go_wp2_with ((at_builtin;refine bS DX rfl (.tmp 106) (.tmp 108) rfl c4.2.1 c4.2.2 rfl rfl rfl ad ad ad ?_;intro cl c3 cv an aq b3 ce;have df:=dX.on aq (fun O=>by have:=(c4.2.1.lt O).1;omega);clear a7 am aE a6 aL aP;obtain⟨a7,am,aE⟩:=df.two;have dY:=ae df;clear df));generalize ah:World.setCell _ _ _=dJ;have cL:Fr (fun b=>b=s) cv dJ:=ah▸(Fr.refl (fun b=>b=s) cv).setCell (.inl rfl) _;have cj:=c4.1;have j:∀b,(Value.slice A k c).ownBlock=some b→I≤b:=fun b O=>(c4.2.1.lt O).1;have dT:(((p.funcs.take (k+1)).map (dR p)).map fm)=((p.funcs.take k).map (dR p)).map fm++[fm (dR p f)]:=by rw[bo aU.1,Gi,Gi];rfl
      have co:Ext V dJ:=Fr.low (M:=fun b=>V.heap.size≤b) (((cW.1.trans cj).mono fun _ h=>h.elim).trans ((aq.mono fun b O=>by have:=j b O;omega).trans (cL.mono fun b O=>ad))) fun _ h=>h;have ej:ag dJ s 30 #[.slice cC gn c1,.slice A2 mn bZ,.slice cl (k+1) c3,.int .i64 mi]:=ah▸dY.aH 2 _;have cT:=((cW.2.2.1.al cj).cz aq.size fun b ao hp=>aq.block b ao fun he=>by
       rcases hp with hp|hp
       ·exact hp.elim
       ·have:=j b he;have:=(ct.o b hp).2;omega).cz cL.size fun b ao hp=>cL.block b ao fun he=>by
       rcases hp with hp|hp
       ·exact hp.elim
       ·exact(ct.o b hp).1 he
      have c7:=((cW.2.2.2.1.al cj).cz aq.size fun b ao hp=>aq.block b ao fun he=>by
       rcases hp with hp|hp
       ·exact hp.elim
       ·have:=j b he;have:=(dk.o b hp).2;omega).cz cL.size fun b ao hp=>cL.block b ao fun he=>by
       rcases hp with hp|hp
       ·exact hp.elim
       ·exact(dk.o b hp).1 he
      have bb:Gr (fun b=>I≤b) I 85 5 dJ cl (k+1) c3 (((p.funcs.take (k+1)).map (dR p)).map fm):=by
       rw[dT];exact an.cz cL.size fun b ao hp=>cL.block b ao fun he=>by
        rcases hp with hp|hp
        ·omega
        ·have:=(an.lt hp).1;omega
      have c6:I≤dJ.heap.size:=by have ac:=cj.size;have J:=aq.size;have aS:=cL.size;omega
      have aZ:=dz co ej cT c7 bb c6;clear co ej cT c7 bb c6 an aq b3 cj cL ah j dT a7 am aE;go_wp2
      go_roundw
      case rel=>exact⟨k+1,cl,c3,ad,by go_num,aZ.o⟩
      case measure=>simp[intOf];omega
    ·obtain rfl:fn=k:=ad;rw[Gj (by rw[b0.2.2];exact Gb _)] at ba;have bm:=bu.al av;have eb:w.heap.size+1<V.heap.size:=bu.lt;have cn:=ae hU;obtain⟨a7,am,aE⟩:=hU.two;obtain⟨a6,aL,aP⟩:=bm.two;have dp:=ae bm;have dr:=ae ba;clear av hU U y ba ca bm;go_wp2;generalize ah:World.setCell _ _ _=d1;obtain⟨gk,cV,c2⟩:=cx (w:=w) [.slice cC gn c1,.slice A2 mn bZ,.slice A fn c,.int .i64 mi] (by rfl) dp.o (cu.trans cW.1) (Nat.le_succ _) ah;obtain⟨bx,bd,be⟩:=gk.two;clear a7 am aE a6 aL aP a0 al af;refine GM (v:=.tuple #[.agg #[.slice cC gn c1,.slice A2 mn bZ,.slice A fn c,.int .i64 mi],.int .i64 0,.int .i64 0,.int .i64 0]) (by simp[results,Tryz.results25,go_sem,bx]) rfl ?_;have bt:(eH p).main=(mi:Int):=by
      show ij (bf p) hB=_
      unfold ij;rw[show hB=⟨#[109,97,105,110]⟩ from rfl,dc.o]
     have cY:=cu.size;have ed:=c2.size;have bv:∀b,V.heap.size≤b→b<wr.heap.size→d1.heap[b]?=wr.heap[b]?:=fun b ac J=>c2.block b J ad;have cM:=cW.2.2.1.cz c2.size fun b ao hp=>by
      rcases hp with hp|hp
      ·exact hp.elim
      ·exact bv b (by have:=(cW.2.2.1.lt hp).1;omega) ao
     have c9:=cW.2.2.2.1.cz c2.size fun b ao hp=>by
      rcases hp with hp|hp
      ·exact hp.elim
      ·exact bv b (by have:=(cW.2.2.2.1.lt hp).1;omega) ao
     have a8:=dr.cz c2.size fun b ao hp=>by
      rcases hp with hp|hp
      ·exact bv b ad ao
      ·exact bv b (by have:=(dr.lt hp).1;omega) ao
     refine⟨cC,gn,c1,A2,mn,bZ,A,fn,c,by rw[bt],?_,cV⟩;unfold q5;rw[bt,bw];exact aJ.2 ⟨cC,gn,c1,_,rfl,c9.cap.1,c9.sl (fun b _ h=>h.elim) (fun b ac J=>⟨ad,ac⟩),aJ.2 ⟨A2,mn,bZ,_,rfl,cM.cap.1,cM.sl (fun b _ h=>h.elim) (fun b ac J=>⟨ad,ac⟩),
      aJ.2 ⟨A,fn,c,_,rfl,a8.cap.1,a8.sl (fun b ac J=>⟨ad,ac⟩) (fun b ac J=>⟨ad,ac⟩),a9.2 ⟨_,rfl,aM.2 rfl⟩⟩⟩⟩
 ):p:=h
theorem fN(h:p:=by
 have aT:ag W w.heap.size 27 #[.slice GA gn gc,.slice MA mn mc,.slice FA fn fc]:=bg▸(GO).alloc _;have dH:ag W (w.heap.size+1) 30 #[.slice none 0 0,.slice none 0 0,.slice none 0 0,.int .i64 0]:=bg▸ag.bR _ _ _ (by simp);have bh:=ae av;have a4:=ae aT;have dF:=ae dH;obtain⟨a0,al,af⟩:=aT.two;have dV:∀(aH:World),Ext w aH→gr aH (au aH) p GA gn MA mn FA fn:=fun _ he=>⟨u.g.on (Fr.ext he),u.m.on (Fr.ext he),u.f.on (Fr.ext he)⟩
 have ab:=ae dV;clear bg av aT dH dV;go_wp2_with (fail);refine(CH p b9.o GA gn gc MA mn mc FA fn fc W (ab.o _ bh.o)).mono ?_;rintro e aH ⟨rfl,ar⟩;have bp:=ae (bh.trans ar);have cw:=a4.al ar;have G:=ae cw;have dl:=ae (dF.al ar);clear a0 al af ar;obtain⟨a0,al,af⟩:=cw.two;clear cw;go_wp2_with (fail);refine(qb p b9.o GA gn gc MA mn mc FA fn fc aH (ab.o _ bp.o)).mono ?_;rintro e aQ ⟨bj,lc,rfl,ck,bE⟩;have aW:=ae (bp.trans bE);have bD:=G.al bE;have bk:=ae bD;have dm:=ae (dl.al bE);have db:Sl aQ (au aQ) bj (bf p).length ((bf p).map bN):=ck.mono fun b O=>O.2;have b8:=ae db;clear a0 al af bE ck db;obtain⟨a0,al,af⟩:=bD.two;clear bD;go_wp2_with (fail);refine(c8 bj (bf p).length lc (bf p) ⟨#[109,97,105,110]⟩ aQ b8.o (aB d2.o)).mono ?_;rintro e bJ ⟨rfl,bW⟩;rw[dc.o];simp only[gM,mS];have b6:=ae (aW.trans bW);have bK:=ae (bk.al bW);have dn:=ae (dm.al bW);have dt:=ae (b8.on (Fr.ext bW));clear a0 al af bW;go_upto_region 7 with(fail);generalize hV:World.alloc _ _=V;have t:Ext bJ V:=hV▸GN.alloc _;have cQ:ag V bJ.heap.size 149 #[.string ⟨#[109,97,105,110]⟩,.int .i64 3,.int .i64 mi]:=hV▸GO;have cu:=ae (b6.trans t);have b1:=bK.al t;have b7:=ae b1;have bu:=ae (dn.al t);have du:=ae (dt.on (Fr.ext t));have d7:=ae cQ;obtain⟨bY,cI,cz,cs,rfl,ci,z,bL,cK,aC⟩:=(ab.o _ cu.o).f.fJ jV cU;rw[dv.1] at z;injection z with z;subst z;obtain⟨PA,pn,pc,f4,bn,bc,rfl,cX,cP,bi,_⟩:=iy.1 bL;have da:=aC 1 _ rfl;have cB:bY<V.heap.size:=ci;obtain rfl:0=pn:=by have:=bi.1;rw[dv.2] at this;exact this
 clear hV t bL cK aC bi ci;obtain⟨a0,al,af⟩:=b1.two;obtain⟨a7,am,aE⟩:=cQ.two;clear b1 cQ;go_upto_region 9 with(fail);have aw:=ae (ab.o _ cu.o).m;obtain⟨aO,cd⟩:∃N,N=V.heap.size:=⟨_,rfl⟩
 have dZ:¬aO≤w.heap.size:=ad;have d0:¬aO≤bJ.heap.size:=ad;clear da cB;refine o2 (fun b=>aO≤b) [8] (.free 0 (.held 1 (.free 3 (.held 4 (.pick [2,7] (fun i=>bif i == 2 then .pick [5,7] (fun i=>bif i == 5 then .free 6 (.pick [7] (fun _=>.pick [8] (fun _=>.stop))) else .pick [5] (fun _=>.free 6 (.pick [8] (fun _=>.stop)))) else .pick [2] (fun _=>.pick [5] (fun _=>.free 6 (.pick [8] (fun _=>.stop)))))))))) ?_;refine tf ?_;refine mE ?_;refine tf ?_;refine mE ?_;clear a0 al af a7 am aE;refine f5 (P:=?mM) (ops:=?gQ) (Q:=?gR) (R:=?gS) (tails:=?gT) (rest:=.pick [8] (fun _=>.stop)) (aa:=?gP)
  (C:=fun(_:Nat) s A2 bZ bF=>Ext V bF∧Gr (fun _=>False) aO 133 3 bF A2 mn bZ (p.af.map d4)∧ag bF s 30 #[.slice none 0 0,.slice none 0 0,.slice none 0 0,.int .i64 0]∧(Value.slice A2 mn bZ).ownBlock≠some s∧aO≤s) (fun key=>?gh) ?gg
 case gh=>
  refine aR ?_ ?_
  ·
   refine ja ?_;generalize hV:World.drew (World.alloc _ _)=T;have e1:Ext V T:=hV▸(GN.alloc _).drew;have b5:Gr (fun _=>False) aO 133 3 T (some ⟨V.heap.size,0,none⟩) 0 0 []:=by rw[←hV,cd];exact(Gr.lit (w:=V) (n:=0) (l:=[]) rfl (by rfl) ad (by simp only[D.aL])).al GN.drew
   clear hV;refine aR ?_ ?_
   ·
    refine az rfl (fun K hK=>?_) rfl;rw[if_pos (by rfl)];refine f9 kx (.tmp 56) (.tmp 58) (by rfl) b5 (og p.af) aw.1 (qk (aw.on (Fr.ext e1))) (fun h=>by subst h;exact Sl.none_ aw.o) (by rfl) (by rfl) ad ad (by rw[cd];exact e1.size) ?_;intro A2 bZ cv b4 aF dS c1;refine hK _ _ (aF.mono fun b O=>ad) ?_;clear hK K
    try simp only[PU]
    refine tf ?_;refine ak ?_;refine dU ?_;have e2:Ext V cv:=Fr.low (M:=fun b=>V.heap.size≤b) ((e1.mono fun _ h=>h.elim).trans (aF.mono fun b O=>ad)) fun _ h=>h;have F:Ext V (cv.alloc (.cells #[.slice none 0 0,.slice none 0 0,.slice none 0 0,.int .i64 0] 30))∧Gr (fun _=>False) aO 133 3 (cv.alloc (.cells #[.slice none 0 0,.slice none 0 0,.slice none 0 0,.int .i64 0] 30)) A2 mn bZ (p.af.map d4)∧ag (cv.alloc (.cells #[.slice none 0 0,.slice none 0 0,.slice none 0 0,.int .i64 0] 30)) cv.heap.size 30 #[.slice none 0 0,.slice none 0 0,.slice none 0 0,.int .i64 0]∧(Value.slice A2 mn bZ).ownBlock≠some cv.heap.size∧aO≤cv.heap.size:=
     ⟨e2.alloc _,b4.al (GN.alloc _),GO,fun O=>by have:=(b4.lt O).2;omega,by have:=e2.size;omega⟩
    clear b4 b5 aF dS e1 e2;revert F;generalize cv.heap.size=s;generalize V.heap.size=cb;intro F;exact key cb s A2 bZ _ F
   ·
    refine dU ?_;generalize hV:World.alloc _ _=cH;have e2:Ext T cH:=hV▸GN.alloc _;have r:ag cH T.heap.size 30 #[.slice none 0 0,.slice none 0 0,.slice none 0 0,.int .i64 0]:=hV▸GO;have cq:V.heap.size<T.heap.size:=(b5.lt (g:=V.heap.size) rfl).2;clear hV;refine ak ?_;refine az rfl (fun K hK=>?_) rfl;rw[if_pos (by rfl)];refine f9 kx (.tmp 56) (.tmp 58) (by rfl) (b5.al e2) (og p.af) aw.1 (qk (aw.on (Fr.ext (e1.trans e2)))) (fun h=>by subst h;exact Sl.none_ aw.o) (by rfl) (by rfl) ad ad (by rw[cd];exact(e1.trans e2).size) ?_;intro A2 bZ cv b4 aF dS c1;refine hK _ _ (aF.mono fun b O=>ad) ?_;clear hK K
    try simp only[PU]
    refine tf ?_;have e3:Ext V cv:=Fr.low (M:=fun b=>V.heap.size≤b) (((e1.trans e2).mono fun _ h=>h.elim).trans (aF.mono fun b O=>ad)) fun _ h=>h;have dQ:=r.lt;have F:Ext V cv∧Gr (fun _=>False) aO 133 3 cv A2 mn bZ (p.af.map d4)∧ag cv T.heap.size 30 #[.slice none 0 0,.slice none 0 0,.slice none 0 0,.int .i64 0]∧(Value.slice A2 mn bZ).ownBlock≠some T.heap.size∧aO≤T.heap.size:=⟨e3,b4,r.on aF ad,fun O=>by
     rcases dS _ O with h|h
     ·omega
     ·omega,ad⟩
    clear b4 b5 aF dS e1 e2 e3 r cq dQ;revert F;generalize T.heap.size=s;generalize V.heap.size=cb;intro F;exact key cb s A2 bZ _ F
  ·
   refine ja ?_;generalize hV:World.drew (World.alloc _ _)=T;have e1:Ext V T:=hV▸(GN.alloc _).drew;have r:ag T V.heap.size 30 #[.slice none 0 0,.slice none 0 0,.slice none 0 0,.int .i64 0]:=hV▸(GO).drew;clear hV;refine ak ?_;refine dU ?_;generalize hV:World.alloc _ _=cH;have e2:Ext T cH:=hV▸GN.alloc _;have b5:Gr (fun _=>False) T.heap.size 133 3 cH (some ⟨T.heap.size,0,none⟩) 0 0 []:=hV▸Gr.lit (w:=T) (n:=0) (l:=[]) rfl (by rfl) ad (by simp only[D.aL]);have cc:=r.al e2;have cq:V.heap.size<T.heap.size:=r.lt;have dG:T.heap.size≤cH.heap.size:=e2.size;clear hV r;refine ak ?_;refine az rfl (fun K hK=>?_) rfl;rw[if_pos (by rfl)];refine f9 kx (.tmp 56) (.tmp 58) (by rfl) b5 (og p.af) aw.1 (qk (aw.on (Fr.ext (e1.trans e2)))) (fun h=>by subst h;exact Sl.none_ aw.o) (by rfl) (by rfl) ad ad dG ?_;intro A2 bZ cv b4 aF dS c1;refine hK _ _ (aF.mono fun b O=>ad) ?_;clear hK K
   try simp only[PU]
   refine tf ?_;have e3:Ext V cv:=Fr.low (M:=fun b=>V.heap.size≤b) (((e1.trans e2).mono fun _ h=>h.elim).trans (aF.mono fun b O=>ad)) fun _ h=>h;have F:Ext V cv∧Gr (fun _=>False) aO 133 3 cv A2 mn bZ (p.af.map d4)∧ag cv V.heap.size 30 #[.slice none 0 0,.slice none 0 0,.slice none 0 0,.int .i64 0]∧(Value.slice A2 mn bZ).ownBlock≠some V.heap.size∧aO≤V.heap.size:=⟨e3,b4.base ad,cc.on aF ad,fun O=>by have:=(b4.lt O).1;omega,ad⟩
   clear b4 b5 aF dS e1 e2 e3 cc cq dG;revert F;generalize T.heap.size=cb;generalize V.heap.size=s;intro F;exact key cb s A2 bZ _ F
 case gg=>
  rintro cb s A2 bZ Y ⟨dC,dE,bA,a2,ea⟩;obtain⟨a7,am,aE⟩:=bA.two;have bM:=bO dC dE bA a2;clear dC dE bA a2;exact gy
 ):p:=h
theorem pY(h:p:=by
 have cR:(bf p).length≤100:=by rw[jT];omega
 obtain⟨mi,bP,bz,bX,bs⟩:=hp.main;have cF:dh (bf p) ⟨#[109,97,105,110]⟩=some ⟨⟨#[109,97,105,110]⟩,3,(mi:Int)⟩:=by
  have:=j1 (mh hp) (Ge (uB bz));rw[bX] at this;exact this
 have cU:mi<fn:=by have:=(List.getElem?_eq_some_iff.1 bz).1;omega
 have u:=ae h;have b9:=ae hp;have dq:=ae dI;have dc:=ae cF;have dv:=ai bz bs;have b0:=aK dA lm lf;have d2:=ae cR;clear h hp dI cF bz bX bs dA lm lf cR;go_enter func25,ntmps25;exact fM
 ):p:=h
end y8
open y8 in
theorem vv(p:bC)(hp:mU p)(dI:EH p)(GA:GR)(gn gc:Nat)(MA:GR)(mn mc:Nat)(FA:GR)(fn fc:Nat)(w:World)(h:gr w (au w) p GA gn MA mn FA fn) :
  Calls prog 25 #[.agg #[.slice GA gn gc,.slice MA mn mc,.slice FA fn fc]] w (ua w (eH p)):=by
 have dA:p.globals.length=gn:=by rw[←h.g.1,Gf]
 have lm:p.af.length=mn:=by rw[←h.m.1,Gf]
 have lf:p.funcs.length=fn:=by rw[←h.f.1,Gf]
 exact pX
theorem FG(p:bC)(hp:mU p):EH p:=fun f aw GA gn gc MA mn mc FA fn fc bj ln lc PA pn pc f4 bn bc w h hl bi b1=>
 (qf (fun U nk F b=>u9 Co U nk F b) p hp f aw GA gn gc MA mn mc FA fn fc bj ln lc PA pn pc f4 bn bc w h hl bi b1).mono fun _ _ h=>h
theorem AN(p:bC)(hp:mU p)(GA:GR)(gn gc:Nat)(MA:GR)(mn mc:Nat)(FA:GR)(fn fc:Nat)(w:World)(h:gr w (au w) p GA gn MA mn FA fn) :
  Calls prog 25 #[.agg #[.slice GA gn gc,.slice MA mn mc,.slice FA fn fc]] w (ua w (eH p)):=vv p hp (FG p hp) GA gn gc MA mn mc FA fn fc w h
end Go.Proofs.YtjhgbdckgkppnaaGreat

/- Part 28 of the proof. No condition of its own. -/
import Derived.Test.YtbkhhfajcgkpgaaGreatQ27
namespace Go.Proofs.YtbkhhfajcgkpgaaGreat
open Go.RowKit Go.Proofs.Tryz
set_option maxRecDepth 1000000
set_option maxHeartbeats 25600000
set_option linter.unusedVariables false
variable{p:Prop}{w:World}
theorem wj{P:Program}{ops:Array Oper}{Q:Exit→Act→World→Prop}{R:World→World→Prop}{tails:List Nat}{α β γ δ ε ζ η:Type}{rest:PT}{aa:α→β→γ→δ→ε→ζ→η→Act}{C:α→β→γ→δ→ε→ζ→η→World→Prop}{G:Prop}
  (h:(∀a b c d e f g V,C a b c d e f g V→c5 P ops Q R tails rest (aa a b c d e f g) V)→G) (key:∀a b c d e f g V,C a b c d e f g V→c5 P ops Q R tails rest (aa a b c d e f g) V):G:=h key
theorem pI{P:Nat→Prop}(l:List bA):D.aI w P (l.map dZ) (l.flatMap hg):=mC (fun _=>eR.2 rfl) l
theorem ss{A:Kr}{n:Nat}{l:List bA}(h:Sl w (au w) A n (l.map dZ)):Src w 3 A n (l.flatMap hg):=Src.nP (Sl.qG h) (CS _) (C3 _) ab
theorem Gi:bX prog 24 115 (.agg #[.string ⟨#[]⟩,.int .i64 0,.int .i64 0,.int .i64 0,.slice none 0 0]) 5 64:=bX.mk' Tryz.underlying24 (by kernel_rfl) rfl ab
def wG(w:World)(u:av)(e:Ending)(ac:World):Prop:=∃(GA:Kr) (gn gc:Nat) (MA:Kr) (mn mc:Nat) (PA:Kr) (pn pc:Nat),
 e=.returned (.tuple #[.agg #[.slice GA gn gc,.slice MA mn mc,.slice PA pn pc,.int .i64 u.main],.int .i64 0,.int .i64 0,.int .i64 0])∧(ts u).rep ac (fresh w ac) [.slice GA gn gc,.slice MA mn mc,.slice PA pn pc,.int .i64 u.main]∧Ext w ac
def F3(w:World)(x:c6)(e:Ending)(ac:World):Prop:=∃(A:Kr) (n c:Nat) (bp:Kr) (bQ a7:Nat),
 e=.returned (.tuple #[.agg #[.string x.name,.int .i64 x.ints,.int .i64 x.aw,.int .i64 x.locals,.slice A n c],.slice bp bQ a7,.int .i64 0,.int .i64 0])∧(fN x).rep ac (fresh w ac) [.string x.name,.int .i64 x.ints,.int .i64 x.aw,.int .i64 x.locals,.slice A n c]∧Ext w ac
def Hd(p:bB):Prop:=∀(f:az),f∈p.funcs→∀(GA:Kr) (gn gc:Nat) (MA:Kr) (mn mc:Nat) (FA:Kr) (fn fc:Nat) (bj:Kr) (ln lc:Nat) (PA:Kr) (pn pc:Nat) (f0:Kr) (bn eL:Nat) (w:World),
  g1 w (au w) p GA gn MA mn FA fn→Sl w (au w) bj ln ((ba p).map bN)→Sl w (au w) PA pn (f.params.map df)→Sl w (au w) f0 bn (cP f.body)→
  Calls prog 83 #[.agg #[.slice GA gn gc,.slice MA mn mc,.slice FA fn fc],.slice bj ln lc,.agg #[.string f.name,.slice PA pn pc,.slice f0 bn eL]] w (F3 w (dY p f))
namespace BG
theorem jD(h:p:=by
 clear a6 am aI;generalize hX:World.setCell _ _ _=dp;have S:Fr (fun b=>b=r) ci dp:=hX▸(Fr.refl (fun b=>b=r) ci).setCell (.inl rfl) _;obtain⟨an,ay,b8,e1,bf⟩:=bW.o;have r1:Ext V dp:=Fr.low (M:=fun b=>V.heap.size≤b) (((b9.1.trans e1).mono fun _ h=>h.elim).trans ((ay.mono fun b O=>by have:=j b O;omega).trans (S.mono fun b O=>ab))) fun _ h=>h;have gE:af dp r 26 #[.slice cf (k+1) c3,.slice A2 mn bE,.slice none 0 0,.int .i64 mi]:=hX▸bf.aC 0 _;have eI:=((b9.2.2.1.ak e1).c7 ay.size fun b aw hp=>ay.block b aw fun he=>by
  rcases hp with hp|hp
  ·exact hp.elim
  ·have:=j b he;have:=(cD.o b hp).2;omega).c7 S.size fun b aw hp=>S.block b aw fun he=>by
  rcases hp with hp|hp
  ·exact hp.elim
  ·exact(cD.o b hp).1 he
 have gI:Gr (fun _=>False) aV 3 1 dp cf (k+1) c3 (((p.globals.take (k+1)).map (·.2)).map D.i):=by
  rw[a9 aP.o,JX,JX];exact an.c7 S.size fun b aw hp=>S.block b aw fun he=>by
   rcases hp with hp|hp
   ·exact hp.elim
   ·have:=(an.lt hp).1;omega
 have gO:aV≤dp.heap.size:=by have ae:=e1.size;have aC:=ay.size;have aT:=S.size;omega
 have aX:=dA r1 gE eI gI gO;clear r1 gE eI gI gO an ay b8 e1 bf S hX;exact yT
 ):p:=h
theorem gq(h:p:=by
 refine cw ?_;generalize hX:World.setCell _ _ _=X;obtain⟨dt,du,bt,a1⟩:=bM.o;obtain⟨cY,bo,bZ⟩:=cb (w:=V) [.slice none 0 0,.slice A2 mn bE,.slice none 0 0,.int .i64 mi] (by rfl) bt dt ab hX;have cz:=du.c7 bZ.size fun b aw hp=>bZ.block b aw fun he=>by
  subst he;rcases hp with hp|hp
  ·exact hp.elim
  ·exact a1 hp
 obtain⟨aV,ah⟩:∃N,N=X.heap.size:=⟨_,rfl⟩
 have bL:∀b,(Value.slice A2 mn bE).ownBlock=some b→b≠r∧b<aV:=fun b O=>⟨fun e=>a1 (by rw[←e];exact O),by have:=(cz.lt O).2;omega⟩
 have cD:=ad bL;have c2:=ad (show Ext V X∧af X r 26 #[.slice none 0 0,.slice A2 mn bE,.slice none 0 0,.int .i64 mi]∧Gr (fun _=>False) cO 125 3 X A2 mn bE (p.ae.map dZ)∧Gr (fun _=>False) aV 3 1 X none 0 0 (((p.globals.take 0).map (·.2)).map D.i)∧aV≤X.heap.size from ⟨bo,cY,cz,Gr.nil _ _ _ _ _,ab⟩);have dU:r<aV:=by have:=cY.lt;omega
 clear bM hX cY bo bZ cz dt du bt a1 bL a6 am aI;have b5:=bD.ak c2.1;obtain⟨a0,ap,ak⟩:=b5.two;clear b5;go_wp2;clear a0 ap ak;go_loopw [11] (fun cg wr=>∃(k:Nat) (A:Kr) (c:Nat),k≤gn∧cg=.int .i64 k∧Ext V wr∧af wr r 26 #[.slice A k c,.slice A2 mn bE,.slice none 0 0,.int .i64 mi]∧Gr (fun _=>False) cO 125 3 wr A2 mn bE (p.ae.map dZ)∧Gr (fun _=>False) aV 3 1 wr A k c (((p.globals.take k).map (·.2)).map D.i)∧aV≤wr.heap.size) (fun cg _=>gn - (intOf cg).toNat)
 case atStart=>exact⟨0,none,0,ab,rfl,c2.o⟩
 case round=>
  obtain⟨k,A,c,aj,rfl,aF,hU,al,s,cA⟩:=hrel;clear c2;have b9:=dA aF hU al s cA;have aY:=bD.ak aF;obtain⟨a0,ap,ak⟩:=aY.two;obtain⟨a6,am,aI⟩:=hU.two;by_cases aw:k<gn
  ·obtain⟨b,o,g,cs,rfl,O,hx,aU,a3,Z⟩:=(aG.o _ (bA.trans aF)).g.gN oi aw;obtain rfl:=mb.1 aU;have cL:=Z 1 _ rfl;have aW:b<wr.heap.size:=O;have aP:=ad hx;clear aF hU al s aY aU a3 Z O hx;go_wp2;refine eE (fun _=>False) [(0,3),(1,0),(2,3),(3,0),(4,3),(5,3),(6,3),(7,0),(8,1),(9,2),(10,3),(11,2)] ?_;refine pf ?_;refine ph ?_;refine pf ?_;refine ph ?_
   iterate 3 refine pf ?_
   refine ph ?_;refine ru ?_;generalize hV:World.drew (World.alloc _ _)=ck;have e1:Ext wr ck:=hV▸(Kn.alloc _).drew;have cR:af ck wr.heap.size 3 #[.int .i64 g.2]:=hV▸(Ko).drew;clear hV;refine aq rfl (fun K hK=>?_);rw[if_pos (by rfl)];refine eO dm (.tmp 69) (.tmp 76) (by rfl) (b9.2.2.2.1.ak e1) cR (show (D.i g.2).rep ck _ _ from by simp only[D.rep]) (by rfl) (by rfl) (by rfl) ab ab (aH e1.size) ?_;intro cf c3 ci an ay b8 bJ;have j:∀b,(Value.slice A k c).ownBlock=some b→aV≤b:=fun b O=>(b9.2.2.2.1.lt O).1;have bf:=(b9.2.1.ak e1).on ay fun O=>by have:=j _ O;omega
   have bW:=dA an ay b8 e1 bf;clear an ay b8 e1 cR a0 ap ak a6 am aI cL aW;obtain⟨a6,am,aI⟩:=bf.two;clear bf;exact lB
  ·obtain rfl:gn=k:=ab;rw[JY (by rw[bK.1];exact JQ _)] at s;obtain⟨av,cq⟩:∃N,N=wr.heap.size:=⟨_,rfl⟩
   have dF:=hU.lt;have dR:r<av:=ab;have cZ:∀b,(Value.slice A gn c).ownBlock=some b→b≠r∧b<av:=fun b O=>⟨by have:=(s.lt O).1;omega,by have:=(s.lt O).2;omega⟩
   have c4:=ad cZ;have dP:aV≤av:=ab;have de:=ad (show Ext V wr∧af wr r 26 #[.slice A gn c,.slice A2 mn bE,.slice none 0 0,.int .i64 mi]∧Gr (fun _=>False) cO 125 3 wr A2 mn bE (p.ae.map dZ)∧Gr (fun _=>False) aV 3 1 wr A gn c ((p.globals.map (·.2)).map D.i)∧Gr (fun b=>av≤b) av 115 5 wr none 0 0 (((p.funcs.take 0).map (dY p)).map fN)∧av≤wr.heap.size from ⟨aF,hU,al,s,Gr.nil _ _ _ _ _,ab⟩);clear b9 aF hU al s aY cZ dF a6 am aI aj aw;generalize A=ce at *;generalize c=c1 at *;go_wp2;clear a0 ap ak;go_loopw [12] (fun cg wr=>∃(k:Nat) (A:Kr) (c:Nat),k≤fn∧cg=.int .i64 k∧Ext V wr∧af wr r 26 #[.slice ce gn c1,.slice A2 mn bE,.slice A k c,.int .i64 mi]∧Gr (fun _=>False) cO 125 3 wr A2 mn bE (p.ae.map dZ)∧Gr (fun _=>False) aV 3 1 wr ce gn c1 ((p.globals.map (·.2)).map D.i)∧Gr (fun b=>av≤b) av 115 5 wr A k c (((p.funcs.take k).map (dY p)).map fN)∧av≤wr.heap.size) (fun cg _=>fn - (intOf cg).toNat)
   case atStart=>exact⟨0,none,0,ab,rfl,de.o⟩
   case round=>
    obtain⟨k,A,c,aj,rfl,aF,hU,al,s,bb,cA⟩:=hrel;clear de;have b9:=dQ aF hU al s bb cA;have aY:=bD.ak aF;obtain⟨a0,ap,ak⟩:=aY.two;by_cases aw:k<fn
    ·obtain⟨b,o,f,cs,m,O,hx,aU,a3,Z⟩:=(aG.o _ (bA.trans aF)).f.gN mV aw;injection m with m;injection m with hFA1 hFA2;subst hFA1 hFA2;obtain⟨QA,ca,qc,I,ac,U,rfl,dw,dG,e4,bO⟩:=kL.1 aU;have c0:=Z 0 _ rfl;have cL:=Z 1 _ rfl;have b0:=Z 2 _ rfl;simp only[J0] at c0;have aW:b2<wr.heap.size:=O;have aP:=aQ hx e4 bO;have dE:=aG.o _ (bA.trans aF);have dD:=dl.on (Fr.ext aF);have u:=ai dE dD;clear aF hU al s bb aY aU a3 Z O hx e4 bO dE dD;go_upto_region 17 with(fail);refine tX (fun _=>False) [7,14] (.held 0 (.free 1 (.free 2 (.held 3 (.free 4 (.free 5 (.held 6 (.pick [7,13] (fun i=>bif i == 7 then .free 8 (.free 9 (.free 10 (.free 11 (.free 12 (.pick [13] (fun _=>.pick [14] (fun _=>.free 15 (.free 16 (.free 17 (.stop)))))))))) else .pick [7] (fun _=>.free 8 (.free 9 (.free 10 (.free 11 (.free 12 (.pick [14] (fun _=>.free 15 (.free 16 (.free 17 (.stop))))))))))))))))))) ?_;refine th ?_
     iterate 2 refine tf ?_
     refine th ?_
     iterate 2 refine tf ?_
     refine th ?_;clear a0 ap ak c0 cL b0;refine wj (P:=?IJ) (ops:=?IT) (Q:=?IU) (R:=?IW) (tails:=?IX) (rest:=.pick [14] (fun _=>.free 15 (.free 16 (.free 17 (.stop))))) (aa:=?IK)
      (C:=fun(db:Nat) (cj:Kr) (bc rc:Nat) (bp:Kr) (bQ a7:Nat) dz=>Ext wr dz∧af dz db 115 #[.string ⟨#[]⟩,.int .i64 0,.int .i64 0,.int .i64 0,.slice none 0 0]∧wr.heap.size≤db∧(fN (dY p f)).rep dz (fun b=>wr.heap.size≤b∧b<dz.heap.size∧b≠db) [.string (dY p f).name,.int .i64 (dY p f).ints,.int .i64 (dY p f).aw,.int .i64 (dY p f).locals,.slice cj bc rc]) (fun key=>?HG) ?HC
     case HG=>
      refine bq ?_ ?_
      ·
       refine bS rfl (fun K hK=>?_) rfl;go_simp;refine(dc.o f (JT aP.1) GA gn gc MA mn mc (some ⟨b2,cE,none⟩) fn fc bj (ba p).length lc QA ca qc I ac U wr.drew ⟨u.1.g.on (Fr.ext Kn.drew),u.1.m.on (Fr.ext Kn.drew),u.1.f.on (Fr.ext Kn.drew)⟩ (u.2.on (Fr.ext Kn.drew)) (aP.2.1.on (Fr.ext Kn.drew)) (aP.2.2.on (Fr.ext Kn.drew))).mono ?_;rintro e aN ⟨cj,bc,rc,bp,bQ,a7,rfl,L,ar⟩;refine eD hK ?_;clear hK K
       iterate 5 refine tf ?_
       refine ao ?_;refine eZ ?_;have F:Ext wr (aN.alloc (.cells #[.string ⟨#[]⟩,.int .i64 0,.int .i64 0,.int .i64 0,.slice none 0 0] 115))∧af (aN.alloc (.cells #[.string ⟨#[]⟩,.int .i64 0,.int .i64 0,.int .i64 0,.slice none 0 0] 115)) aN.heap.size 115 #[.string ⟨#[]⟩,.int .i64 0,.int .i64 0,.int .i64 0,.slice none 0 0]∧wr.heap.size≤aN.heap.size∧(fN (dY p f)).rep (aN.alloc (.cells #[.string ⟨#[]⟩,.int .i64 0,.int .i64 0,.int .i64 0,.slice none 0 0] 115)) (fun b=>wr.heap.size≤b∧b<(aN.alloc (.cells #[.string ⟨#[]⟩,.int .i64 0,.int .i64 0,.int .i64 0,.slice none 0 0] 115)).heap.size∧b≠aN.heap.size) [.string (dY p f).name,.int .i64 (dY p f).ints,.int .i64 (dY p f).aw,.int .i64 (dY p f).locals,.slice cj bc rc]:=
        ⟨(Fr.aO ar).alloc _,Ko,(Fr.aO ar).size,D.aF (fun b O=>⟨O.1,by have:=O.2;simp;omega,by have:=O.2;omega⟩) _ _ (D.aN (fun b O=>Below.heap_alloc aN _ b O.2) _ _ L)⟩
       clear L ar;revert F;generalize aN.heap.size=db;intro F;exact key db cj bc rc bp bQ a7 _ F
      ·
       refine eZ ?_;generalize hV:World.alloc _ _=T;have cG:Ext wr T:=hV▸Kn.alloc _;have aY:af T wr.heap.size 115 #[.string ⟨#[]⟩,.int .i64 0,.int .i64 0,.int .i64 0,.slice none 0 0]:=hV▸Ko;clear hV;refine ao ?_;refine bS rfl (fun K hK=>?_) rfl;go_simp;refine(dc.o f (JT aP.1) GA gn gc MA mn mc (some ⟨b2,cE,none⟩) fn fc bj (ba p).length lc QA ca qc I ac U T.drew ⟨u.1.g.on (Fr.ext cG.drew),u.1.m.on (Fr.ext cG.drew),u.1.f.on (Fr.ext cG.drew)⟩ (u.2.on (Fr.ext cG.drew)) (aP.2.1.on (Fr.ext cG.drew)) (aP.2.2.on (Fr.ext cG.drew))).mono ?_;rintro e aN ⟨cj,bc,rc,bp,bQ,a7,rfl,L,ar⟩;refine eD hK ?_;clear hK K
       iterate 5 refine tf ?_
       have cl:=aY.lt;have F:Ext wr aN∧af aN wr.heap.size 115 #[.string ⟨#[]⟩,.int .i64 0,.int .i64 0,.int .i64 0,.slice none 0 0]∧wr.heap.size≤wr.heap.size∧(fN (dY p f)).rep aN (fun b=>wr.heap.size≤b∧b<aN.heap.size∧b≠wr.heap.size) [.string (dY p f).name,.int .i64 (dY p f).ints,.int .i64 (dY p f).aw,.int .i64 (dY p f).locals,.slice cj bc rc]:=
        ⟨cG.trans (Fr.aO ar),aY.ak (Fr.aO ar),JQ _,D.aF (fun b O=>⟨by have ae:T.heap.size≤b:=O.1;omega,O.2,by have ae:T.heap.size≤b:=O.1;omega⟩) _ _ L⟩
       clear L ar cG aY cl;exact key wr.heap.size cj bc rc bp bQ a7 _ F
     case HC=>
      rintro db cj bc rc bp bQ a7 dz ⟨dq,aK,c7,L⟩;obtain⟨d0,ag,aR⟩:=aK.two;have ax:=aQ dq aK L;clear dq aK L;refine ao ?_;refine bS rfl (fun K hK=>?_) rfl;go_simp;refine eD hK ?_;clear hK K
      iterate 3 refine tf ?_
      refine cw ?_;generalize hX:World.setCell _ _ _=dv;obtain⟨dq,aK,L⟩:=ax.o;obtain⟨aY,a4,az⟩:=cb (w:=wr) [.string (dY p f).name,.int .i64 (dY p f).ints,.int .i64 (dY p f).aw,.int .i64 (dY p f).locals,.slice cj bc rc] (by rfl) aK dq c7 hX;have cC:=b9.2.1.ak a4;have b6:=b9.2.2.2.2.1.ak a4;have cN:∀b,(Value.slice A k c).ownBlock=some b→b<wr.heap.size:=fun b O=>(b9.2.2.2.2.1.lt O).2;have dS:=az.size;have d1:=a4.size;have hd:(fN (dY p f)).rep dv (lg (fun b=>av≤b) dv (.slice A k c)) [.string (dY p f).name,.int .i64 (dY p f).ints,.int .i64 (dY p f).aw,.int .i64 (dY p f).locals,.slice cj bc rc]:=
       D.aF (fun b O=>⟨by have:=O.1;omega,by have:=O.2.1;omega,fun hc=>by have:=cN b hc;have:=O.1;omega⟩) _ _ (D.aN (fun b O=>az.block b O.2.1 O.2.2) _ _ L)
      have z:=aQ a4 b6 hd;clear hX dq aK L az b6 hd d0 ag aR ax cN a4;obtain⟨d0,ag,aR⟩:=aY.two;obtain⟨a6,am,aI⟩:=cC.two;have dK:=ad cC;clear aY cC;go_wp2_with((at_builtin;refine bR Gi rfl (.tmp 106) (.tmp 108) rfl z.2.1 z.2.2 rfl rfl rfl ab ab ab ?_;intro cf c3 cp an ay b8 bJ;have cX:=dK.on ay (fun O=>by have:=(z.2.1.lt O).1;omega);clear a6 am aI d0 ag aR;obtain⟨a6,am,aI⟩:=cX.two;have dN:=ad cX;clear cX));generalize hX:World.setCell _ _ _=bT;have cr:Fr (fun b=>b=r) cp bT:=hX▸(Fr.refl (fun b=>b=r) cp).setCell (.inl rfl) _;have a4:=z.1;have j:∀b,(Value.slice A k c).ownBlock=some b→av≤b:=fun b O=>(z.2.1.lt O).1;have dI:(((p.funcs.take (k+1)).map (dY p)).map fN)=((p.funcs.take k).map (dY p)).map fN++[fN (dY p f)]:=by rw[a9 aP.1,JX,JX];rfl
      have q1:Ext V bT:=Fr.low (M:=fun b=>V.heap.size≤b) (((b9.1.trans a4).mono fun _ h=>h.elim).trans ((ay.mono fun b O=>by have:=j b O;omega).trans (cr.mono fun b O=>ab))) fun _ h=>h;have cB:af bT r 26 #[.slice ce gn c1,.slice A2 mn bE,.slice cf (k+1) c3,.int .i64 mi]:=hX▸dN.aC 2 _;have cv:=((b9.2.2.1.ak a4).c7 ay.size fun b aw hp=>ay.block b aw fun he=>by
       rcases hp with hp|hp
       ·exact hp.elim
       ·have:=j b he;have:=(cD.o b hp).2;omega).c7 cr.size fun b aw hp=>cr.block b aw fun he=>by
       rcases hp with hp|hp
       ·exact hp.elim
       ·exact(cD.o b hp).1 he
      have cF:=((b9.2.2.2.1.ak a4).c7 ay.size fun b aw hp=>ay.block b aw fun he=>by
       rcases hp with hp|hp
       ·exact hp.elim
       ·have:=j b he;have:=(c4.o b hp).2;omega).c7 cr.size fun b aw hp=>cr.block b aw fun he=>by
       rcases hp with hp|hp
       ·exact hp.elim
       ·exact(c4.o b hp).1 he
      have q5:Gr (fun b=>av≤b) av 115 5 bT cf (k+1) c3 (((p.funcs.take (k+1)).map (dY p)).map fN):=by
       rw[dI];exact an.c7 cr.size fun b aw hp=>cr.block b aw fun he=>by
        rcases hp with hp|hp
        ·omega
        ·have:=(an.lt hp).1;omega
      have dg:av≤bT.heap.size:=by have ae:=a4.size;have aC:=ay.size;have aT:=cr.size;omega
      have aX:=dQ q1 cB cv cF q5 dg;clear q1 cB cv cF q5 dg an ay b8 a4 cr hX j dI a6 am aI;exact yT
    ·obtain rfl:fn=k:=ab;rw[JY (by rw[bK.2.2];exact JQ _)] at bb;have bC:=bx.ak aF;have dX:w.heap.size+1<V.heap.size:=bx.lt;have cm:=ad hU;obtain⟨a6,am,aI⟩:=hU.two;obtain⟨d0,ag,aR⟩:=bC.two;obtain⟨c9,dd⟩:=aM bC bb;clear aF hU al s bb aY bC;go_wp2;generalize hX:World.setCell _ _ _=gF;obtain⟨gi,cT,bm⟩:=cb (w:=w) [.slice ce gn c1,.slice A2 mn bE,.slice A fn c,.int .i64 mi] (by rfl) c9.o (bA.trans b9.1) (Nat.le_succ _) hX;obtain⟨bv,bd,be⟩:=gi.two;clear a6 am aI d0 ag aR a0 ap ak;refine Km (v:=.tuple #[.agg #[.slice ce gn c1,.slice A2 mn bE,.slice A fn c,.int .i64 mi],.int .i64 0,.int .i64 0,.int .i64 0]) (by simp[results,Tryz.results41,go_sem,bv]) rfl ?_;have bk:(fU p).main=(mi:Int):=by
      show iY (ba p) ij=_
      unfold iY;rw[show ij=⟨#[109,97,105,110]⟩ from rfl,cM.o]
     have fa:=bA.size;have d2:=bm.size;have bi:∀b,V.heap.size≤b→b<wr.heap.size→gF.heap[b]?=wr.heap[b]?:=fun b ae aC=>bm.block b aC ab;have cQ:=b9.2.2.1.c7 bm.size fun b aw hp=>by
      rcases hp with hp|hp
      ·exact hp.elim
      ·exact bi b (by have:=(b9.2.2.1.lt hp).1;omega) aw
     have cU:=b9.2.2.2.1.c7 bm.size fun b aw hp=>by
      rcases hp with hp|hp
      ·exact hp.elim
      ·exact bi b (by have:=(b9.2.2.2.1.lt hp).1;omega) aw
     have cH:=dd.c7 bm.size fun b aw hp=>by
      rcases hp with hp|hp
      ·exact bi b ab aw
      ·exact bi b (by have:=(dd.lt hp).1;omega) aw
     refine⟨ce,gn,c1,A2,mn,bE,A,fn,c,by rw[bk],?_,cT⟩;unfold ts;rw[bk,bu];exact aD.2 ⟨ce,gn,c1,_,rfl,cU.cap.1,cU.sl (fun b _ h=>h.elim) (fun b ae aC=>⟨ab,ae⟩),aD.2 ⟨A2,mn,bE,_,rfl,cQ.cap.1,cQ.sl (fun b _ h=>h.elim) (fun b ae aC=>⟨ab,ae⟩),
      aD.2 ⟨A,fn,c,_,rfl,cH.cap.1,cH.sl (fun b ae aC=>⟨ab,ae⟩) (fun b ae aC=>⟨ab,ae⟩),aZ.2 ⟨_,rfl,aJ.2 rfl⟩⟩⟩⟩
 ):p:=h
theorem g7(h:p:=by
 have aL:af W w.heap.size 71 #[.slice GA gn gc,.slice MA mn mc,.slice FA fn fc]:=bg▸(Ko).alloc _;have dy:af W (w.heap.size+1) 26 #[.slice none 0 0,.slice none 0 0,.slice none 0 0,.int .i64 0]:=bg▸af.ct _ _ _ (by simp);obtain⟨a2,bs,dj⟩:=ez aF aL dy;obtain⟨a0,ap,ak⟩:=aL.two;have dJ:∀(aN:World),Ext w aN→g1 aN (au aN) p GA gn MA mn FA fn:=fun _ he=>⟨cn.g.on (Fr.ext he),cn.m.on (Fr.ext he),cn.f.on (Fr.ext he)⟩
 have aG:=ad dJ;clear bg aF aL dy dJ;go_wp2_with(fail);refine(E1 p b4.o GA gn gc MA mn mc FA fn fc W (aG.o _ a2.o)).mono ?_;rintro e aN ⟨rfl,ar⟩;have br:=ad (a2.trans ar);have b3:=bs.ak ar;have G:=ad b3;have c5:=ad (dj.ak ar);clear a0 ap ak ar;obtain⟨a0,ap,ak⟩:=b3.two;clear b3;go_wp2_with(fail);refine(sa p b4.o GA gn gc MA mn mc FA fn fc aN (aG.o _ br.o)).mono ?_;rintro e aO ⟨bj,lc,rfl,y,bI⟩;have J:=ad (br.trans bI);have bH:=G.ak bI;have bY:=ad bH;have c6:=ad (c5.ak bI);have cc:Sl aO (au aO) bj (ba p).length ((ba p).map bN):=y.mono fun b O=>O.2;have cd:=ad cc;clear a0 ap ak bI y cc;obtain⟨a0,ap,ak⟩:=bH.two;clear bH;go_wp2_with(fail);refine(dM bj (ba p).length lc (ba p) ⟨#[109,97,105,110]⟩ aO cd.o (aH dL.o)).mono ?_;rintro e bU ⟨rfl,bX⟩;rw[cM.o];simp only[iK,qE];have bl:=ad (J.trans bX);have bz:=ad (bY.ak bX);have c8:=ad (c6.ak bX);have dh:=ad (cd.on (Fr.ext bX));clear a0 ap ak bX;go_upto_region 7 with(fail);generalize hV:World.alloc _ _=V;have t:Ext bU V:=hV▸Kn.alloc _;have cK:af V bU.heap.size 153 #[.string ⟨#[109,97,105,110]⟩,.int .i64 3,.int .i64 mi]:=hV▸Ko;have bA:=ad (bl.trans t);have bG:=bz.ak t;have bD:=ad bG;have bx:=ad (c8.ak t);have dl:=ad (dh.on (Fr.ext t));have dT:=ad cK;obtain⟨b2,cE,bP,cs,rfl,a5,b1,H,cV,cx⟩:=(aG.o _ bA.o).f.gN mV ct;rw[dn.1] at b1;injection b1 with b1;subst b1;obtain⟨PA,pn,pc,f0,bn,eL,rfl,cW,cu,ch,_⟩:=kL.1 H;have f4:=cx 1 _ rfl;have cP:b2<V.heap.size:=a5;obtain rfl:0=pn:=by have:=ch.1;rw[dn.2] at this;exact this
 clear hV t H cV cx ch a5;obtain⟨a0,ap,ak⟩:=bG.two;obtain⟨a6,am,aI⟩:=cK.two;clear bG cK;go_upto_region 9 with(fail);have cS:=ad (aG.o _ bA.o).m;obtain⟨cO,dr⟩:∃N,N=V.heap.size:=⟨_,rfl⟩
 have gw:¬cO≤w.heap.size:=ab;have gx:¬cO≤bU.heap.size:=ab;clear f4 cP;refine tX (fun b=>cO≤b) [8] (.free 0 (.held 1 (.free 3 (.held 4 (.pick [2,7] (fun i=>bif i == 2 then .pick [5,7] (fun i=>bif i == 5 then .free 6 (.pick [7] (fun _=>.pick [8] (fun _=>.stop))) else .pick [5] (fun _=>.free 6 (.pick [8] (fun _=>.stop)))) else .pick [2] (fun _=>.pick [5] (fun _=>.free 6 (.pick [8] (fun _=>.stop)))))))))) ?_;refine tf ?_;refine n8 ?_;refine tf ?_;refine n8 ?_;clear a0 ap ak a6 am aI;refine ix (P:=?oK) (ops:=?G4) (Q:=?G6) (R:=?G7) (tails:=?G8) (rest:=.pick [8] (fun _=>.stop)) (aa:=?G3)
  (C:=fun(_:Nat) r A2 bE dz=>Ext V dz∧Gr (fun _=>False) cO 125 3 dz A2 mn bE (p.ae.map dZ)∧af dz r 26 #[.slice none 0 0,.slice none 0 0,.slice none 0 0,.int .i64 0]∧(Value.slice A2 mn bE).ownBlock≠some r∧cO≤r) (fun key=>?x6) ?xZ
 case x6=>
  refine bq ?_ ?_
  ·
   refine eZ ?_;generalize hV:World.drew (World.alloc _ _)=T;have e1:Ext V T:=hV▸(Kn.alloc _).drew;have cI:Gr (fun _=>False) cO 125 3 T (some ⟨V.heap.size,0,none⟩) 0 0 []:=by rw[←hV,dr];exact(Gr.lit (w:=V) (n:=0) (l:=[]) rfl (by rfl) ab (by simp only[D.aI])).ak Kn.drew
   clear hV;refine bq ?_ ?_
   ·
    refine aE rfl (fun K hK=>?_) rfl;rw[if_pos (by rfl)];refine jc lD (.tmp 56) (.tmp 58) (by rfl) cI (pI p.ae) cS.1 (ss (cS.on (Fr.ext e1))) (fun h=>by subst h;exact Sl.none_ cS.o) (by rfl) (by rfl) ab ab (by rw[dr];exact e1.size) ?_;intro A2 bE cp b7 f1 o1 c1;refine dW hK (f1.mono fun b O=>ab) ?_;clear hK K;refine tf ?_;refine ao ?_;refine eZ ?_;have e2:Ext V cp:=Fr.low (M:=fun b=>V.heap.size≤b) ((e1.mono fun _ h=>h.elim).trans (f1.mono fun b O=>ab)) fun _ h=>h;have F:Ext V (cp.alloc (.cells #[.slice none 0 0,.slice none 0 0,.slice none 0 0,.int .i64 0] 26))∧Gr (fun _=>False) cO 125 3 (cp.alloc (.cells #[.slice none 0 0,.slice none 0 0,.slice none 0 0,.int .i64 0] 26)) A2 mn bE (p.ae.map dZ)∧af (cp.alloc (.cells #[.slice none 0 0,.slice none 0 0,.slice none 0 0,.int .i64 0] 26)) cp.heap.size 26 #[.slice none 0 0,.slice none 0 0,.slice none 0 0,.int .i64 0]∧(Value.slice A2 mn bE).ownBlock≠some cp.heap.size∧cO≤cp.heap.size:=
     ⟨e2.alloc _,b7.ak (Kn.alloc _),Ko,fun O=>by have:=(b7.lt O).2;omega,by have:=e2.size;omega⟩
    clear b7 cI f1 o1 e1 e2;revert F;generalize cp.heap.size=r;generalize V.heap.size=df;intro F;exact key df r A2 bE _ F
   ·
    refine eZ ?_;generalize hV:World.alloc _ _=dO;have e2:Ext T dO:=hV▸Kn.alloc _;have a8:af dO T.heap.size 26 #[.slice none 0 0,.slice none 0 0,.slice none 0 0,.int .i64 0]:=hV▸Ko;have dB:V.heap.size<T.heap.size:=(cI.lt (g:=V.heap.size) rfl).2;clear hV;refine ao ?_;refine aE rfl (fun K hK=>?_) rfl;rw[if_pos (by rfl)];refine jc lD (.tmp 56) (.tmp 58) (by rfl) (cI.ak e2) (pI p.ae) cS.1 (ss (cS.on (Fr.ext (e1.trans e2)))) (fun h=>by subst h;exact Sl.none_ cS.o) (by rfl) (by rfl) ab ab (by rw[dr];exact(e1.trans e2).size) ?_;intro A2 bE cp b7 f1 o1 c1;refine dW hK (f1.mono fun b O=>ab) ?_;clear hK K;refine tf ?_;have e3:Ext V cp:=Fr.low (M:=fun b=>V.heap.size≤b) (((e1.trans e2).mono fun _ h=>h.elim).trans (f1.mono fun b O=>ab)) fun _ h=>h;have dH:=a8.lt;have F:Ext V cp∧Gr (fun _=>False) cO 125 3 cp A2 mn bE (p.ae.map dZ)∧af cp T.heap.size 26 #[.slice none 0 0,.slice none 0 0,.slice none 0 0,.int .i64 0]∧(Value.slice A2 mn bE).ownBlock≠some T.heap.size∧cO≤T.heap.size:=⟨e3,b7,a8.on f1 ab,fun O=>by
     rcases o1 _ O with h|h
     ·omega
     ·omega,ab⟩
    clear b7 cI f1 o1 e1 e2 e3 a8 dB dH;revert F;generalize T.heap.size=r;generalize V.heap.size=df;intro F;exact key df r A2 bE _ F
  ·
   refine eZ ?_;generalize hV:World.drew (World.alloc _ _)=T;have e1:Ext V T:=hV▸(Kn.alloc _).drew;have a8:af T V.heap.size 26 #[.slice none 0 0,.slice none 0 0,.slice none 0 0,.int .i64 0]:=hV▸(Ko).drew;clear hV;refine ao ?_;refine eZ ?_;generalize hV:World.alloc _ _=dO;have e2:Ext T dO:=hV▸Kn.alloc _;have cI:Gr (fun _=>False) T.heap.size 125 3 dO (some ⟨T.heap.size,0,none⟩) 0 0 []:=hV▸Gr.lit (w:=T) (n:=0) (l:=[]) rfl (by rfl) ab (by simp only[D.aI]);have da:=a8.ak e2;have dB:V.heap.size<T.heap.size:=a8.lt;have dx:T.heap.size≤dO.heap.size:=e2.size;clear hV a8;refine ao ?_;refine aE rfl (fun K hK=>?_) rfl;rw[if_pos (by rfl)];refine jc lD (.tmp 56) (.tmp 58) (by rfl) cI (pI p.ae) cS.1 (ss (cS.on (Fr.ext (e1.trans e2)))) (fun h=>by subst h;exact Sl.none_ cS.o) (by rfl) (by rfl) ab ab dx ?_;intro A2 bE cp b7 f1 o1 c1;refine dW hK (f1.mono fun b O=>ab) ?_;clear hK K;refine tf ?_;have e3:Ext V cp:=Fr.low (M:=fun b=>V.heap.size≤b) (((e1.trans e2).mono fun _ h=>h.elim).trans (f1.mono fun b O=>ab)) fun _ h=>h;have F:Ext V cp∧Gr (fun _=>False) cO 125 3 cp A2 mn bE (p.ae.map dZ)∧af cp V.heap.size 26 #[.slice none 0 0,.slice none 0 0,.slice none 0 0,.int .i64 0]∧(Value.slice A2 mn bE).ownBlock≠some V.heap.size∧cO≤V.heap.size:=⟨e3,b7.base ab,da.on f1 ab,fun O=>by have:=(b7.lt O).1;omega,ab⟩
   clear b7 cI f1 o1 e1 e2 e3 da dB dx;revert F;generalize T.heap.size=df;generalize V.heap.size=r;intro F;exact key df r A2 bE _ F
 case xZ=>
  rintro df r A2 bE Y ⟨dt,du,bt,a1,dV⟩;obtain⟨a6,am,aI⟩:=bt.two;have bM:=bw dt du bt a1;clear dt du bt a1;exact g8
 ):p:=h
theorem rZ(h:p:=by
 have bF:(ba p).length≤100:=by rw[kJ];omega
 obtain⟨mi,bV,aS,fJ,cJ⟩:=hp.main;have bh:dk (ba p) ⟨#[109,97,105,110]⟩=some ⟨⟨#[109,97,105,110]⟩,3,(mi:Int)⟩:=by
  have:=kS (ny hp) (JT (w3 aS));rw[fJ] at this;exact this
 have ct:mi<fn:=by have:=(List.getElem?_eq_some_iff.1 aS).1;omega
 obtain⟨cn,b4,dc,cM⟩:=iF h hp dC bh;have dn:=ai aS cJ;have bK:=aQ di lm lf;have dL:=ad bF;clear h hp dC bh aS fJ cJ di lm lf bF;go_enter func41,ntmps41;exact g6
 ):p:=h
end BG
open BG in
theorem x3(p:bB)(hp:oE p)(dC:Hd p)(GA:Kr)(gn gc:Nat)(MA:Kr)(mn mc:Nat)(FA:Kr)(fn fc:Nat)(w:World)(h:g1 w (au w) p GA gn MA mn FA fn) :
  Calls prog 41 #[.agg #[.slice GA gn gc,.slice MA mn mc,.slice FA fn fc]] w (wG w (fU p)):=by
 have di:p.globals.length=gn:=by rw[←h.g.1,JU]
 have lm:p.ae.length=mn:=by rw[←h.m.1,JU]
 have lf:p.funcs.length=fn:=by rw[←h.f.1,JU]
 have cy:gn≤16:=by have:=hp.pK;omega
 have co:mn≤12:=by have:=hp.x9;omega
 have ds:fn≤16:=by have:=hp.Ep;omega
 have bF:(ba p).length≤100:=by rw[kJ];omega
 obtain⟨mi,bV,aS,fJ,cJ⟩:=hp.main;have bh:dk (ba p) ⟨#[109,97,105,110]⟩=some ⟨⟨#[109,97,105,110]⟩,3,(mi:Int)⟩:=by
  have:=kS (ny hp) (JT (w3 aS));rw[fJ] at this;exact this
 have ct:mi<fn:=by have:=(List.getElem?_eq_some_iff.1 aS).1;omega
 obtain⟨cn,b4,dc,cM⟩:=iF h hp dC bh;have dn:=ai aS cJ;have bK:=aQ di lm lf;have dL:=ad bF;clear h hp dC bh aS fJ cJ di lm lf bF;go_enter func41,ntmps41
 go_upto_region 1 with(fail);generalize bg:World.alloc _ _=W;have aF:Ext w W:=bg▸(Kn.alloc _).alloc _
 have aL:af W w.heap.size 71 #[.slice GA gn gc,.slice MA mn mc,.slice FA fn fc]:=bg▸(Ko).alloc _;have dy:af W (w.heap.size+1) 26 #[.slice none 0 0,.slice none 0 0,.slice none 0 0,.int .i64 0]:=bg▸af.ct _ _ _ (by simp);obtain⟨a2,bs,dj⟩:=ez aF aL dy;obtain⟨a0,ap,ak⟩:=aL.two;have dJ:∀(aN:World),Ext w aN→g1 aN (au aN) p GA gn MA mn FA fn:=fun _ he=>⟨cn.g.on (Fr.ext he),cn.m.on (Fr.ext he),cn.f.on (Fr.ext he)⟩
 have aG:=ad dJ;clear bg aF aL dy dJ;go_wp2_with(fail);refine(E1 p b4.o GA gn gc MA mn mc FA fn fc W (aG.o _ a2.o)).mono ?_;rintro e aN ⟨rfl,ar⟩;have br:=ad (a2.trans ar);have b3:=bs.ak ar;have G:=ad b3;have c5:=ad (dj.ak ar);clear a0 ap ak ar;obtain⟨a0,ap,ak⟩:=b3.two;clear b3;go_wp2_with(fail);refine(sa p b4.o GA gn gc MA mn mc FA fn fc aN (aG.o _ br.o)).mono ?_;rintro e aO ⟨bj,lc,rfl,y,bI⟩;have J:=ad (br.trans bI);have bH:=G.ak bI;have bY:=ad bH;have c6:=ad (c5.ak bI);have cc:Sl aO (au aO) bj (ba p).length ((ba p).map bN):=y.mono fun b O=>O.2;have cd:=ad cc;clear a0 ap ak bI y cc;obtain⟨a0,ap,ak⟩:=bH.two;clear bH;go_wp2_with(fail);refine(dM bj (ba p).length lc (ba p) ⟨#[109,97,105,110]⟩ aO cd.o (aH dL.o)).mono ?_;rintro e bU ⟨rfl,bX⟩;rw[cM.o];simp only[iK,qE];have bl:=ad (J.trans bX);have bz:=ad (bY.ak bX);have c8:=ad (c6.ak bX);have dh:=ad (cd.on (Fr.ext bX));clear a0 ap ak bX;go_upto_region 7 with(fail);generalize hV:World.alloc _ _=V;have t:Ext bU V:=hV▸Kn.alloc _;have cK:af V bU.heap.size 153 #[.string ⟨#[109,97,105,110]⟩,.int .i64 3,.int .i64 mi]:=hV▸Ko;have bA:=ad (bl.trans t);have bG:=bz.ak t;have bD:=ad bG;have bx:=ad (c8.ak t);have dl:=ad (dh.on (Fr.ext t));have dT:=ad cK;obtain⟨b2,cE,bP,cs,rfl,a5,b1,H,cV,cx⟩:=(aG.o _ bA.o).f.gN mV ct;rw[dn.1] at b1;injection b1 with b1;subst b1;obtain⟨PA,pn,pc,f0,bn,eL,rfl,cW,cu,ch,_⟩:=kL.1 H;have f4:=cx 1 _ rfl;have cP:b2<V.heap.size:=a5;obtain rfl:0=pn:=by have:=ch.1;rw[dn.2] at this;exact this
 clear hV t H cV cx ch a5;obtain⟨a0,ap,ak⟩:=bG.two;obtain⟨a6,am,aI⟩:=cK.two;clear bG cK;go_upto_region 9 with(fail);have cS:=ad (aG.o _ bA.o).m;obtain⟨cO,dr⟩:∃N,N=V.heap.size:=⟨_,rfl⟩
 have gw:¬cO≤w.heap.size:=ab;have gx:¬cO≤bU.heap.size:=ab;clear f4 cP;refine tX (fun b=>cO≤b) [8] (.free 0 (.held 1 (.free 3 (.held 4 (.pick [2,7] (fun i=>bif i == 2 then .pick [5,7] (fun i=>bif i == 5 then .free 6 (.pick [7] (fun _=>.pick [8] (fun _=>.stop))) else .pick [5] (fun _=>.free 6 (.pick [8] (fun _=>.stop)))) else .pick [2] (fun _=>.pick [5] (fun _=>.free 6 (.pick [8] (fun _=>.stop)))))))))) ?_;refine tf ?_;refine n8 ?_;refine tf ?_;refine n8 ?_;clear a0 ap ak a6 am aI;refine ix (P:=?oK) (ops:=?G4) (Q:=?G6) (R:=?G7) (tails:=?G8) (rest:=.pick [8] (fun _=>.stop)) (aa:=?G3)
  (C:=fun(_:Nat) r A2 bE dz=>Ext V dz∧Gr (fun _=>False) cO 125 3 dz A2 mn bE (p.ae.map dZ)∧af dz r 26 #[.slice none 0 0,.slice none 0 0,.slice none 0 0,.int .i64 0]∧(Value.slice A2 mn bE).ownBlock≠some r∧cO≤r) (fun key=>?x6) ?xZ
 case x6=>
  refine bq ?_ ?_
  ·
   refine eZ ?_;generalize hV:World.drew (World.alloc _ _)=T;have e1:Ext V T:=hV▸(Kn.alloc _).drew;have cI:Gr (fun _=>False) cO 125 3 T (some ⟨V.heap.size,0,none⟩) 0 0 []:=by rw[←hV,dr];exact(Gr.lit (w:=V) (n:=0) (l:=[]) rfl (by rfl) ab (by simp only[D.aI])).ak Kn.drew
   clear hV;refine bq ?_ ?_
   ·
    refine aE rfl (fun K hK=>?_) rfl;rw[if_pos (by rfl)];refine jc lD (.tmp 56) (.tmp 58) (by rfl) cI (pI p.ae) cS.1 (ss (cS.on (Fr.ext e1))) (fun h=>by subst h;exact Sl.none_ cS.o) (by rfl) (by rfl) ab ab (by rw[dr];exact e1.size) ?_;intro A2 bE cp b7 f1 o1 c1;refine dW hK (f1.mono fun b O=>ab) ?_;clear hK K;refine tf ?_;refine ao ?_;refine eZ ?_;have e2:Ext V cp:=Fr.low (M:=fun b=>V.heap.size≤b) ((e1.mono fun _ h=>h.elim).trans (f1.mono fun b O=>ab)) fun _ h=>h;have F:Ext V (cp.alloc (.cells #[.slice none 0 0,.slice none 0 0,.slice none 0 0,.int .i64 0] 26))∧Gr (fun _=>False) cO 125 3 (cp.alloc (.cells #[.slice none 0 0,.slice none 0 0,.slice none 0 0,.int .i64 0] 26)) A2 mn bE (p.ae.map dZ)∧af (cp.alloc (.cells #[.slice none 0 0,.slice none 0 0,.slice none 0 0,.int .i64 0] 26)) cp.heap.size 26 #[.slice none 0 0,.slice none 0 0,.slice none 0 0,.int .i64 0]∧(Value.slice A2 mn bE).ownBlock≠some cp.heap.size∧cO≤cp.heap.size:=
     ⟨e2.alloc _,b7.ak (Kn.alloc _),Ko,fun O=>by have:=(b7.lt O).2;omega,by have:=e2.size;omega⟩
    clear b7 cI f1 o1 e1 e2;revert F;generalize cp.heap.size=r;generalize V.heap.size=df;intro F;exact key df r A2 bE _ F
   ·
    refine eZ ?_;generalize hV:World.alloc _ _=dO;have e2:Ext T dO:=hV▸Kn.alloc _;have a8:af dO T.heap.size 26 #[.slice none 0 0,.slice none 0 0,.slice none 0 0,.int .i64 0]:=hV▸Ko;have dB:V.heap.size<T.heap.size:=(cI.lt (g:=V.heap.size) rfl).2;clear hV;refine ao ?_;refine aE rfl (fun K hK=>?_) rfl;rw[if_pos (by rfl)];refine jc lD (.tmp 56) (.tmp 58) (by rfl) (cI.ak e2) (pI p.ae) cS.1 (ss (cS.on (Fr.ext (e1.trans e2)))) (fun h=>by subst h;exact Sl.none_ cS.o) (by rfl) (by rfl) ab ab (by rw[dr];exact(e1.trans e2).size) ?_;intro A2 bE cp b7 f1 o1 c1;refine dW hK (f1.mono fun b O=>ab) ?_;clear hK K;refine tf ?_;have e3:Ext V cp:=Fr.low (M:=fun b=>V.heap.size≤b) (((e1.trans e2).mono fun _ h=>h.elim).trans (f1.mono fun b O=>ab)) fun _ h=>h;have dH:=a8.lt;have F:Ext V cp∧Gr (fun _=>False) cO 125 3 cp A2 mn bE (p.ae.map dZ)∧af cp T.heap.size 26 #[.slice none 0 0,.slice none 0 0,.slice none 0 0,.int .i64 0]∧(Value.slice A2 mn bE).ownBlock≠some T.heap.size∧cO≤T.heap.size:=⟨e3,b7,a8.on f1 ab,fun O=>by
     rcases o1 _ O with h|h
     ·omega
     ·omega,ab⟩
    clear b7 cI f1 o1 e1 e2 e3 a8 dB dH;revert F;generalize T.heap.size=r;generalize V.heap.size=df;intro F;exact key df r A2 bE _ F
  ·
   refine eZ ?_;generalize hV:World.drew (World.alloc _ _)=T;have e1:Ext V T:=hV▸(Kn.alloc _).drew;have a8:af T V.heap.size 26 #[.slice none 0 0,.slice none 0 0,.slice none 0 0,.int .i64 0]:=hV▸(Ko).drew;clear hV;refine ao ?_;refine eZ ?_;generalize hV:World.alloc _ _=dO;have e2:Ext T dO:=hV▸Kn.alloc _;have cI:Gr (fun _=>False) T.heap.size 125 3 dO (some ⟨T.heap.size,0,none⟩) 0 0 []:=hV▸Gr.lit (w:=T) (n:=0) (l:=[]) rfl (by rfl) ab (by simp only[D.aI]);have da:=a8.ak e2;have dB:V.heap.size<T.heap.size:=a8.lt;have dx:T.heap.size≤dO.heap.size:=e2.size;clear hV a8;refine ao ?_;refine aE rfl (fun K hK=>?_) rfl;rw[if_pos (by rfl)];refine jc lD (.tmp 56) (.tmp 58) (by rfl) cI (pI p.ae) cS.1 (ss (cS.on (Fr.ext (e1.trans e2)))) (fun h=>by subst h;exact Sl.none_ cS.o) (by rfl) (by rfl) ab ab dx ?_;intro A2 bE cp b7 f1 o1 c1;refine dW hK (f1.mono fun b O=>ab) ?_;clear hK K;refine tf ?_;have e3:Ext V cp:=Fr.low (M:=fun b=>V.heap.size≤b) (((e1.trans e2).mono fun _ h=>h.elim).trans (f1.mono fun b O=>ab)) fun _ h=>h;have F:Ext V cp∧Gr (fun _=>False) cO 125 3 cp A2 mn bE (p.ae.map dZ)∧af cp V.heap.size 26 #[.slice none 0 0,.slice none 0 0,.slice none 0 0,.int .i64 0]∧(Value.slice A2 mn bE).ownBlock≠some V.heap.size∧cO≤V.heap.size:=⟨e3,b7.base ab,da.on f1 ab,fun O=>by have:=(b7.lt O).1;omega,ab⟩
   clear b7 cI f1 o1 e1 e2 e3 da dB dx;revert F;generalize T.heap.size=df;generalize V.heap.size=r;intro F;exact key df r A2 bE _ F
 case xZ=>
  rintro df r A2 bE Y ⟨dt,du,bt,a1,dV⟩;obtain⟨a6,am,aI⟩:=bt.two;have bM:=bw dt du bt a1;clear dt du bt a1
  refine ao ?_;refine bS rfl (fun K hK=>?_) rfl;go_simp;refine eD hK ?_;clear hK K
  refine cw ?_;generalize hX:World.setCell _ _ _=X;obtain⟨dt,du,bt,a1⟩:=bM.o;obtain⟨cY,bo,bZ⟩:=cb (w:=V) [.slice none 0 0,.slice A2 mn bE,.slice none 0 0,.int .i64 mi] (by rfl) bt dt ab hX;have cz:=du.c7 bZ.size fun b aw hp=>bZ.block b aw fun he=>by
   subst he;rcases hp with hp|hp
   ·exact hp.elim
   ·exact a1 hp
  obtain⟨aV,ah⟩:∃N,N=X.heap.size:=⟨_,rfl⟩
  have bL:∀b,(Value.slice A2 mn bE).ownBlock=some b→b≠r∧b<aV:=fun b O=>⟨fun e=>a1 (by rw[←e];exact O),by have:=(cz.lt O).2;omega⟩
  have cD:=ad bL;have c2:=ad (show Ext V X∧af X r 26 #[.slice none 0 0,.slice A2 mn bE,.slice none 0 0,.int .i64 mi]∧Gr (fun _=>False) cO 125 3 X A2 mn bE (p.ae.map dZ)∧Gr (fun _=>False) aV 3 1 X none 0 0 (((p.globals.take 0).map (·.2)).map D.i)∧aV≤X.heap.size from ⟨bo,cY,cz,Gr.nil _ _ _ _ _,ab⟩);have dU:r<aV:=by have:=cY.lt;omega
  clear bM hX cY bo bZ cz dt du bt a1 bL a6 am aI;have b5:=bD.ak c2.1;obtain⟨a0,ap,ak⟩:=b5.two;clear b5;go_wp2;clear a0 ap ak;go_loopw [11] (fun cg wr=>∃(k:Nat) (A:Kr) (c:Nat),k≤gn∧cg=.int .i64 k∧Ext V wr∧af wr r 26 #[.slice A k c,.slice A2 mn bE,.slice none 0 0,.int .i64 mi]∧Gr (fun _=>False) cO 125 3 wr A2 mn bE (p.ae.map dZ)∧Gr (fun _=>False) aV 3 1 wr A k c (((p.globals.take k).map (·.2)).map D.i)∧aV≤wr.heap.size) (fun cg _=>gn - (intOf cg).toNat)
  case atStart=>exact⟨0,none,0,ab,rfl,c2.o⟩
  case round=>
   obtain⟨k,A,c,aj,rfl,aF,hU,al,s,cA⟩:=hrel;clear c2;have b9:=dA aF hU al s cA;have aY:=bD.ak aF;obtain⟨a0,ap,ak⟩:=aY.two;obtain⟨a6,am,aI⟩:=hU.two;by_cases aw:k<gn
   ·obtain⟨b,o,g,cs,rfl,O,hx,aU,a3,Z⟩:=(aG.o _ (bA.trans aF)).g.gN oi aw;obtain rfl:=mb.1 aU;have cL:=Z 1 _ rfl;have aW:b<wr.heap.size:=O;have aP:=ad hx;clear aF hU al s aY aU a3 Z O hx;go_wp2;refine eE (fun _=>False) [(0,3),(1,0),(2,3),(3,0),(4,3),(5,3),(6,3),(7,0),(8,1),(9,2),(10,3),(11,2)] ?_;refine pf ?_;refine ph ?_;refine pf ?_;refine ph ?_
    iterate 3 refine pf ?_
    refine ph ?_;refine ru ?_;generalize hV:World.drew (World.alloc _ _)=ck;have e1:Ext wr ck:=hV▸(Kn.alloc _).drew;have cR:af ck wr.heap.size 3 #[.int .i64 g.2]:=hV▸(Ko).drew;clear hV;refine aq rfl (fun K hK=>?_);rw[if_pos (by rfl)];refine eO dm (.tmp 69) (.tmp 76) (by rfl) (b9.2.2.2.1.ak e1) cR (show (D.i g.2).rep ck _ _ from by simp only[D.rep]) (by rfl) (by rfl) (by rfl) ab ab (aH e1.size) ?_;intro cf c3 ci an ay b8 bJ;have j:∀b,(Value.slice A k c).ownBlock=some b→aV≤b:=fun b O=>(b9.2.2.2.1.lt O).1;have bf:=(b9.2.1.ak e1).on ay fun O=>by have:=j _ O;omega
    have bW:=dA an ay b8 e1 bf;clear an ay b8 e1 cR a0 ap ak a6 am aI cL aW;obtain⟨a6,am,aI⟩:=bf.two;clear bf
    refine eD hK ?_;clear hK K;refine pf ?_;refine aq rfl (fun K hK=>?_);go_simp;refine eD hK ?_;clear hK K;refine aA ?_
    clear a6 am aI;generalize hX:World.setCell _ _ _=dp;have S:Fr (fun b=>b=r) ci dp:=hX▸(Fr.refl (fun b=>b=r) ci).setCell (.inl rfl) _;obtain⟨an,ay,b8,e1,bf⟩:=bW.o;have r1:Ext V dp:=Fr.low (M:=fun b=>V.heap.size≤b) (((b9.1.trans e1).mono fun _ h=>h.elim).trans ((ay.mono fun b O=>by have:=j b O;omega).trans (S.mono fun b O=>ab))) fun _ h=>h;have gE:af dp r 26 #[.slice cf (k+1) c3,.slice A2 mn bE,.slice none 0 0,.int .i64 mi]:=hX▸bf.aC 0 _;have eI:=((b9.2.2.1.ak e1).c7 ay.size fun b aw hp=>ay.block b aw fun he=>by
     rcases hp with hp|hp
     ·exact hp.elim
     ·have:=j b he;have:=(cD.o b hp).2;omega).c7 S.size fun b aw hp=>S.block b aw fun he=>by
     rcases hp with hp|hp
     ·exact hp.elim
     ·exact(cD.o b hp).1 he
    have gI:Gr (fun _=>False) aV 3 1 dp cf (k+1) c3 (((p.globals.take (k+1)).map (·.2)).map D.i):=by
     rw[a9 aP.o,JX,JX];exact an.c7 S.size fun b aw hp=>S.block b aw fun he=>by
      rcases hp with hp|hp
      ·exact hp.elim
      ·have:=(an.lt hp).1;omega
    have gO:aV≤dp.heap.size:=by have ae:=e1.size;have aC:=ay.size;have aT:=S.size;omega
    have aX:=dA r1 gE eI gI gO;clear r1 gE eI gI gO an ay b8 e1 bf S hX
    go_wp2;go_roundw
    case rel=>exact⟨k+1,cf,c3,ab,by go_num,aX.o⟩
    case measure=>exact aB
   ·obtain rfl:gn=k:=ab;rw[JY (by rw[bK.1];exact JQ _)] at s;obtain⟨av,cq⟩:∃N,N=wr.heap.size:=⟨_,rfl⟩
    have dF:=hU.lt;have dR:r<av:=ab;have cZ:∀b,(Value.slice A gn c).ownBlock=some b→b≠r∧b<av:=fun b O=>⟨by have:=(s.lt O).1;omega,by have:=(s.lt O).2;omega⟩
    have c4:=ad cZ;have dP:aV≤av:=ab;have de:=ad (show Ext V wr∧af wr r 26 #[.slice A gn c,.slice A2 mn bE,.slice none 0 0,.int .i64 mi]∧Gr (fun _=>False) cO 125 3 wr A2 mn bE (p.ae.map dZ)∧Gr (fun _=>False) aV 3 1 wr A gn c ((p.globals.map (·.2)).map D.i)∧Gr (fun b=>av≤b) av 115 5 wr none 0 0 (((p.funcs.take 0).map (dY p)).map fN)∧av≤wr.heap.size from ⟨aF,hU,al,s,Gr.nil _ _ _ _ _,ab⟩);clear b9 aF hU al s aY cZ dF a6 am aI aj aw;generalize A=ce at *;generalize c=c1 at *;go_wp2;clear a0 ap ak;go_loopw [12] (fun cg wr=>∃(k:Nat) (A:Kr) (c:Nat),k≤fn∧cg=.int .i64 k∧Ext V wr∧af wr r 26 #[.slice ce gn c1,.slice A2 mn bE,.slice A k c,.int .i64 mi]∧Gr (fun _=>False) cO 125 3 wr A2 mn bE (p.ae.map dZ)∧Gr (fun _=>False) aV 3 1 wr ce gn c1 ((p.globals.map (·.2)).map D.i)∧Gr (fun b=>av≤b) av 115 5 wr A k c (((p.funcs.take k).map (dY p)).map fN)∧av≤wr.heap.size) (fun cg _=>fn - (intOf cg).toNat)
    case atStart=>exact⟨0,none,0,ab,rfl,de.o⟩
    case round=>
     obtain⟨k,A,c,aj,rfl,aF,hU,al,s,bb,cA⟩:=hrel;clear de;have b9:=dQ aF hU al s bb cA;have aY:=bD.ak aF;obtain⟨a0,ap,ak⟩:=aY.two;by_cases aw:k<fn
     ·obtain⟨b,o,f,cs,m,O,hx,aU,a3,Z⟩:=(aG.o _ (bA.trans aF)).f.gN mV aw;injection m with m;injection m with hFA1 hFA2;subst hFA1 hFA2;obtain⟨QA,ca,qc,I,ac,U,rfl,dw,dG,e4,bO⟩:=kL.1 aU;have c0:=Z 0 _ rfl;have cL:=Z 1 _ rfl;have b0:=Z 2 _ rfl;simp only[J0] at c0;have aW:b2<wr.heap.size:=O;have aP:=aQ hx e4 bO;have dE:=aG.o _ (bA.trans aF);have dD:=dl.on (Fr.ext aF);have u:=ai dE dD;clear aF hU al s bb aY aU a3 Z O hx e4 bO dE dD;go_upto_region 17 with(fail);refine tX (fun _=>False) [7,14] (.held 0 (.free 1 (.free 2 (.held 3 (.free 4 (.free 5 (.held 6 (.pick [7,13] (fun i=>bif i == 7 then .free 8 (.free 9 (.free 10 (.free 11 (.free 12 (.pick [13] (fun _=>.pick [14] (fun _=>.free 15 (.free 16 (.free 17 (.stop)))))))))) else .pick [7] (fun _=>.free 8 (.free 9 (.free 10 (.free 11 (.free 12 (.pick [14] (fun _=>.free 15 (.free 16 (.free 17 (.stop))))))))))))))))))) ?_;refine th ?_
      iterate 2 refine tf ?_
      refine th ?_
      iterate 2 refine tf ?_
      refine th ?_;clear a0 ap ak c0 cL b0;refine wj (P:=?IJ) (ops:=?IT) (Q:=?IU) (R:=?IW) (tails:=?IX) (rest:=.pick [14] (fun _=>.free 15 (.free 16 (.free 17 (.stop))))) (aa:=?IK)
       (C:=fun(db:Nat) (cj:Kr) (bc rc:Nat) (bp:Kr) (bQ a7:Nat) dz=>Ext wr dz∧af dz db 115 #[.string ⟨#[]⟩,.int .i64 0,.int .i64 0,.int .i64 0,.slice none 0 0]∧wr.heap.size≤db∧(fN (dY p f)).rep dz (fun b=>wr.heap.size≤b∧b<dz.heap.size∧b≠db) [.string (dY p f).name,.int .i64 (dY p f).ints,.int .i64 (dY p f).aw,.int .i64 (dY p f).locals,.slice cj bc rc]) (fun key=>?HG) ?HC
      case HG=>
       refine bq ?_ ?_
       ·
        refine bS rfl (fun K hK=>?_) rfl;go_simp;refine(dc.o f (JT aP.1) GA gn gc MA mn mc (some ⟨b2,cE,none⟩) fn fc bj (ba p).length lc QA ca qc I ac U wr.drew ⟨u.1.g.on (Fr.ext Kn.drew),u.1.m.on (Fr.ext Kn.drew),u.1.f.on (Fr.ext Kn.drew)⟩ (u.2.on (Fr.ext Kn.drew)) (aP.2.1.on (Fr.ext Kn.drew)) (aP.2.2.on (Fr.ext Kn.drew))).mono ?_;rintro e aN ⟨cj,bc,rc,bp,bQ,a7,rfl,L,ar⟩;refine eD hK ?_;clear hK K
        iterate 5 refine tf ?_
        refine ao ?_;refine eZ ?_;have F:Ext wr (aN.alloc (.cells #[.string ⟨#[]⟩,.int .i64 0,.int .i64 0,.int .i64 0,.slice none 0 0] 115))∧af (aN.alloc (.cells #[.string ⟨#[]⟩,.int .i64 0,.int .i64 0,.int .i64 0,.slice none 0 0] 115)) aN.heap.size 115 #[.string ⟨#[]⟩,.int .i64 0,.int .i64 0,.int .i64 0,.slice none 0 0]∧wr.heap.size≤aN.heap.size∧(fN (dY p f)).rep (aN.alloc (.cells #[.string ⟨#[]⟩,.int .i64 0,.int .i64 0,.int .i64 0,.slice none 0 0] 115)) (fun b=>wr.heap.size≤b∧b<(aN.alloc (.cells #[.string ⟨#[]⟩,.int .i64 0,.int .i64 0,.int .i64 0,.slice none 0 0] 115)).heap.size∧b≠aN.heap.size) [.string (dY p f).name,.int .i64 (dY p f).ints,.int .i64 (dY p f).aw,.int .i64 (dY p f).locals,.slice cj bc rc]:=
         ⟨(Fr.aO ar).alloc _,Ko,(Fr.aO ar).size,D.aF (fun b O=>⟨O.1,by have:=O.2;simp;omega,by have:=O.2;omega⟩) _ _ (D.aN (fun b O=>Below.heap_alloc aN _ b O.2) _ _ L)⟩
        clear L ar;revert F;generalize aN.heap.size=db;intro F;exact key db cj bc rc bp bQ a7 _ F
       ·
        refine eZ ?_;generalize hV:World.alloc _ _=T;have cG:Ext wr T:=hV▸Kn.alloc _;have aY:af T wr.heap.size 115 #[.string ⟨#[]⟩,.int .i64 0,.int .i64 0,.int .i64 0,.slice none 0 0]:=hV▸Ko;clear hV;refine ao ?_;refine bS rfl (fun K hK=>?_) rfl;go_simp;refine(dc.o f (JT aP.1) GA gn gc MA mn mc (some ⟨b2,cE,none⟩) fn fc bj (ba p).length lc QA ca qc I ac U T.drew ⟨u.1.g.on (Fr.ext cG.drew),u.1.m.on (Fr.ext cG.drew),u.1.f.on (Fr.ext cG.drew)⟩ (u.2.on (Fr.ext cG.drew)) (aP.2.1.on (Fr.ext cG.drew)) (aP.2.2.on (Fr.ext cG.drew))).mono ?_;rintro e aN ⟨cj,bc,rc,bp,bQ,a7,rfl,L,ar⟩;refine eD hK ?_;clear hK K
        iterate 5 refine tf ?_
        have cl:=aY.lt;have F:Ext wr aN∧af aN wr.heap.size 115 #[.string ⟨#[]⟩,.int .i64 0,.int .i64 0,.int .i64 0,.slice none 0 0]∧wr.heap.size≤wr.heap.size∧(fN (dY p f)).rep aN (fun b=>wr.heap.size≤b∧b<aN.heap.size∧b≠wr.heap.size) [.string (dY p f).name,.int .i64 (dY p f).ints,.int .i64 (dY p f).aw,.int .i64 (dY p f).locals,.slice cj bc rc]:=
         ⟨cG.trans (Fr.aO ar),aY.ak (Fr.aO ar),JQ _,D.aF (fun b O=>⟨by have ae:T.heap.size≤b:=O.1;omega,O.2,by have ae:T.heap.size≤b:=O.1;omega⟩) _ _ L⟩
        clear L ar cG aY cl;exact key wr.heap.size cj bc rc bp bQ a7 _ F
      case HC=>
       rintro db cj bc rc bp bQ a7 dz ⟨dq,aK,c7,L⟩;obtain⟨d0,ag,aR⟩:=aK.two;have ax:=aQ dq aK L;clear dq aK L;refine ao ?_;refine bS rfl (fun K hK=>?_) rfl;go_simp;refine eD hK ?_;clear hK K
       iterate 3 refine tf ?_
       refine cw ?_;generalize hX:World.setCell _ _ _=dv;obtain⟨dq,aK,L⟩:=ax.o;obtain⟨aY,a4,az⟩:=cb (w:=wr) [.string (dY p f).name,.int .i64 (dY p f).ints,.int .i64 (dY p f).aw,.int .i64 (dY p f).locals,.slice cj bc rc] (by rfl) aK dq c7 hX;have cC:=b9.2.1.ak a4;have b6:=b9.2.2.2.2.1.ak a4;have cN:∀b,(Value.slice A k c).ownBlock=some b→b<wr.heap.size:=fun b O=>(b9.2.2.2.2.1.lt O).2;have dS:=az.size;have d1:=a4.size;have hd:(fN (dY p f)).rep dv (lg (fun b=>av≤b) dv (.slice A k c)) [.string (dY p f).name,.int .i64 (dY p f).ints,.int .i64 (dY p f).aw,.int .i64 (dY p f).locals,.slice cj bc rc]:=
        D.aF (fun b O=>⟨by have:=O.1;omega,by have:=O.2.1;omega,fun hc=>by have:=cN b hc;have:=O.1;omega⟩) _ _ (D.aN (fun b O=>az.block b O.2.1 O.2.2) _ _ L)
       have z:=aQ a4 b6 hd;clear hX dq aK L az b6 hd d0 ag aR ax cN a4;obtain⟨d0,ag,aR⟩:=aY.two;obtain⟨a6,am,aI⟩:=cC.two;have dK:=ad cC;clear aY cC;go_wp2_with((at_builtin;refine bR Gi rfl (.tmp 106) (.tmp 108) rfl z.2.1 z.2.2 rfl rfl rfl ab ab ab ?_;intro cf c3 cp an ay b8 bJ;have cX:=dK.on ay (fun O=>by have:=(z.2.1.lt O).1;omega);clear a6 am aI d0 ag aR;obtain⟨a6,am,aI⟩:=cX.two;have dN:=ad cX;clear cX));generalize hX:World.setCell _ _ _=bT;have cr:Fr (fun b=>b=r) cp bT:=hX▸(Fr.refl (fun b=>b=r) cp).setCell (.inl rfl) _;have a4:=z.1;have j:∀b,(Value.slice A k c).ownBlock=some b→av≤b:=fun b O=>(z.2.1.lt O).1;have dI:(((p.funcs.take (k+1)).map (dY p)).map fN)=((p.funcs.take k).map (dY p)).map fN++[fN (dY p f)]:=by rw[a9 aP.1,JX,JX];rfl
       have q1:Ext V bT:=Fr.low (M:=fun b=>V.heap.size≤b) (((b9.1.trans a4).mono fun _ h=>h.elim).trans ((ay.mono fun b O=>by have:=j b O;omega).trans (cr.mono fun b O=>ab))) fun _ h=>h;have cB:af bT r 26 #[.slice ce gn c1,.slice A2 mn bE,.slice cf (k+1) c3,.int .i64 mi]:=hX▸dN.aC 2 _;have cv:=((b9.2.2.1.ak a4).c7 ay.size fun b aw hp=>ay.block b aw fun he=>by
        rcases hp with hp|hp
        ·exact hp.elim
        ·have:=j b he;have:=(cD.o b hp).2;omega).c7 cr.size fun b aw hp=>cr.block b aw fun he=>by
        rcases hp with hp|hp
        ·exact hp.elim
        ·exact(cD.o b hp).1 he
       have cF:=((b9.2.2.2.1.ak a4).c7 ay.size fun b aw hp=>ay.block b aw fun he=>by
        rcases hp with hp|hp
        ·exact hp.elim
        ·have:=j b he;have:=(c4.o b hp).2;omega).c7 cr.size fun b aw hp=>cr.block b aw fun he=>by
        rcases hp with hp|hp
        ·exact hp.elim
        ·exact(c4.o b hp).1 he
       have q5:Gr (fun b=>av≤b) av 115 5 bT cf (k+1) c3 (((p.funcs.take (k+1)).map (dY p)).map fN):=by
        rw[dI];exact an.c7 cr.size fun b aw hp=>cr.block b aw fun he=>by
         rcases hp with hp|hp
         ·omega
         ·have:=(an.lt hp).1;omega
       have dg:av≤bT.heap.size:=by have ae:=a4.size;have aC:=ay.size;have aT:=cr.size;omega
       have aX:=dQ q1 cB cv cF q5 dg;clear q1 cB cv cF q5 dg an ay b8 a4 cr hX j dI a6 am aI
       go_wp2;go_roundw
       case rel=>exact⟨k+1,cf,c3,ab,by go_num,aX.o⟩
       case measure=>exact aB
     ·obtain rfl:fn=k:=ab;rw[JY (by rw[bK.2.2];exact JQ _)] at bb;have bC:=bx.ak aF;have dX:w.heap.size+1<V.heap.size:=bx.lt;have cm:=ad hU;obtain⟨a6,am,aI⟩:=hU.two;obtain⟨d0,ag,aR⟩:=bC.two;obtain⟨c9,dd⟩:=aM bC bb;clear aF hU al s bb aY bC;go_wp2;generalize hX:World.setCell _ _ _=gF;obtain⟨gi,cT,bm⟩:=cb (w:=w) [.slice ce gn c1,.slice A2 mn bE,.slice A fn c,.int .i64 mi] (by rfl) c9.o (bA.trans b9.1) (Nat.le_succ _) hX;obtain⟨bv,bd,be⟩:=gi.two;clear a6 am aI d0 ag aR a0 ap ak;refine Km (v:=.tuple #[.agg #[.slice ce gn c1,.slice A2 mn bE,.slice A fn c,.int .i64 mi],.int .i64 0,.int .i64 0,.int .i64 0]) (by simp[results,Tryz.results41,go_sem,bv]) rfl ?_;have bk:(fU p).main=(mi:Int):=by
       show iY (ba p) ij=_
       unfold iY;rw[show ij=⟨#[109,97,105,110]⟩ from rfl,cM.o]
      have fa:=bA.size;have d2:=bm.size;have bi:∀b,V.heap.size≤b→b<wr.heap.size→gF.heap[b]?=wr.heap[b]?:=fun b ae aC=>bm.block b aC ab;have cQ:=b9.2.2.1.c7 bm.size fun b aw hp=>by
       rcases hp with hp|hp
       ·exact hp.elim
       ·exact bi b (by have:=(b9.2.2.1.lt hp).1;omega) aw
      have cU:=b9.2.2.2.1.c7 bm.size fun b aw hp=>by
       rcases hp with hp|hp
       ·exact hp.elim
       ·exact bi b (by have:=(b9.2.2.2.1.lt hp).1;omega) aw
      have cH:=dd.c7 bm.size fun b aw hp=>by
       rcases hp with hp|hp
       ·exact bi b ab aw
       ·exact bi b (by have:=(dd.lt hp).1;omega) aw
      refine⟨ce,gn,c1,A2,mn,bE,A,fn,c,by rw[bk],?_,cT⟩;unfold ts;rw[bk,bu];exact aD.2 ⟨ce,gn,c1,_,rfl,cU.cap.1,cU.sl (fun b _ h=>h.elim) (fun b ae aC=>⟨ab,ae⟩),aD.2 ⟨A2,mn,bE,_,rfl,cQ.cap.1,cQ.sl (fun b _ h=>h.elim) (fun b ae aC=>⟨ab,ae⟩),
       aD.2 ⟨A,fn,c,_,rfl,cH.cap.1,cH.sl (fun b ae aC=>⟨ab,ae⟩) (fun b ae aC=>⟨ab,ae⟩),aZ.2 ⟨_,rfl,aJ.2 rfl⟩⟩⟩⟩
theorem Ig(p:bB)(hp:oE p):Hd p:=fun f aD GA gn gc MA mn mc FA fn fc bj ln lc PA pn pc f0 bn eL w h hl ch bv=>
 (si (fun U nk F b=>xD EE U nk F b) p hp f aD GA gn gc MA mn mc FA fn fc bj ln lc PA pn pc f0 bn eL w h hl ch bv).mono fun _ _ h=>h
theorem CX(p:bB)(hp:oE p)(GA:Kr)(gn gc:Nat)(MA:Kr)(mn mc:Nat)(FA:Kr)(fn fc:Nat)(w:World)(h:g1 w (au w) p GA gn MA mn FA fn) :
  Calls prog 41 #[.agg #[.slice GA gn gc,.slice MA mn mc,.slice FA fn fc]] w (wG w (fU p)):=x3 p hp (Ig p hp) GA gn gc MA mn mc FA fn fc w h
end Go.Proofs.YtbkhhfajcgkpgaaGreat

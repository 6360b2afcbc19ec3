/- Part 31 of the proof. No condition of its own. -/
import Derived.Test.YtnhhdaggkiomoaaGreatQ29
import Derived.Test.YtnhhdaggkiomoaaGreatQ30
namespace Go.Proofs.YtnhhdaggkiomoaaGreat
open Go.RowKit Go.Proofs.Tryz
set_option maxRecDepth 1000000
set_option maxHeartbeats 25600000
set_option linter.unusedVariables false
variable{p:Prop}{w:World}
theorem wT{P:Program}{ops:Array Oper}{Q:Exit→Act→World→Prop}{R:World→World→Prop}{tails:List Nat}{α β γ δ ε ζ η:Type}{rest:PT}{aa:α→β→γ→δ→ε→ζ→η→Act}{C:α→β→γ→δ→ε→ζ→η→World→Prop}{G:Prop}
  (h:(∀a b c d e f g V,C a b c d e f g V→cP P ops Q R tails rest (aa a b c d e f g) V)→G) (key:∀a b c d e f g V,C a b c d e f g V→cP P ops Q R tails rest (aa a b c d e f g) V):G:=h key
theorem p2{P:Nat→Prop}(l:List bI):D.aQ w P (l.map ey) (l.flatMap gy):=mN (fun _=>fb.2 rfl) l
theorem sT{A:Ls}{n:Nat}{l:List bI}(h:Sl w (au w) A n (l.map ey)):Src w 3 A n (l.flatMap gy):=Src.lx (Sl.ou h) (DP _) (D3 _) ad
theorem Hc:ch prog 28 108 (.agg #[.string ⟨#[]⟩,.int .i64 0,.int .i64 0,.int .i64 0,.slice none 0 0]) 5 64:=ch.mk' Tryz.underlying28 (by kernel_rfl) rfl ad
def xc(w:World)(u:ay)(e:Ending)(ab:World):Prop:=∃(GA:Ls) (gn gc:Nat) (MA:Ls) (mn mc:Nat) (PA:Ls) (pn pc:Nat),
 e=.returned (.tuple #[.agg #[.slice GA gn gc,.slice MA mn mc,.slice PA pn pc,.int .i64 u.main],.int .i64 0,.int .i64 0,.int .i64 0])∧(tG u).rep ab (fresh w ab) [.slice GA gn gc,.slice MA mn mc,.slice PA pn pc,.int .i64 u.main]∧Ext w ab
def GS(w:World)(x:cJ)(e:Ending)(ab:World):Prop:=∃(A:Ls) (n c:Nat) (bS:Ls) (bL bD:Nat),
 e=.returned (.tuple #[.agg #[.string x.name,.int .i64 x.ints,.int .i64 x.av,.int .i64 x.locals,.slice A n c],.slice bS bL bD,.int .i64 0,.int .i64 0])∧(gb x).rep ab (fresh w ab) [.string x.name,.int .i64 x.ints,.int .i64 x.av,.int .i64 x.locals,.slice A n c]∧Ext w ab
def H2(p:bM):Prop:=∀(f:aK),f∈p.funcs→∀(GA:Ls) (gn gc:Nat) (MA:Ls) (mn mc:Nat) (FA:Ls) (fn fc:Nat) (S:Ls) (ln lc:Nat) (PA:Ls) (pn pc:Nat) (cf:Ls) (bn bc:Nat) (w:World),
  hk w (au w) p GA gn MA mn FA fn→Sl w (au w) S ln ((bo p).map bZ)→Sl w (au w) PA pn (f.params.map ds)→Sl w (au w) cf bn (c5 f.body)→
  Calls prog 81 #[.agg #[.slice GA gn gc,.slice MA mn mc,.slice FA fn fc],.slice S ln lc,.agg #[.string f.name,.slice PA pn pc,.slice cf bn bc]] w (GS w (et p f))
namespace BY
theorem dC(h:p:=by
 clear a8 am aF;generalize hX:World.setCell _ _ _=dS;have J:=cL hX;obtain⟨bB,az,al,e1,aJ⟩:=b4.o;have r1:Ext V dS:=Fr.low (M:=fun b=>V.heap.size≤b) (((cp.1.trans e1).mono fun _ h=>h.elim).trans ((az.mono fun b O=>by have:=j b O;omega).trans (J.mono fun b O=>ad))) fun _ h=>h;have gM:aq dS u 30 #[.slice cC (k+1) c3,.slice A2 mn bP,.slice none 0 0,.int .i64 mi]:=hX▸aJ.aM 0 _;have gt:=((cp.2.2.1.ai e1).dj az.size fun b ak hp=>az.block b ak fun he=>by
  rcases hp with hp|hp
  ·exact hp.elim
  ·have:=j b he;have:=(bW.o b hp).2;omega).dj J.size fun b ak hp=>J.block b ak fun he=>by
  rcases hp with hp|hp
  ·exact hp.elim
  ·exact(bW.o b hp).1 he
 have gR:Gr (fun _=>False) a2 3 1 dS cC (k+1) c3 (((p.globals.take (k+1)).map (·.2)).map D.i):=by
  rw[aZ aQ.o,KN,KN];exact bB.dj J.size fun b ak hp=>J.block b ak fun he=>by
   rcases hp with hp|hp
   ·exact hp.elim
   ·have:=(bB.lt hp).1;omega
 have gS:a2≤dS.heap.size:=by have ac:=e1.size;have av:=az.size;have aV:=J.size;omega
 have aW:=cI r1 gM gt gR gS;clear r1 gM gt gR gS bB az al e1 aJ J hX
 go_wp2;go_roundw
 case rel=>exact⟨k+1,cC,c3,ad,by go_num,aW.o⟩
 case measure=>exact aH
 ):p:=h
theorem eQ(h:p:=by
 refine b3 ?_;generalize hX:World.setCell _ _ _=X;obtain⟨dx,dy,bI,bf⟩:=bC.o;obtain⟨cS,br,b8⟩:=bA (w:=V) [.slice none 0 0,.slice A2 mn bP,.slice none 0 0,.int .i64 mi] (by rfl) bI dx ad hX;have co:=dy.dj b8.size fun b ak hp=>b8.block b ak fun he=>by
  subst he;rcases hp with hp|hp
  ·exact hp.elim
  ·exact bf hp
 obtain⟨a2,bk⟩:∃N,N=X.heap.size:=⟨_,rfl⟩
 have a3:∀b,(Value.slice A2 mn bP).ownBlock=some b→b≠u∧b<a2:=fun b O=>⟨fun e=>bf (by rw[←e];exact O),by have:=(co.lt O).2;omega⟩
 have bW:=ae a3;have ct:=ae (show Ext V X∧aq X u 30 #[.slice none 0 0,.slice A2 mn bP,.slice none 0 0,.int .i64 mi]∧Gr (fun _=>False) cY 128 3 X A2 mn bP (p.af.map ey)∧Gr (fun _=>False) a2 3 1 X none 0 0 (((p.globals.take 0).map (·.2)).map D.i)∧a2≤X.heap.size from ⟨br,cS,co,Gr.nil _ _ _ _ _,ad⟩);have d3:u<a2:=by have:=cS.lt;omega
 clear bC hX cS br b8 co dx dy bI bf a3 a8 am aF;have bJ:=T.ai ct.1;obtain⟨a0,ai,af⟩:=bJ.two;clear bJ;go_wp2;clear a0 ai af;go_loopw [11] (fun cu wr=>∃(k:Nat) (A:Ls) (c:Nat),k≤gn∧cu=.int .i64 k∧Ext V wr∧aq wr u 30 #[.slice A k c,.slice A2 mn bP,.slice none 0 0,.int .i64 mi]∧Gr (fun _=>False) cY 128 3 wr A2 mn bP (p.af.map ey)∧Gr (fun _=>False) a2 3 1 wr A k c (((p.globals.take k).map (·.2)).map D.i)∧a2≤wr.heap.size) (fun cu _=>gn - (intOf cu).toNat)
 case atStart=>exact⟨0,none,0,ad,rfl,ct.o⟩
 case round=>
  obtain⟨k,A,c,ap,rfl,aw,hU,ab,r,cD⟩:=hrel;clear ct;have cp:=cI aw hU ab r cD;have ce:=T.ai aw;obtain⟨a0,ai,af⟩:=ce.two;obtain⟨a8,am,aF⟩:=hU.two;by_cases ak:k<gn
  ·obtain⟨b,o,g,cs,rfl,O,hx,a5,bp,Z⟩:=(ay.o _ (cj.trans aw)).g.gZ oG ak;obtain rfl:=mv.1 a5;have cM:=Z 1 _ rfl;have aX:b<wr.heap.size:=O;have aQ:=ae hx;clear aw hU ab r ce a5 bp Z O hx;go_wp2;refine eK (fun _=>False) [(0,3),(1,0),(2,3),(3,0),(4,3),(5,3),(6,3),(7,0),(8,1),(9,2),(10,3),(11,2)] ?_;refine pf ?_;refine ph ?_;refine pf ?_;refine ph ?_
   iterate 3 refine pf ?_
   refine ph ?_;refine q0 ?_;generalize hV:World.drew (World.alloc _ _)=c9;have e1:=gF hV;have cy:aq c9 wr.heap.size 3 #[.int .i64 g.2]:=hV▸(Lp).drew;clear hV;refine ax rfl (fun K hK=>?_);rw[if_pos (by rfl)];refine e5 de (.tmp 69) (.tmp 76) (by rfl) (cp.2.2.2.1.ai e1) cy (show (D.i g.2).rep c9 _ _ from by simp only[D.rep]) (by rfl) (by rfl) (by rfl) ad ad (aD e1.size) ?_;intro cC c3 cN bB az al b9;have j:∀b,(Value.slice A k c).ownBlock=some b→a2≤b:=fun b O=>(cp.2.2.2.1.lt O).1;have aJ:=(cp.2.1.ai e1).on az fun O=>by have:=j _ O;omega
   have b4:=cI bB az al e1 aJ;clear bB az al e1 cy a0 ai af a8 am aF cM aX;obtain⟨a8,am,aF⟩:=aJ.two;clear aJ;exact sw
  ·obtain rfl:gn=k:=ad;rw[KO (by rw[ca.1];exact KG _)] at r;obtain⟨U,cg⟩:∃N,N=wr.heap.size:=⟨_,rfl⟩
   have dM:=hU.lt;have dY:u<U:=ad;have dc:∀b,(Value.slice A gn c).ownBlock=some b→b≠u∧b<U:=fun b O=>⟨by have:=(r.lt O).1;omega,by have:=(r.lt O).2;omega⟩
   have cU:=ae dc;have dW:a2≤U:=ad;have dm:=ae (show Ext V wr∧aq wr u 30 #[.slice A gn c,.slice A2 mn bP,.slice none 0 0,.int .i64 mi]∧Gr (fun _=>False) cY 128 3 wr A2 mn bP (p.af.map ey)∧Gr (fun _=>False) a2 3 1 wr A gn c ((p.globals.map (·.2)).map D.i)∧Gr (fun b=>U≤b) U 108 5 wr none 0 0 (((p.funcs.take 0).map (et p)).map gb)∧U≤wr.heap.size from ⟨aw,hU,ab,r,Gr.nil _ _ _ _ _,ad⟩);clear cp aw hU ab r ce dc dM a8 am aF ap ak;generalize A=bY at *;generalize c=c1 at *;go_wp2;clear a0 ai af;go_loopw [12] (fun cu wr=>∃(k:Nat) (A:Ls) (c:Nat),k≤fn∧cu=.int .i64 k∧Ext V wr∧aq wr u 30 #[.slice bY gn c1,.slice A2 mn bP,.slice A k c,.int .i64 mi]∧Gr (fun _=>False) cY 128 3 wr A2 mn bP (p.af.map ey)∧Gr (fun _=>False) a2 3 1 wr bY gn c1 ((p.globals.map (·.2)).map D.i)∧Gr (fun b=>U≤b) U 108 5 wr A k c (((p.funcs.take k).map (et p)).map gb)∧U≤wr.heap.size) (fun cu _=>fn - (intOf cu).toNat)
   case atStart=>exact⟨0,none,0,ad,rfl,dm.o⟩
   case round=>
    obtain⟨k,A,c,ap,rfl,aw,hU,ab,r,bb,cD⟩:=hrel;clear dm;have cp:=cT aw hU ab r bb cD;have ce:=T.ai aw;obtain⟨a0,ai,af⟩:=ce.two;by_cases ak:k<fn
    ·obtain⟨b,o,f,cs,m,O,hx,a5,bp,Z⟩:=(ay.o _ (cj.trans aw)).f.gZ nh ak;injection m with m;injection m with hFA1 hFA2;subst hFA1 hFA2;obtain⟨QA,cq,qc,H,bg,I,rfl,f0,dX,dI,b0⟩:=kS.1 a5;have c0:=Z 0 _ rfl;have cM:=Z 1 _ rfl;have e4:=Z 2 _ rfl;simp only[KQ] at c0;have aX:b1<wr.heap.size:=O;have aQ:=aB hx dI b0;have dL:=ay.o _ (cj.trans aw);have dH:=dp.on (Fr.ext aw);have s:=ag dL dH;clear aw hU ab r bb ce a5 bp Z O hx dI b0 dL dH;go_upto_region 17 with(fail);refine q4 (fun _=>False) [7,14] (.held 0 (.free 1 (.free 2 (.held 3 (.free 4 (.free 5 (.held 6 (.pick [7,13] (fun i=>bif i == 7 then .free 8 (.free 9 (.free 10 (.free 11 (.free 12 (.pick [13] (fun _=>.pick [14] (fun _=>.free 15 (.free 16 (.free 17 (.stop)))))))))) else .pick [7] (fun _=>.free 8 (.free 9 (.free 10 (.free 11 (.free 12 (.pick [14] (fun _=>.free 15 (.free 16 (.free 17 (.stop))))))))))))))))))) ?_;refine th ?_
     iterate 2 refine tf ?_
     refine th ?_
     iterate 2 refine tf ?_
     refine th ?_;clear a0 ai af c0 cM e4;refine wT (P:=?JD) (ops:=?JM) (Q:=?JN) (R:=?JO) (tails:=?JP) (rest:=.pick [14] (fun _=>.free 15 (.free 16 (.free 17 (.stop))))) (aa:=?JE)
      (C:=fun(db:Nat) (cc:Ls) (bF rc:Nat) (bS:Ls) (bL bD:Nat) bT=>Ext wr bT∧aq bT db 108 #[.string ⟨#[]⟩,.int .i64 0,.int .i64 0,.int .i64 0,.slice none 0 0]∧wr.heap.size≤db∧(gb (et p f)).rep bT (fun b=>wr.heap.size≤b∧b<bT.heap.size∧b≠db) [.string (et p f).name,.int .i64 (et p f).ints,.int .i64 (et p f).av,.int .i64 (et p f).locals,.slice cc bF rc]) (fun key=>?Ix) ?Ir
     case Ix=>
      refine aY ?_ ?_
      ·
       refine bN rfl (fun K hK=>?_) rfl;go_simp;refine(dh.o f (KJ aQ.1) GA gn gc MA mn mc (some ⟨b1,c6,none⟩) fn fc S (bo p).length lc QA cq qc H bg I wr.drew ⟨s.1.g.on (Fr.ext Lo.drew),s.1.m.on (Fr.ext Lo.drew),s.1.f.on (Fr.ext Lo.drew)⟩ (s.2.on (Fr.ext Lo.drew)) (aQ.2.1.on (Fr.ext Lo.drew)) (aQ.2.2.on (Fr.ext Lo.drew))).mono ?_;rintro e aS ⟨cc,bF,rc,bS,bL,bD,rfl,bU,ar⟩;refine dO hK ?_;clear hK K
       iterate 5 refine tf ?_
       refine ao ?_;refine dP ?_;have F:Ext wr (aS.alloc (.cells #[.string ⟨#[]⟩,.int .i64 0,.int .i64 0,.int .i64 0,.slice none 0 0] 108))∧aq (aS.alloc (.cells #[.string ⟨#[]⟩,.int .i64 0,.int .i64 0,.int .i64 0,.slice none 0 0] 108)) aS.heap.size 108 #[.string ⟨#[]⟩,.int .i64 0,.int .i64 0,.int .i64 0,.slice none 0 0]∧wr.heap.size≤aS.heap.size∧(gb (et p f)).rep (aS.alloc (.cells #[.string ⟨#[]⟩,.int .i64 0,.int .i64 0,.int .i64 0,.slice none 0 0] 108)) (fun b=>wr.heap.size≤b∧b<(aS.alloc (.cells #[.string ⟨#[]⟩,.int .i64 0,.int .i64 0,.int .i64 0,.slice none 0 0] 108)).heap.size∧b≠aS.heap.size) [.string (et p f).name,.int .i64 (et p f).ints,.int .i64 (et p f).av,.int .i64 (et p f).locals,.slice cc bF rc]:=
        ⟨(Fr.aF ar).alloc _,Lp,(Fr.aF ar).size,D.aL (fun b O=>⟨O.1,by have:=O.2;simp;omega,by have:=O.2;omega⟩) _ _ (D.aS (fun b O=>Below.heap_alloc aS _ b O.2) _ _ bU)⟩
       clear bU ar;revert F;generalize aS.heap.size=db;intro F;exact key db cc bF rc bS bL bD _ F
      ·
       refine dP ?_;generalize hV:World.alloc _ _=bz;have cr:=aU hV;have ce:=aG hV;clear hV;refine ao ?_;refine bN rfl (fun K hK=>?_) rfl;go_simp;refine(dh.o f (KJ aQ.1) GA gn gc MA mn mc (some ⟨b1,c6,none⟩) fn fc S (bo p).length lc QA cq qc H bg I bz.drew ⟨s.1.g.on (Fr.ext cr.drew),s.1.m.on (Fr.ext cr.drew),s.1.f.on (Fr.ext cr.drew)⟩ (s.2.on (Fr.ext cr.drew)) (aQ.2.1.on (Fr.ext cr.drew)) (aQ.2.2.on (Fr.ext cr.drew))).mono ?_;rintro e aS ⟨cc,bF,rc,bS,bL,bD,rfl,bU,ar⟩;refine dO hK ?_;clear hK K
       iterate 5 refine tf ?_
       have cm:=ce.lt;have F:Ext wr aS∧aq aS wr.heap.size 108 #[.string ⟨#[]⟩,.int .i64 0,.int .i64 0,.int .i64 0,.slice none 0 0]∧wr.heap.size≤wr.heap.size∧(gb (et p f)).rep aS (fun b=>wr.heap.size≤b∧b<aS.heap.size∧b≠wr.heap.size) [.string (et p f).name,.int .i64 (et p f).ints,.int .i64 (et p f).av,.int .i64 (et p f).locals,.slice cc bF rc]:=
        ⟨cr.trans (Fr.aF ar),ce.ai (Fr.aF ar),KG _,D.aL (fun b O=>⟨by have ac:bz.heap.size≤b:=O.1;omega,O.2,by have ac:bz.heap.size≤b:=O.1;omega⟩) _ _ bU⟩
       clear bU ar cr ce cm;exact key wr.heap.size cc bF rc bS bL bD _ F
     case Ir=>
      rintro db cc bF rc bS bL bD bT ⟨dw,aj,dt,bU⟩;obtain⟨d0,aL,aM⟩:=aj.two;have ah:=aB dw aj bU;clear dw aj bU;refine ao ?_;refine bN rfl (fun K hK=>?_) rfl;go_simp;refine dO hK ?_;clear hK K
      iterate 3 refine tf ?_
      refine b3 ?_;generalize hX:World.setCell _ _ _=g8;obtain⟨dw,aj,bU⟩:=ah.o;obtain⟨ce,bX,aK⟩:=bA (w:=wr) [.string (et p f).name,.int .i64 (et p f).ints,.int .i64 (et p f).av,.int .i64 (et p f).locals,.slice cc bF rc] (by rfl) aj dw dt hX;have cG:=cp.2.1.ai bX;have bR:=cp.2.2.2.2.1.ai bX;have cH:∀b,(Value.slice A k c).ownBlock=some b→b<wr.heap.size:=fun b O=>(cp.2.2.2.2.1.lt O).2;have dZ:=aK.size;have d6:=bX.size;have hd:(gb (et p f)).rep g8 (lv (fun b=>U≤b) g8 (.slice A k c)) [.string (et p f).name,.int .i64 (et p f).ints,.int .i64 (et p f).av,.int .i64 (et p f).locals,.slice cc bF rc]:=
       D.aL (fun b O=>⟨by have:=O.1;omega,by have:=O.2.1;omega,fun hc=>by have:=cH b hc;have:=O.1;omega⟩) _ _ (D.aS (fun b O=>aK.block b O.2.1 O.2.2) _ _ bU)
      have z:=aB bX bR hd;clear hX dw aj bU aK bR hd d0 aL aM ah cH bX;obtain⟨d0,aL,aM⟩:=ce.two;obtain⟨a8,am,aF⟩:=cG.two;have dT:=ae cG;clear ce cG;go_wp2_with((at_builtin;refine bQ Hc rfl (.tmp 106) (.tmp 108) rfl z.2.1 z.2.2 rfl rfl rfl ad ad ad ?_;intro cC c3 cQ bB az al b9;have cR:=dT.on az (fun O=>by have:=(z.2.1.lt O).1;omega);clear a8 am aF d0 aL aM;obtain⟨a8,am,aF⟩:=cR.two;have dU:=ae cR;clear cR));generalize hX:World.setCell _ _ _=dF;have cW:=cL hX;have bX:=z.1;have j:∀b,(Value.slice A k c).ownBlock=some b→U≤b:=fun b O=>(z.2.1.lt O).1;have dQ:(((p.funcs.take (k+1)).map (et p)).map gb)=((p.funcs.take k).map (et p)).map gb++[gb (et p f)]:=by rw[aZ aQ.1,KN,KN];rfl
      have q1:Ext V dF:=Fr.low (M:=fun b=>V.heap.size≤b) (((cp.1.trans bX).mono fun _ h=>h.elim).trans ((az.mono fun b O=>by have:=j b O;omega).trans (cW.mono fun b O=>ad))) fun _ h=>h;have cB:aq dF u 30 #[.slice bY gn c1,.slice A2 mn bP,.slice cC (k+1) c3,.int .i64 mi]:=hX▸dU.aM 2 _;have dd:=((cp.2.2.1.ai bX).dj az.size fun b ak hp=>az.block b ak fun he=>by
       rcases hp with hp|hp
       ·exact hp.elim
       ·have:=j b he;have:=(bW.o b hp).2;omega).dj cW.size fun b ak hp=>cW.block b ak fun he=>by
       rcases hp with hp|hp
       ·exact hp.elim
       ·exact(bW.o b hp).1 he
      have df:=((cp.2.2.2.1.ai bX).dj az.size fun b ak hp=>az.block b ak fun he=>by
       rcases hp with hp|hp
       ·exact hp.elim
       ·have:=j b he;have:=(cU.o b hp).2;omega).dj cW.size fun b ak hp=>cW.block b ak fun he=>by
       rcases hp with hp|hp
       ·exact hp.elim
       ·exact(cU.o b hp).1 he
      have q5:Gr (fun b=>U≤b) U 108 5 dF cC (k+1) c3 (((p.funcs.take (k+1)).map (et p)).map gb):=by
       rw[dQ];exact bB.dj cW.size fun b ak hp=>cW.block b ak fun he=>by
        rcases hp with hp|hp
        ·omega
        ·have:=(bB.lt hp).1;omega
      have di:U≤dF.heap.size:=by have ac:=bX.size;have av:=az.size;have aV:=cW.size;omega
      have aW:=cT q1 cB dd df q5 di;clear q1 cB dd df q5 di bB az al bX cW hX j dQ a8 am aF
      go_wp2;go_roundw
      case rel=>exact⟨k+1,cC,c3,ad,by go_num,aW.o⟩
      case measure=>exact aH
    ·obtain rfl:fn=k:=ad;rw[KO (by rw[ca.2.2];exact KG _)] at bb;have bh:=bj.ai aw;have d5:w.heap.size+1<V.heap.size:=bj.lt;have cz:=ae hU;obtain⟨a8,am,aF⟩:=hU.two;obtain⟨d0,aL,aM⟩:=bh.two;obtain⟨c7,dk⟩:=aI bh bb;clear aw hU ab r bb ce bh;go_wp2;generalize hX:World.setCell _ _ _=gN;obtain⟨f2,cP,b5⟩:=bA (w:=w) [.slice bY gn c1,.slice A2 mn bP,.slice A fn c,.int .i64 mi] (by rfl) c7.o (cj.trans cp.1) (Nat.le_succ _) hX;obtain⟨bl,aA,aO⟩:=f2.two;clear a8 am aF d0 aL aM a0 ai af;refine Ln (v:=.tuple #[.agg #[.slice bY gn c1,.slice A2 mn bP,.slice A fn c,.int .i64 mi],.int .i64 0,.int .i64 0,.int .i64 0]) (by simp[results,Tryz.results32,go_sem,bl]) rfl ?_;have bd:(gi p).main=(mi:Int):=by
      show jh (bo p) iG=_
      unfold jh;rw[show iG=⟨#[109,97,105,110]⟩ from rfl,dl.o]
     have eD:=cj.size;have d7:=b5.size;have bt:∀b,V.heap.size≤b→b<wr.heap.size→gN.heap[b]?=wr.heap[b]?:=fun b ac av=>b5.block b av ad;have da:=cp.2.2.1.dj b5.size fun b ak hp=>by
      rcases hp with hp|hp
      ·exact hp.elim
      ·exact bt b (by have:=(cp.2.2.1.lt hp).1;omega) ak
     have bi:=cp.2.2.2.1.dj b5.size fun b ak hp=>by
      rcases hp with hp|hp
      ·exact hp.elim
      ·exact bt b (by have:=(cp.2.2.2.1.lt hp).1;omega) ak
     have cO:=dk.dj b5.size fun b ak hp=>by
      rcases hp with hp|hp
      ·exact bt b ad ak
      ·exact bt b (by have:=(dk.lt hp).1;omega) ak
     refine⟨bY,gn,c1,A2,mn,bP,A,fn,c,by rw[bd],?_,cP⟩;unfold tG;rw[bd,bK];exact aN.2 ⟨bY,gn,c1,_,rfl,bi.cap.1,bi.sl (fun b _ h=>h.elim) (fun b ac av=>⟨ad,ac⟩),aN.2 ⟨A2,mn,bP,_,rfl,da.cap.1,da.sl (fun b _ h=>h.elim) (fun b ac av=>⟨ad,ac⟩),
      aN.2 ⟨A,fn,c,_,rfl,cO.cap.1,cO.sl (fun b ac av=>⟨ad,ac⟩) (fun b ac av=>⟨ad,ac⟩),bm.2 ⟨_,rfl,aP.2 rfl⟩⟩⟩⟩
 ):p:=h
theorem su(h:p:=by
 have cw:(bo p).length≤100:=by rw[kQ];omega
 obtain⟨mi,be,an,cK,a1⟩:=hp.main;have cV:dB (bo p) ⟨#[109,97,105,110]⟩=some ⟨⟨#[109,97,105,110]⟩,3,(mi:Int)⟩:=by
  have:=kZ (nM hp) (KJ (xy an));rw[cK] at this;exact this
 have bx:mi<fn:=by have:=(List.getElem?_eq_some_iff.1 an).1;omega
 obtain⟨bv,ck,dh,dl⟩:=iS h hp dG cV;have dq:=ag an a1;have ca:=aB dv lm lf;have d2:=ae cw;clear h hp dG cV an cK a1 dv lm lf cw;go_enter func32,ntmps32;go_upto_region 1 with(fail);generalize ba:World.alloc _ _=W;have aw:=iO ba;have aR:=gB ba;have dE:=fZ ba;obtain⟨bq,b2,du⟩:=eh aw aR dE;obtain⟨a0,ai,af⟩:=aR.two;have dR:∀(aS:World),Ext w aS→hk aS (au aS) p GA gn MA mn FA fn:=fun _ he=>⟨bv.g.on (Fr.ext he),bv.m.on (Fr.ext he),bv.f.on (Fr.ext he)⟩
 have ay:=ae dR;clear ba aw aR dE dR;go_wp2_with(fail);refine(FQ p ck.o GA gn gc MA mn mc FA fn fc W (ay.o _ bq.o)).mono ?_;rintro e aS ⟨rfl,ar⟩;have bu:=ae (bq.trans ar);have cE:=b2.ai ar;have G:=ae cE;have cX:=ae (du.ai ar);clear a0 ai af ar;obtain⟨a0,ai,af⟩:=cE.two;clear cE;go_wp2_with(fail);refine(sH p ck.o GA gn gc MA mn mc FA fn fc aS (ay.o _ bu.o)).mono ?_;rintro e aT ⟨S,lc,rfl,y,bw⟩;have a4:=ae (bu.trans bw);have bs:=G.ai bw;have cb:=ae bs;have c2:=ae (cX.ai bw);have ci:Sl aT (au aT) S (bo p).length ((bo p).map bZ):=y.mono fun b O=>O.2;have ch:=ae ci;clear a0 ai af bw y ci;obtain⟨a0,ai,af⟩:=bs.two;clear bs;go_wp2_with(fail);refine(dV S (bo p).length lc (bo p) ⟨#[109,97,105,110]⟩ aT ch.o (aD d2.o)).mono ?_;rintro e b6 ⟨rfl,bV⟩;rw[dl.o];simp only[iU,qY];have a9:=ae (a4.trans bV);have a7:=ae (cb.ai bV);have c5:=ae (c2.ai bV);have dn:=ae (ch.on (Fr.ext bV));clear a0 ai af bV;go_upto_region 7 with(fail);generalize hV:World.alloc _ _=V;have L:=aU hV;have dr:=aG hV;have cj:=ae (a9.trans L);have b7:=a7.ai L;have T:=ae b7;have bj:=ae (c5.ai L);have dp:=ae (dn.on (Fr.ext L));have d1:=ae dr;obtain⟨b1,c6,a6,cs,rfl,cx,bG,bE,cJ,cn⟩:=(ay.o _ cj.o).f.gZ nh bx;rw[dq.1] at bG;injection bG with bG;subst bG;obtain⟨PA,pn,pc,cf,bn,bc,rfl,c4,cv,cA,_⟩:=kS.1 bE;have f4:=cn 1 _ rfl;have bO:b1<V.heap.size:=cx;obtain rfl:0=pn:=by have:=cA.1;rw[dq.2] at this;exact this
 clear hV L bE cJ cn cA cx;obtain⟨a0,ai,af⟩:=b7.two;obtain⟨a8,am,aF⟩:=dr.two;clear b7 dr;go_upto_region 9 with(fail);have cZ:=ae (ay.o _ cj.o).m;obtain⟨cY,dA⟩:∃N,N=V.heap.size:=⟨_,rfl⟩
 have gD:¬cY≤w.heap.size:=ad;have gE:¬cY≤b6.heap.size:=ad;clear f4 bO;refine q4 (fun b=>cY≤b) [8] (.free 0 (.held 1 (.free 3 (.held 4 (.pick [2,7] (fun i=>bif i == 2 then .pick [5,7] (fun i=>bif i == 5 then .free 6 (.pick [7] (fun _=>.pick [8] (fun _=>.stop))) else .pick [5] (fun _=>.free 6 (.pick [8] (fun _=>.stop)))) else .pick [2] (fun _=>.pick [5] (fun _=>.free 6 (.pick [8] (fun _=>.stop)))))))))) ?_;refine tf ?_;refine mV ?_;refine tf ?_;refine mV ?_;clear a0 ai af a8 am aF;refine iM (P:=?oB) (ops:=?Hu) (Q:=?Hw) (R:=?Hy) (tails:=?HI) (rest:=.pick [8] (fun _=>.stop)) (aa:=?G6)
  (C:=fun(_:Nat) u A2 bP bT=>Ext V bT∧Gr (fun _=>False) cY 128 3 bT A2 mn bP (p.af.map ey)∧aq bT u 30 #[.slice none 0 0,.slice none 0 0,.slice none 0 0,.int .i64 0]∧(Value.slice A2 mn bP).ownBlock≠some u∧cY≤u) (fun key=>?wa) ?vY
 case wa=>
  refine aY ?_ ?_
  ·
   refine dP ?_;generalize hV:World.drew (World.alloc _ _)=bz;have e1:=gF hV;have c8:Gr (fun _=>False) cY 128 3 bz (some ⟨V.heap.size,0,none⟩) 0 0 []:=by rw[←hV,dA];exact(Gr.lit (w:=V) (n:=0) (l:=[]) rfl (by rfl) ad (by simp only[D.aQ])).ai Lo.drew
   clear hV;refine aY ?_ ?_
   ·
    refine aC rfl (fun K hK=>?_) rfl;rw[if_pos (by rfl)];refine jl lM (.tmp 56) (.tmp 58) (by rfl) c8 (p2 p.af) cZ.1 (sT (cZ.on (Fr.ext e1))) (fun h=>by subst h;exact Sl.none_ cZ.o) (by rfl) (by rfl) ad ad (by rw[dA];exact e1.size) ?_;intro A2 bP cQ cd f1 o1 c1;refine dz hK (f1.mono fun b O=>ad) ?_;clear hK K;refine tf ?_;refine ao ?_;refine dP ?_;have e2:Ext V cQ:=Fr.low (M:=fun b=>V.heap.size≤b) ((e1.mono fun _ h=>h.elim).trans (f1.mono fun b O=>ad)) fun _ h=>h;have F:Ext V (cQ.alloc (.cells #[.slice none 0 0,.slice none 0 0,.slice none 0 0,.int .i64 0] 30))∧Gr (fun _=>False) cY 128 3 (cQ.alloc (.cells #[.slice none 0 0,.slice none 0 0,.slice none 0 0,.int .i64 0] 30)) A2 mn bP (p.af.map ey)∧aq (cQ.alloc (.cells #[.slice none 0 0,.slice none 0 0,.slice none 0 0,.int .i64 0] 30)) cQ.heap.size 30 #[.slice none 0 0,.slice none 0 0,.slice none 0 0,.int .i64 0]∧(Value.slice A2 mn bP).ownBlock≠some cQ.heap.size∧cY≤cQ.heap.size:=
     ⟨e2.alloc _,cd.ai (Lo.alloc _),Lp,fun O=>by have:=(cd.lt O).2;omega,by have:=e2.size;omega⟩
    clear cd c8 f1 o1 e1 e2;revert F;generalize cQ.heap.size=u;generalize V.heap.size=ds;intro F;exact key ds u A2 bP _ F
   ·
    refine dP ?_;generalize hV:World.alloc _ _=eR;have e2:=aU hV;have cl:aq eR bz.heap.size 30 #[.slice none 0 0,.slice none 0 0,.slice none 0 0,.int .i64 0]:=hV▸Lp;have dK:V.heap.size<bz.heap.size:=(c8.lt (g:=V.heap.size) rfl).2;clear hV;refine ao ?_;refine aC rfl (fun K hK=>?_) rfl;rw[if_pos (by rfl)];refine jl lM (.tmp 56) (.tmp 58) (by rfl) (c8.ai e2) (p2 p.af) cZ.1 (sT (cZ.on (Fr.ext (e1.trans e2)))) (fun h=>by subst h;exact Sl.none_ cZ.o) (by rfl) (by rfl) ad ad (by rw[dA];exact(e1.trans e2).size) ?_;intro A2 bP cQ cd f1 o1 c1;refine dz hK (f1.mono fun b O=>ad) ?_;clear hK K;refine tf ?_;have e3:Ext V cQ:=Fr.low (M:=fun b=>V.heap.size≤b) (((e1.trans e2).mono fun _ h=>h.elim).trans (f1.mono fun b O=>ad)) fun _ h=>h;have dN:=cl.lt;have F:Ext V cQ∧Gr (fun _=>False) cY 128 3 cQ A2 mn bP (p.af.map ey)∧aq cQ bz.heap.size 30 #[.slice none 0 0,.slice none 0 0,.slice none 0 0,.int .i64 0]∧(Value.slice A2 mn bP).ownBlock≠some bz.heap.size∧cY≤bz.heap.size:=⟨e3,cd,cl.on f1 ad,fun O=>by
     rcases o1 _ O with h|h
     ·omega
     ·omega,ad⟩
    clear cd c8 f1 o1 e1 e2 e3 cl dK dN;revert F;generalize bz.heap.size=u;generalize V.heap.size=ds;intro F;exact key ds u A2 bP _ F
  ·
   refine dP ?_;generalize hV:World.drew (World.alloc _ _)=bz;have e1:=gF hV;have cl:aq bz V.heap.size 30 #[.slice none 0 0,.slice none 0 0,.slice none 0 0,.int .i64 0]:=hV▸(Lp).drew;clear hV;refine ao ?_;refine dP ?_;generalize hV:World.alloc _ _=eR;have e2:=aU hV;have c8:Gr (fun _=>False) bz.heap.size 128 3 eR (some ⟨bz.heap.size,0,none⟩) 0 0 []:=hV▸Gr.lit (w:=bz) (n:=0) (l:=[]) rfl (by rfl) ad (by simp only[D.aQ]);have dj:=cl.ai e2;have dK:V.heap.size<bz.heap.size:=cl.lt;have dD:bz.heap.size≤eR.heap.size:=e2.size;clear hV cl;refine ao ?_;refine aC rfl (fun K hK=>?_) rfl;rw[if_pos (by rfl)];refine jl lM (.tmp 56) (.tmp 58) (by rfl) c8 (p2 p.af) cZ.1 (sT (cZ.on (Fr.ext (e1.trans e2)))) (fun h=>by subst h;exact Sl.none_ cZ.o) (by rfl) (by rfl) ad ad dD ?_;intro A2 bP cQ cd f1 o1 c1;refine dz hK (f1.mono fun b O=>ad) ?_;clear hK K;refine tf ?_;have e3:Ext V cQ:=Fr.low (M:=fun b=>V.heap.size≤b) (((e1.trans e2).mono fun _ h=>h.elim).trans (f1.mono fun b O=>ad)) fun _ h=>h;have F:Ext V cQ∧Gr (fun _=>False) cY 128 3 cQ A2 mn bP (p.af.map ey)∧aq cQ V.heap.size 30 #[.slice none 0 0,.slice none 0 0,.slice none 0 0,.int .i64 0]∧(Value.slice A2 mn bP).ownBlock≠some V.heap.size∧cY≤V.heap.size:=⟨e3,cd.base ad,dj.on f1 ad,fun O=>by have:=(cd.lt O).1;omega,ad⟩
   clear cd c8 f1 o1 e1 e2 e3 dj dK dD;revert F;generalize bz.heap.size=ds;generalize V.heap.size=u;intro F;exact key ds u A2 bP _ F
 case vY=>
  rintro ds u A2 bP Y ⟨dx,dy,bI,bf,d4⟩;obtain⟨a8,am,aF⟩:=bI.two;have bC:=bH dx dy bI bf;clear dx dy bI bf;exact fj
 ):p:=h
end BY
open BY in
theorem yw(p:bM)(hp:ox p)(dG:H2 p)(GA:Ls)(gn gc:Nat)(MA:Ls)(mn mc:Nat)(FA:Ls)(fn fc:Nat)(w:World)(h:hk w (au w) p GA gn MA mn FA fn) :
  Calls prog 32 #[.agg #[.slice GA gn gc,.slice MA mn mc,.slice FA fn fc]] w (xc w (gi p)):=by
 have dv:p.globals.length=gn:=by rw[←h.g.1,KK]
 have lm:p.af.length=mn:=by rw[←h.m.1,KK]
 have lf:p.funcs.length=fn:=by rw[←h.f.1,KK]
 exact ss
theorem Jd(p:bM)(hp:ox p):H2 p:=fun f J GA gn gc MA mn mc FA fn fc S ln lc PA pn pc cf bn bc w h hl cA bl=>
 (sM (fun U nk F b=>yc FC U nk F b) p hp f J GA gn gc MA mn mc FA fn fc S ln lc PA pn pc cf bn bc w h hl cA bl).mono fun _ _ h=>h
theorem DV(p:bM)(hp:ox p)(GA:Ls)(gn gc:Nat)(MA:Ls)(mn mc:Nat)(FA:Ls)(fn fc:Nat)(w:World)(h:hk w (au w) p GA gn MA mn FA fn) :
  Calls prog 32 #[.agg #[.slice GA gn gc,.slice MA mn mc,.slice FA fn fc]] w (xc w (gi p)):=yw p hp (Jd p hp) GA gn gc MA mn mc FA fn fc w h
end Go.Proofs.YtnhhdaggkiomoaaGreat

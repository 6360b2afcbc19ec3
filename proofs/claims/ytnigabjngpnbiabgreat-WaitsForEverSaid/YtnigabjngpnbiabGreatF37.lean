/- Part 37 of the proof. No condition of its own. -/
import Derived.Test.YtnigabjngpnbiabGreatF27
import Derived.Test.YtnigabjngpnbiabGreatF35
namespace Go.Proofs.YtnigabjngpnbiabGreat
open Go.RowKit Go.Proofs.Tryz
set_option maxRecDepth 1000000
set_option maxHeartbeats 25600000
set_option linter.unusedVariables false
variable{B g z:Nat}{P:Nat->Prop}{p:Prop}{e:TypeId}{f:aI}{b:al}
theorem x2{P:Program}{ops:Array Oper}{Q:Exit->Act->World->Prop}{R:World->World->Prop}{tails:List Nat}{α β γ δ ε ζ η:Type}{rest:PT}{aa:α->β->γ->δ->ε->ζ->η->Act}{C:α->β->γ->δ->ε->ζ->η->World->Prop}{G:Prop}
  (h:(∀a b c d e f g V,C a b c d e f g V->cY P ops Q R tails rest (aa a b c d e f g) V)->G) (key:∀a b c d e f g V,C a b c d e f g V->cY P ops Q R tails rest (aa a b c d e f g) V):G:=h key
theorem qJ{w:World}(l:List bM):D.aQ w P (l.map eF) (l.flatMap hA):=nj (λ_=>fv.2 rfl) l
theorem tN{w:World}{A:NH}{n:Nat}{l:List bM}(h:Sl w (av w) A n (l.map eF)):Src w 3 A n (l.flatMap hA):=Src.l0 (Sl.tO h) (Fh _) (Fw _) ad
theorem Je:cq prog 24 82 (.agg #[NF,(0:Int),(0:Int),(0:Int),()]) 5 64:=cq.mk' Tryz.underlying24 (by kernel_rfl) rfl ad
def yk(w:World)(u:aw)(e:Ending)(ab:World):Prop:=∃(GA:NH) (gn gc:Nat) (MA:NH) (mn mc:Nat) (PA:NH) (pn pc:Nat),
 e=.returned (.tuple #[.agg #[.slice GA gn gc,.slice MA mn mc,.slice PA pn pc,.int .i64 u.main],.int .i64 0,.int .i64 0,.int .i64 0])/\(uR u).rep ab (fresh w ab) [.slice GA gn gc,.slice MA mn mc,.slice PA pn pc,.int .i64 u.main]/\Ext w ab
def IX(w:World)(x:cR)(e:Ending)(ab:World):Prop:=∃(A:NH) (n c:Nat) (bI:NH) (bU bx:Nat),
 e=.returned (.tuple #[.agg #[.string x.name,.int .i64 x.ints,.int .i64 x.az,.int .i64 x.locals,.slice A n c],.slice bI bU bx,.int .i64 0,.int .i64 0])/\(gA x).rep ab (fresh w ab) [.string x.name,.int .i64 x.ints,.int .i64 x.az,.int .i64 x.locals,.slice A n c]/\Ext w ab
def Kf(p:bN):Prop:=∀(f:aI),f∈p.funcs->∀(GA:NH) (gn gc:Nat) (MA:NH) (mn mc:Nat) (FA:NH) (fn fc:Nat) (bC:NH) (ln lc:Nat) (PA:NH) (pn pc:Nat) (f0:NH) (bn bc:Nat) (w:World),
  gX w (av w) p GA gn MA mn FA fn->Sl w (av w) bC ln ((bp p).map b2)->Sl w (av w) PA pn (f.params.map cC)->Sl w (av w) f0 bn (dc f.body)->
  Calls prog 49 #[.agg #[.slice GA gn gc,.slice MA mn mc,.slice FA fn fc],.slice bC ln lc,.agg #[.string f.name,.slice PA pn pc,.slice f0 bn bc]] w (IX w (eB p f))
namespace Dr
theorem c4(h:p:=by
 clear bs am aK;generalize hX:World.setCell _ _ _=dN;have J:=cP hX;obtain⟨ao,aA,ci,e1,aY⟩:=b7.o;have r1:Ext V dN:=Fr.low (M:=λb=>V.heap.size<=b) (((cC.1.trans e1).mono λ_ h=>h.elim).trans ((aA.mono λb O=>by have:=j b O;omega).trans (J.mono λb O=>ad))) λ_ h=>h;have gw:an dN z 26 #[.slice cu (k+1) c3,.slice A2 mn bR,(),mi]:=hX▸aY.aK 0 _;have gM:=((cC.2.2.1.aj e1).dm aA.size λb ap hp=>aA.block b ap λhe=>by
  rcases hp with hp|hp
  .exact hp.elim
  .have:=j b he;have:=(ca.o b hp).2;omega).dm J.size λb ap hp=>J.block b ap λhe=>by
  rcases hp with hp|hp
  .exact hp.elim
  .exact(ca.o b hp).1 he
 have gV:Gr (λ_=>False) aw 3 1 dN cu (k+1) c3 (((p.globals.take (k+1)).map (·.2)).map D.i):=by
  rw[aU aP.o,Na,Na];exact ao.dm J.size λb ap hp=>J.block b ap λhe=>by
   rcases hp with hp|hp
   .exact hp.elim
   .have:=(ao.lt hp).1;omega
 have gW:aw<=dN:=by have ac:=e1.size;have az:=aA.size;have aV:=J.size;omega
 have a3:=cQ r1 gw gM gV gW;clear r1 gw gM gV gW ao aA ci e1 aY J hX;go_wp2;go_roundw
 case rel=>exact⟨k+1,cu,c3,ad,by go_num,a3.o⟩
 case measure=>exact aH
 ):p:=h
theorem fC(h:p:=by
 refine cj ?_;generalize hX:World.setCell _ _ _=X;obtain⟨dq,dr,bM,bl⟩:=bB.o;obtain⟨bY,bt,b9⟩:=a9 (w:=V) [(),.slice A2 mn bR,(),mi] (by rfl) bM dq ad hX;have cN:=dr.dm b9.size λb ap hp=>b9.block b ap λhe=>by
  subst he;rcases hp with hp|hp
  .exact hp.elim
  .exact bl hp
 obtain⟨aw,ag⟩:∃N,N=X.heap.size:=⟨_,rfl⟩
 have a7:∀b,(Value.slice A2 mn bR).ownBlock=some b->b≠z/\b<aw:=λb O=>⟨λe=>bl (by rw[<-e];exact O),by have:=(cN.lt O).2;omega⟩
 have ca:=ae a7;have c2:=ae (show Ext V X/\an X z 26 #[(),.slice A2 mn bR,(),mi]/\Gr (λ_=>False) cV 112 3 X A2 mn bR (p.af.map eF)/\Gr (λ_=>False) aw 3 1 X none 0 0 (((p.globals.take 0).map (·.2)).map D.i)/\aw<=X from ⟨bt,bY,cN,Gr.nil _ _ _ _ _,ad⟩);have dW:z<aw:=by have:=bY.lt;omega
 clear bB hX bY bt b9 cN dq dr bM bl a7 bs am aK;have bo:=cn.aj c2.1;obtain⟨a0,ak,af⟩:=bo.two;clear bo;go_wp2;clear a0 ak af;go_loopw [11] (λb5 wr=>∃(k:Nat) (A:NH) (c:Nat),k<=gn/\b5=.int .i64 k/\Ext V wr/\an wr z 26 #[.slice A k c,.slice A2 mn bR,(),mi]/\Gr (λ_=>False) cV 112 3 wr A2 mn bR (p.af.map eF)/\Gr (λ_=>False) aw 3 1 wr A k c (((p.globals.take k).map (·.2)).map D.i)/\aw<=wr.heap.size) (λb5 _=>gn - (intOf b5).toNat)
 case atStart=>exact⟨0,none,0,ad,rfl,c2.o⟩
 case round=>
  obtain⟨k,A,c,aj,rfl,aF,hU,H,s,bA⟩:=hrel;clear c2;have cC:=cQ aF hU H s bA;have bh:=cn.aj aF;obtain⟨a0,ak,af⟩:=bh.two;obtain⟨bs,am,aK⟩:=hU.two;by_cases ap:k<gn
  .obtain⟨b,o,g,cs,rfl,O,hx,ba,bu,Z⟩:=(L.o _ (bQ.trans aF)).g.g1 px ap;obtain rfl:=mW.1 ba;have cU:=Z 1 _ rfl;have aZ:b<wr:=O;have aP:=ae hx;clear aF hU H s bh ba bu Z O hx;go_wp2;refine eJ (λ_=>False) [(0,3),(1,0),(2,3),(3,0),(4,3),(5,3),(6,3),(7,0),(8,1),(9,2),(10,3),(11,2)] ?_;refine pf ?_;refine ph ?_;refine pf ?_;refine ph ?_
   iterate 3 refine pf ?_
   refine ph ?_;refine rS ?_;generalize hV:World.drew (World.alloc _ _)=db;have e1:=hy hV;have cY:an db wr 3 #[.int .i64 g.2]:=hV▸(ND).drew;clear hV;refine au rfl (λK hK=>?_);rw[if_pos (by rfl)];refine fq cF (.tmp 69) (.tmp 76) (by rfl) (cC.2.2.2.1.aj e1) cY (show (D.i g.2).rep db _ _ from by simp only[D.rep]) (by rfl) (by rfl) (by rfl) ad ad (ax e1.size) ?_;intro cu c3 cO ao aA ci b8;have j:∀b,(Value.slice A k c).ownBlock=some b->aw<=b:=λb O=>(cC.2.2.2.1.lt O).1;have aY:=(cC.2.1.aj e1).on aA λO=>by have:=j _ O;omega
   have b7:=cQ ao aA ci e1 aY;clear ao aA ci e1 cY a0 ak af bs am aK cU aZ;obtain⟨bs,am,aK⟩:=aY.two;clear aY;exact nH
  .obtain rfl:gn=k:=ad;rw[Nb (by rw[bT.1];exact MU _)] at s;obtain⟨S,r⟩:∃N,N=wr.heap.size:=⟨_,rfl⟩
   have dD:=hU.lt;have dR:z<S:=ad;have df:∀b,(Value.slice A gn c).ownBlock=some b->b≠z/\b<S:=λb O=>⟨by have:=(s.lt O).1;omega,by have:=(s.lt O).2;omega⟩
   have b4:=ae df;have dQ:aw<=S:=ad;have dg:=ae (show Ext V wr/\an wr z 26 #[.slice A gn c,.slice A2 mn bR,(),mi]/\Gr (λ_=>False) cV 112 3 wr A2 mn bR (p.af.map eF)/\Gr (λ_=>False) aw 3 1 wr A gn c ((p.globals.map (·.2)).map D.i)/\Gr (λb=>S<=b) S 82 5 wr none 0 0 (((p.funcs.take 0).map (eB p)).map gA)/\S<=wr from ⟨aF,hU,H,s,Gr.nil _ _ _ _ _,ad⟩);clear cC aF hU H s bh df dD bs am aK aj ap;generalize A=cR at *;generalize c=c1 at *;go_wp2;clear a0 ak af;go_loopw [12] (λb5 wr=>∃(k:Nat) (A:NH) (c:Nat),k<=fn/\b5=.int .i64 k/\Ext V wr/\an wr z 26 #[.slice cR gn c1,.slice A2 mn bR,.slice A k c,mi]/\Gr (λ_=>False) cV 112 3 wr A2 mn bR (p.af.map eF)/\Gr (λ_=>False) aw 3 1 wr cR gn c1 ((p.globals.map (·.2)).map D.i)/\Gr (λb=>S<=b) S 82 5 wr A k c (((p.funcs.take k).map (eB p)).map gA)/\S<=wr.heap.size) (λb5 _=>fn - (intOf b5).toNat)
   case atStart=>exact⟨0,none,0,ad,rfl,dg.o⟩
   case round=>
    obtain⟨k,A,c,aj,rfl,aF,hU,H,s,aC,bA⟩:=hrel;clear dg;have cC:=dH aF hU H s aC bA;have bh:=cn.aj aF;obtain⟨a0,ak,af⟩:=bh.two;by_cases ap:k<fn
    .obtain⟨b,o,f,cs,I,O,hx,ba,bu,Z⟩:=(L.o _ (bQ.trans aF)).f.g1 nQ ap;injection I with I;injection I with hFA1 hFA2;subst hFA1 hFA2;obtain⟨QA,cq,qc,m,U,ab,rfl,gS,dG,cv,b3⟩:=lr.1 ba;have c0:=Z 0 _ rfl;have cU:=Z 1 _ rfl;have gP:=Z 2 _ rfl;simp only[Nd] at c0;have aZ:ch<wr:=O;have aP:=ay hx cv b3;have dA:=L.o _ (bQ.trans aF);have dx:=dk.on (Fr.ext aF);have u:=ah dA dx;clear aF hU H s aC bh ba bu Z O hx cv b3 dA dx;go_upto_region 17 with(fail);refine sK (λ_=>False) [7,14] (.held 0 (.free 1 (.free 2 (.held 3 (.free 4 (.free 5 (.held 6 (.pick [7,13] (λi=>bif i == 7 then .free 8 (.free 9 (.free 10 (.free 11 (.free 12 (.pick [13] (λ_=>.pick [14] (λ_=>.free 15 (.free 16 (.free 17 (.stop)))))))))) else .pick [7] (λ_=>.free 8 (.free 9 (.free 10 (.free 11 (.free 12 (.pick [14] (λ_=>.free 15 (.free 16 (.free 17 (.stop))))))))))))))))))) ?_;refine th ?_
     iterate 2 refine tf ?_
     refine th ?_
     iterate 2 refine tf ?_
     refine th ?_;clear a0 ak af c0 cU gP;refine x2 (P:=?LM) (ops:=?LY) (Q:=?LZ) (R:=?L0) (tails:=?L1) (rest:=.pick [14] (λ_=>.free 15 (.free 16 (.free 17 (.stop))))) (aa:=?LN)
      (C:=λ(dd:Nat) (cr:NH) (cI rc:Nat) (bI:NH) (bU bx:Nat) eX=>Ext wr eX/\an eX dd 82 #[NF,(0:Int),(0:Int),(0:Int),()]/\wr<=dd/\(gA (eB p f)).rep eX (λb=>wr.heap.size<=b/\b<eX.heap.size/\b≠dd) [.string (eB p f).name,.int .i64 (eB p f).ints,.int .i64 (eB p f).az,.int .i64 (eB p f).locals,.slice cr cI rc]) (λkey=>?KJ) ?KF
     case KJ=>
      refine a2 ?_ ?_
      ·
       refine bP rfl (λK hK=>?_) rfl;go_simp;refine(cZ.o f (M4 aP.1) GA gn gc MA mn mc (some ⟨ch,cT,none⟩) fn fc bC (bp p).length lc QA cq qc m U ab wr.drew ⟨u.1.g.on (Fr.ext NC.drew),u.1.m.on (Fr.ext NC.drew),u.1.f.on (Fr.ext NC.drew)⟩ (u.2.on (Fr.ext NC.drew)) (aP.2.1.on (Fr.ext NC.drew)) (aP.2.2.on (Fr.ext NC.drew))).mono ?_;rintro e aO ⟨cr,cI,rc,bI,bU,bx,rfl,bD,ar⟩;refine dY hK ?_;clear hK K
       iterate 5 refine tf ?_
       refine aq ?_;refine ep ?_;have F:Ext wr (aO.alloc (.cells #[NF,(0:Int),(0:Int),(0:Int),()] 82))/\an (aO.alloc (.cells #[NF,(0:Int),(0:Int),(0:Int),()] 82)) aO 82 #[NF,(0:Int),(0:Int),(0:Int),()]/\wr<=aO.heap.size/\(gA (eB p f)).rep (aO.alloc (.cells #[NF,(0:Int),(0:Int),(0:Int),()] 82)) (λb=>wr.heap.size<=b/\b<(aO.alloc (.cells #[NF,(0:Int),(0:Int),(0:Int),()] 82)).heap.size/\b≠aO.heap.size) [.string (eB p f).name,.int .i64 (eB p f).ints,.int .i64 (eB p f).az,.int .i64 (eB p f).locals,.slice cr cI rc]:=
        ⟨(Fr.aF ar).alloc _,ND,(Fr.aF ar).size,D.aM (λb O=>⟨O.1,by have:=O.2;simp;omega,by have:=O.2;omega⟩) _ _ (D.aO (λb O=>Below.heap_alloc aO _ b O.2) _ _ bD)⟩
       clear bD ar;revert F;generalize aO.heap.size=dd;intro F;exact key dd cr cI rc bI bU bx _ F
      ·
       refine ep ?_;generalize hV:World.alloc _ _=bg;have co:=aX hV;have bh:=aL hV;clear hV;refine aq ?_;refine bP rfl (λK hK=>?_) rfl;go_simp;refine(cZ.o f (M4 aP.1) GA gn gc MA mn mc (some ⟨ch,cT,none⟩) fn fc bC (bp p).length lc QA cq qc m U ab bg.drew ⟨u.1.g.on (Fr.ext co.drew),u.1.m.on (Fr.ext co.drew),u.1.f.on (Fr.ext co.drew)⟩ (u.2.on (Fr.ext co.drew)) (aP.2.1.on (Fr.ext co.drew)) (aP.2.2.on (Fr.ext co.drew))).mono ?_;rintro e aO ⟨cr,cI,rc,bI,bU,bx,rfl,bD,ar⟩;refine dY hK ?_;clear hK K
       iterate 5 refine tf ?_
       have cB:=bh.lt;have F:Ext wr aO/\an aO wr 82 #[NF,(0:Int),(0:Int),(0:Int),()]/\wr<=wr.heap.size/\(gA (eB p f)).rep aO (λb=>wr.heap.size<=b/\b<aO.heap.size/\b≠wr.heap.size) [.string (eB p f).name,.int .i64 (eB p f).ints,.int .i64 (eB p f).az,.int .i64 (eB p f).locals,.slice cr cI rc]:=
        ⟨co.trans (Fr.aF ar),bh.aj (Fr.aF ar),MU _,D.aM (λb O=>⟨by have ac:bg.heap.size<=b:=O.1;omega,O.2,by have ac:bg.heap.size<=b:=O.1;omega⟩) _ _ bD⟩
       clear bD ar co bh cB;exact key wr cr cI rc bI bU bx _ F
     case KF=>
      rintro dd cr cI rc bI bU bx eX ⟨dp,T,dF,bD⟩;obtain⟨d0,aQ,aS⟩:=T.two;have al:=ay dp T bD;clear dp T bD;refine aq ?_;refine bP rfl (λK hK=>?_) rfl;go_simp;refine dY hK ?_;clear hK K
      iterate 3 refine tf ?_
      refine cj ?_;generalize hX:World.setCell _ _ _=g9;obtain⟨dp,T,bD⟩:=al.o;obtain⟨bh,bV,bd⟩:=a9 (w:=wr) [.string (eB p f).name,.int .i64 (eB p f).ints,.int .i64 (eB p f).az,.int .i64 (eB p f).locals,.slice cr cI rc] (by rfl) T dp dF hX;have bS:=cC.2.1.aj bV;have bv:=cC.2.2.2.2.1.aj bV;have ct:∀b,(Value.slice A k c).ownBlock=some b->b<wr.heap.size:=λb O=>(cC.2.2.2.2.1.lt O).2;have dT:=bd.size;have d1:=bV.size;have hd:(gA (eB p f)).rep g9 (lD (λb=>S<=b) g9 (.slice A k c)) [.string (eB p f).name,.int .i64 (eB p f).ints,.int .i64 (eB p f).az,.int .i64 (eB p f).locals,.slice cr cI rc]:=
       D.aM (λb O=>⟨by have:=O.1;omega,by have:=O.2.1;omega,λhc=>by have:=ct b hc;have:=O.1;omega⟩) _ _ (D.aO (λb O=>bd.block b O.2.1 O.2.2) _ _ bD)
      have dz:=ay bV bv hd;clear hX dp T bD bd bv hd d0 aQ aS al ct bV;obtain⟨d0,aQ,aS⟩:=bh.two;obtain⟨bs,am,aK⟩:=bS.two;have dO:=ae bS;clear bh bS;go_wp2_with((at_builtin;refine bJ Je rfl (.tmp 106) (.tmp 108) rfl dz.2.1 dz.2.2 rfl rfl rfl ad ad ad ?_;intro cu c3 cJ ao aA ci b8;have bW:=dO.on aA (λO=>by have:=(dz.2.1.lt O).1;omega);clear bs am aK d0 aQ aS;obtain⟨bs,am,aK⟩:=bW.two;have dP:=ae bW;clear bW));generalize hX:World.setCell _ _ _=dC;have cM:=cP hX;have bV:=dz.1;have j:∀b,(Value.slice A k c).ownBlock=some b->S<=b:=λb O=>(dz.2.1.lt O).1;have dL:(((p.funcs.take (k+1)).map (eB p)).map gA)=((p.funcs.take k).map (eB p)).map gA++[gA (eB p f)]:=by rw[aU aP.1,Na,Na];rfl
      have q1:Ext V dC:=Fr.low (M:=λb=>V.heap.size<=b) (((cC.1.trans bV).mono λ_ h=>h.elim).trans ((aA.mono λb O=>by have:=j b O;omega).trans (cM.mono λb O=>ad))) λ_ h=>h;have cL:an dC z 26 #[.slice cR gn c1,.slice A2 mn bR,.slice cu (k+1) c3,mi]:=hX▸dP.aK 2 _;have de:=((cC.2.2.1.aj bV).dm aA.size λb ap hp=>aA.block b ap λhe=>by
       rcases hp with hp|hp
       .exact hp.elim
       .have:=j b he;have:=(ca.o b hp).2;omega).dm cM.size λb ap hp=>cM.block b ap λhe=>by
       rcases hp with hp|hp
       .exact hp.elim
       .exact(ca.o b hp).1 he
      have dc:=((cC.2.2.2.1.aj bV).dm aA.size λb ap hp=>aA.block b ap λhe=>by
       rcases hp with hp|hp
       .exact hp.elim
       .have:=j b he;have:=(b4.o b hp).2;omega).dm cM.size λb ap hp=>cM.block b ap λhe=>by
       rcases hp with hp|hp
       .exact hp.elim
       .exact(b4.o b hp).1 he
      have q5:Gr (λb=>S<=b) S 82 5 dC cu (k+1) c3 (((p.funcs.take (k+1)).map (eB p)).map gA):=by
       rw[dL];exact ao.dm cM.size λb ap hp=>cM.block b ap λhe=>by
        rcases hp with hp|hp
        .omega
        .have:=(ao.lt hp).1;omega
      have dj:S<=dC:=by have ac:=bV.size;have az:=aA.size;have aV:=cM.size;omega
      have a3:=dH q1 cL de dc q5 dj;clear q1 cL de dc q5 dj ao aA ci bV cM hX j dL bs am aK;go_wp2;go_roundw
      case rel=>exact⟨k+1,cu,c3,ad,by go_num,a3.o⟩
      case measure=>exact aH
    .obtain rfl:fn=k:=ad;rw[Nb (by rw[bT.2.2];exact MU _)] at aC;have bm:=bi.aj aF;have dZ:w+1<V.heap.size:=bi.lt;have cz:=ae hU;obtain⟨bs,am,aK⟩:=hU.two;obtain⟨d0,aQ,aS⟩:=bm.two;obtain⟨cK,c9⟩:=aJ bm aC;clear aF hU H s aC bh bm;go_wp2;generalize hX:World.setCell _ _ _=gN;obtain⟨gx,ce,bO⟩:=a9 (w:=w) [.slice cR gn c1,.slice A2 mn bR,.slice A fn c,mi] (by rfl) cK.o (bQ.trans cC.1) (Nat.le_succ _) hX;obtain⟨bq,a1,a5⟩:=gx.two;clear bs am aK d0 aQ aS a0 ak af;refine NB (v:=.tuple #[.agg #[.slice cR gn c1,.slice A2 mn bR,.slice A fn c,mi],(0:Int),(0:Int),(0:Int)]) (by simp[results,Tryz.results18,go_sem,bq]) rfl ?_;have aE:(gQ p).main=(mi:Int):=by
      show jC (bp p) iW=_
      unfold jC;rw[show iW=⟨#[109,97,105,110]⟩ from rfl,dn.o]
     have fh:=bQ.size;have d2:=bO.size;have aI:∀b,V.heap.size<=b->b<wr.heap.size->gN.heap[b]?=wr.heap[b]?:=λb ac az=>bO.block b az ad;have da:=cC.2.2.1.dm bO.size λb ap hp=>by
      rcases hp with hp|hp
      .exact hp.elim
      .exact aI b (by have:=(cC.2.2.1.lt hp).1;omega) ap
     have cW:=cC.2.2.2.1.dm bO.size λb ap hp=>by
      rcases hp with hp|hp
      .exact hp.elim
      .exact aI b (by have:=(cC.2.2.2.1.lt hp).1;omega) ap
     have bH:=c9.dm bO.size λb ap hp=>by
      rcases hp with hp|hp
      .exact aI b ad ap
      .exact aI b (by have:=(c9.lt hp).1;omega) ap
     refine⟨cR,gn,c1,A2,mn,bR,A,fn,c,by rw[aE],?_,ce⟩;unfold uR;rw[aE,bK];exact aN.2 ⟨cR,gn,c1,_,rfl,cW.cap.1,cW.sl (λb _ h=>h.elim) (λb ac az=>⟨ad,ac⟩),aN.2 ⟨A2,mn,bR,_,rfl,da.cap.1,da.sl (λb _ h=>h.elim) (λb ac az=>⟨ad,ac⟩),
      aN.2 ⟨A,fn,c,_,rfl,bH.cap.1,bH.sl (λb ac az=>⟨ad,ac⟩) (λb ac az=>⟨ad,ac⟩),bj.2 ⟨_,rfl,aR.2 rfl⟩⟩⟩⟩
 ):p:=h
theorem ti(h:p:=by
 have cA:(bp p).length<=100:=by rw[lp];omega
 obtain⟨mi,bf,aM,dS,cw⟩:=hp.main;have bE:dI (bp p) ⟨#[109,97,105,110]⟩=some ⟨⟨#[109,97,105,110]⟩,3,(mi:Int)⟩:=by
  have:=lB (oy hp) (M4 (yI aM));rw[dS] at this;exact this
 have bb:mi<fn:=by have:=(List.getElem?_eq_some_iff.1 aM).1;omega
 obtain⟨cG,ck,cZ,dn⟩:=jl h hp dw bE;have dm:=ah aM cw;have bT:=ay ds lm lf;have dU:=ae cA;clear h hp dw bE aM dS cw ds lm lf cA;go_enter func18,ntmps18;go_upto_region 1 with(fail);generalize be:World.alloc _ _=W;have aF:=g0 be;have aT:=e5 be;have dv:=eT be;obtain⟨bk,bL,dt⟩:=eU aF aT dv;obtain⟨a0,ak,af⟩:=aT.two;have dM:∀(aO:World),Ext w aO->gX aO (av aO) p GA gn MA mn FA fn:=λ_ he=>⟨cG.g.on (Fr.ext he),cG.m.on (Fr.ext he),cG.f.on (Fr.ext he)⟩
 have L:=ae dM;clear be aF aT dv dM;go_wp2_with(fail);refine(HK p ck.o GA gn gc MA mn mc FA fn fc W (L.o _ bk.o)).mono ?_;rintro e aO ⟨rfl,ar⟩;have bw:=ae (bk.trans ar);have cg:=bL.aj ar;have G:=ae cg;have cp:=ae (dt.aj ar);clear a0 ak af ar;obtain⟨a0,ak,af⟩:=cg.two;clear cg;go_wp2_with(fail);refine(tv p ck.o GA gn gc MA mn mc FA fn fc aO (L.o _ bw.o)).mono ?_;rintro e aW ⟨bC,lc,rfl,y,bF⟩;have a8:=ae (bw.trans bF);have bG:=G.aj bF;have cb:=ae bG;have cy:=ae (cp.aj bF);have bz:Sl aW (av aW) bC (bp p).length ((bp p).map b2):=y.mono λb O=>O.2;have cf:=ae bz;clear a0 ak af bF y bz;obtain⟨a0,ak,af⟩:=bG.two;clear bG;go_wp2_with(fail);refine(eh bC (bp p).length lc (bp p) ⟨#[109,97,105,110]⟩ aW cf.o (ax dU.o)).mono ?_;rintro e b6 ⟨rfl,bZ⟩;rw[dn.o];simp only[jq,rP];have a4:=ae (a8.trans bZ);have cm:=ae (cb.aj bZ);have cD:=ae (cy.aj bZ);have di:=ae (cf.on (Fr.ext bZ));clear a0 ak af bZ;go_upto_region 7 with(fail);generalize hV:World.alloc _ _=V;have ai:=aX hV;have cx:=aL hV;have bQ:=ae (a4.trans ai);have bX:=cm.aj ai;have cn:=ae bX;have bi:=ae (cD.aj ai);have dk:=ae (di.on (Fr.ext ai));have dV:=ae cx;obtain⟨ch,cT,b0,cs,rfl,cH,aB,b1,dh,a6⟩:=(L.o _ bQ.o).f.g1 nQ bb;rw[dm.1] at aB;injection aB with aB;subst aB;obtain⟨PA,pn,pc,f0,bn,bc,rfl,c7,c6,cc,_⟩:=lr.1 b1;have f4:=a6 1 _ rfl;have cS:ch<V:=cH;obtain rfl:0=pn:=by have:=cc.1;rw[dm.2] at this;exact this
 clear hV ai b1 dh a6 cc cH;obtain⟨a0,ak,af⟩:=bX.two;obtain⟨bs,am,aK⟩:=cx.two;clear bX cx;go_upto_region 9 with(fail);have cX:=ae (L.o _ bQ.o).m;obtain⟨cV,dy⟩:∃N,N=V.heap.size:=⟨_,rfl⟩
 have gE:¬cV<=w:=ad;have gF:¬cV<=b6:=ad;clear f4 cS;refine sK (λb=>cV<=b) [8] (.free 0 (.held 1 (.free 3 (.held 4 (.pick [2,7] (λi=>bif i == 2 then .pick [5,7] (λi=>bif i == 5 then .free 6 (.pick [7] (λ_=>.pick [8] (λ_=>.stop))) else .pick [5] (λ_=>.free 6 (.pick [8] (λ_=>.stop)))) else .pick [2] (λ_=>.pick [5] (λ_=>.free 6 (.pick [8] (λ_=>.stop)))))))))) ?_;refine tf ?_;refine pd ?_;refine tf ?_;refine pd ?_;clear a0 ak af bs am aK;refine jg (P:=?pT) (ops:=?J1) (Q:=?J3) (R:=?J4) (tails:=?J8) (rest:=.pick [8] (λ_=>.stop)) (aa:=?J0)
  (C:=λ(_:Nat) z A2 bR eX=>Ext V eX/\Gr (λ_=>False) cV 112 3 eX A2 mn bR (p.af.map eF)/\an eX z 26 #[(),(),(),(0:Int)]/\(Value.slice A2 mn bR).ownBlock≠some z/\cV<=z) (λkey=>?zU) ?zO
 case zU=>
  refine a2 ?_ ?_
  ·
   refine ep ?_;generalize hV:World.drew (World.alloc _ _)=bg;have e1:=hy hV;have c8:Gr (λ_=>False) cV 112 3 bg (some ⟨V,0,none⟩) 0 0 []:=by rw[<-hV,dy];exact(Gr.lit (w:=V) (n:=0) (l:=[]) rfl (by rfl) ad (by simp only[D.aQ])).aj NC.drew
   clear hV;refine a2 ?_ ?_
   ·
    refine aD rfl (λK hK=>?_) rfl;rw[if_pos (by rfl)];refine jG mf (.tmp 56) (.tmp 58) (by rfl) c8 (qJ p.af) cX.1 (tN (cX.on (Fr.ext e1))) (λh=>by subst h;exact Sl.none_ cX.o) (by rfl) (by rfl) ad ad (by rw[dy];exact e1.size) ?_;intro A2 bR cJ cd f1 o1 c1;refine dB hK (f1.mono λb O=>ad) ?_;clear hK K;refine tf ?_;refine aq ?_;refine ep ?_;have e2:Ext V cJ:=Fr.low (M:=λb=>V.heap.size<=b) ((e1.mono λ_ h=>h.elim).trans (f1.mono λb O=>ad)) λ_ h=>h;have F:Ext V (cJ.alloc (.cells #[(),(),(),(0:Int)] 26))/\Gr (λ_=>False) cV 112 3 (cJ.alloc (.cells #[(),(),(),(0:Int)] 26)) A2 mn bR (p.af.map eF)/\an (cJ.alloc (.cells #[(),(),(),(0:Int)] 26)) cJ 26 #[(),(),(),(0:Int)]/\(Value.slice A2 mn bR).ownBlock≠some cJ.heap.size/\cV<=cJ:=
     ⟨e2.alloc _,cd.aj (NC.alloc _),ND,λO=>by have:=(cd.lt O).2;omega,by have:=e2.size;omega⟩
    clear cd c8 f1 o1 e1 e2;revert F;generalize cJ.heap.size=z;generalize V.heap.size=fk;intro F;exact key fk z A2 bR _ F
   ·
    refine ep ?_;generalize hV:World.alloc _ _=eN;have e2:=aX hV;have cl:an eN bg 26 #[(),(),(),(0:Int)]:=hV▸ND;have dJ:V<bg.heap.size:=(c8.lt (g:=V.heap.size) rfl).2;clear hV;refine aq ?_;refine aD rfl (λK hK=>?_) rfl;rw[if_pos (by rfl)];refine jG mf (.tmp 56) (.tmp 58) (by rfl) (c8.aj e2) (qJ p.af) cX.1 (tN (cX.on (Fr.ext (e1.trans e2)))) (λh=>by subst h;exact Sl.none_ cX.o) (by rfl) (by rfl) ad ad (by rw[dy];exact(e1.trans e2).size) ?_;intro A2 bR cJ cd f1 o1 c1;refine dB hK (f1.mono λb O=>ad) ?_;clear hK K;refine tf ?_;have e3:Ext V cJ:=Fr.low (M:=λb=>V.heap.size<=b) (((e1.trans e2).mono λ_ h=>h.elim).trans (f1.mono λb O=>ad)) λ_ h=>h;have dK:=cl.lt;have F:Ext V cJ/\Gr (λ_=>False) cV 112 3 cJ A2 mn bR (p.af.map eF)/\an cJ bg 26 #[(),(),(),(0:Int)]/\(Value.slice A2 mn bR).ownBlock≠some bg.heap.size/\cV<=bg:=⟨e3,cd,cl.on f1 ad,λO=>by
     rcases o1 _ O with h|h
     .omega
     .omega,ad⟩
    clear cd c8 f1 o1 e1 e2 e3 cl dJ dK;revert F;generalize bg.heap.size=z;generalize V.heap.size=fk;intro F;exact key fk z A2 bR _ F
  ·
   refine ep ?_;generalize hV:World.drew (World.alloc _ _)=bg;have e1:=hy hV;have cl:an bg V 26 #[(),(),(),(0:Int)]:=hV▸(ND).drew;clear hV;refine aq ?_;refine ep ?_;generalize hV:World.alloc _ _=eN;have e2:=aX hV;have c8:Gr (λ_=>False) bg 112 3 eN (some ⟨bg,0,none⟩) 0 0 []:=hV▸Gr.lit (w:=bg) (n:=0) (l:=[]) rfl (by rfl) ad (by simp only[D.aQ]);have dl:=cl.aj e2;have dJ:V<bg.heap.size:=cl.lt;have du:bg<=eN.heap.size:=e2.size;clear hV cl;refine aq ?_;refine aD rfl (λK hK=>?_) rfl;rw[if_pos (by rfl)];refine jG mf (.tmp 56) (.tmp 58) (by rfl) c8 (qJ p.af) cX.1 (tN (cX.on (Fr.ext (e1.trans e2)))) (λh=>by subst h;exact Sl.none_ cX.o) (by rfl) (by rfl) ad ad du ?_;intro A2 bR cJ cd f1 o1 c1;refine dB hK (f1.mono λb O=>ad) ?_;clear hK K;refine tf ?_;have e3:Ext V cJ:=Fr.low (M:=λb=>V.heap.size<=b) (((e1.trans e2).mono λ_ h=>h.elim).trans (f1.mono λb O=>ad)) λ_ h=>h;have F:Ext V cJ/\Gr (λ_=>False) cV 112 3 cJ A2 mn bR (p.af.map eF)/\an cJ V 26 #[(),(),(),(0:Int)]/\(Value.slice A2 mn bR).ownBlock≠some V.heap.size/\cV<=V:=⟨e3,cd.base ad,dl.on f1 ad,λO=>by have:=(cd.lt O).1;omega,ad⟩
   clear cd c8 f1 o1 e1 e2 e3 dl dJ du;revert F;generalize bg.heap.size=fk;generalize V.heap.size=z;intro F;exact key fk z A2 bR _ F
 case zO=>
  rintro fk z A2 bR Y ⟨dq,dr,bM,bl,dX⟩;obtain⟨bs,am,aK⟩:=bM.two;have bB:=br dq dr bM bl;clear dq dr bM bl;exact fQ
 ):p:=h
end Dr
open Dr in
theorem zS(p:bN)(hp:pe p)(dw:Kf p)(GA:NH)(gn gc:Nat)(MA:NH)(mn mc:Nat)(FA:NH)(fn fc:Nat)(w:World)(h:gX w (av w) p GA gn MA mn FA fn) :
  Calls prog 18 #[.agg #[.slice GA gn gc,.slice MA mn mc,.slice FA fn fc]] w (yk w (gQ p)):=by
 have ds:p.globals.length=gn:=by rw[<-h.g.1,M5]
 have lm:p.af.length=mn:=by rw[<-h.m.1,M5]
 have lf:p.funcs.length=fn:=by rw[<-h.f.1,M5]
 exact tg
namespace Ec
theorem c4(h:p:=by
 generalize ci:World.setCell _ _ _=gU;have f:=bj.1.add aP.1 aP.2 ad (nD.snoc bj.1.ok aT (re:=true) (sz:=0) ad ad (by intro _;rfl));rw[ci] at f;have bp:=ae f;clear ci f a0 ak af;go_wp2_with(fail);go_roundw
 case rel=>exact⟨i+1,r,di,M++[⟨iV i,true,0⟩],by go_num,ad,bp.o⟩
 case measure=>exact aH
 ):p:=h
end Ec
open Ec in
theorem Mm(A:NH)(n c:Nat)(l:List Int)(w:World)(h:cp (EF bQ) 1 w w.heap.size A n l)(hc:n<=c)
  (s:∀K,(∀a ab,Code.wp prog (n9 13) (bodyPost prog Tryz.f34 (kA w)) a ab->K a ab)->GB w (.slice A n c) (bodyPost prog Tryz.f34 (kA w)) K) :
  Calls prog 34 #[.slice A n c] w (kA w):=by
 obtain⟨H,gX⟩:=aJ h s;clear h s;go_enter func34,ntmps34;go_upto_region 1 with(fail);generalize be:World.alloc _ _=W;have aF:=aX be;have cx:=aL be;have cZ:W=w.heap.size+1:=by rw[<-be];simp
 have y:=H.cD (Fr.ext aF) aF.size;have al:=ay aF cx y;clear be aF cx y;go_wp2_with(fail);refine(EN 400 A n c l W ad al.2.2 hc).mono ?_;rintro e aO ⟨⟨I,a6,aD,rfl,bk,ag,aB⟩,rfl⟩;have bT:=ae aB;clear aB;go_upto_region 2 with(fail);generalize hX:World.alloc _ _=X;have bt:=g0 hX;have q:an X (w.heap.size+1) 154 #[.slice I a6 aD,(0:Int)]:=hX▸(an.gF _ _ _ cZ.symm).alloc _;have u:an X (w.heap.size+1+1) 156 #[.pointer (some ⟨w.heap.size+1,0,none⟩),(),(),(),(24:Int),false]:=hX▸an.gF _ _ _ (by simp[cZ]);have aw:cu X (w.heap.size+1) I a6 aD ag:=⟨q.lt,by rw[q.cell];rfl,⟨0,ad,by rw[q.cell];rfl⟩,q.frozen 1,(by have:=bT.o;rw[cZ] at this;exact this.fA (bt.below ad λ_ _ h=>h)),ad⟩
 have H1:=br aw u (al.2.1.aj bt) (al.1.trans bt);clear hX bt q u aw al bT;obtain⟨a0,ak,af⟩:=H1.2.1.two;go_wp2_with(fail);refine(aZ X (w.heap.size+1) I a6 aD ag 3 H1.1 ad ad).mono ?_;rintro e aW ⟨cw,rfl,a7,b2,h,he⟩;have b1:=br h (H1.2.1.on he.fr ad) (H1.2.2.1.on he.fr ad) (Fr.low (M:=λb=>b=w.heap.size+1) ((H1.2.2.2.mono λ_ h=>h.elim).trans he.fr) λk aj=>ad);clear h he a7 b2 a0 ak af H1;obtain⟨a0,ak,af⟩:=b1.2.1.two;go_upto_region 3 with(fail);generalize (cw == 1)=ar;generalize hX:World.setCell _ _ _=cD;have J:=cP hX;have u:an cD (w.heap.size+1+1) 156 #[.pointer (some ⟨w.heap.size+1,0,none⟩),(),(),(),(24:Int),ar]:=hX▸b1.2.1.aK 5 _;have bN:=br (b1.1.cZ J λb O h=>ad) u (b1.2.2.1.on J ad) (Fr.low (M:=λb=>b=w.heap.size+1+1) ((b1.2.2.2.mono λ_ h=>h.elim).trans J) λk aj=>ad);clear hX J u b1 a0 ak af;obtain⟨a0,ak,af⟩:=bN.2.1.two;go_wp2_with(fail);refine(aZ cD (w.heap.size+1) I a6 aD ag 4 bN.1 ad ad).mono ?_;rintro e cO ⟨bR,rfl,a7,b2,h,he⟩;obtain⟨F,rfl⟩:=M6 a7;have E:F<4:=ad;have P:=br h (bN.2.1.on he.fr ad) (bN.2.2.1.on he.fr ad) (Fr.low (M:=λb=>b=w.heap.size+1) ((bN.2.2.2.mono λ_ h=>h.elim).trans he.fr) λk aj=>ad);clear h he a7 b2 a0 ak af bN;go_wp2_with(fail);go_loopw [4] (λb5 wr=>∃(i:Nat) (MA:NH) (mc:Nat) (M:List bM),b5=.int .i64 i/\i<=1+F/\pT w wr I a6 aD ag ar MA i mc M) (λb5 _=>1+F - (intOf b5).toNat)
 case atStart=>exact⟨0,none,0,[],rfl,ad,⟨P.1,P.2.1,P.2.2.1,Gr.nil _ _ _ _ _,ad,(λi m h=>by cases h),P.2.2.2⟩⟩
 case round=>
  obtain⟨i,MA,mc,M,rfl,aN,bh⟩:=hrel;clear P;have ck:=ae bh;obtain⟨a0,ak,af⟩:=bh.blk.two;have aT:M.length=i:=by have:=bh.ms.len;simpa using this
  have cv:=bh.blk.lt;clear bh;by_cases ap:i<1+F
  .have cU:(i:Int)<1+(F:Int):=ad;have e1:i<=3:=ad;have b6:=λ(W:World) (v:Int)=>iA W v;go_upto_region 7 with(fail);clear b6;generalize hX:World.alloc _ _=g9;have bV:=g0 hX;have hd:an g9 (wr.heap.size+1) 112 #[.string (iV i),false,(0:Int)]:=by
    rw[<-hX,<-Fs (by omega:i<4)];exact an.gF _ _ _ (by simp)
   have dz:=ah (ck.aj bV) hd;have bY:(Value.slice MA i mc).ownBlock≠some (wr.heap.size+1):=λO=>by have:=(ck.ms.lt O).2;omega
   have aY:=ae bY;clear hX bV hd a0 ak af bY;obtain⟨a0,ak,af⟩:=dz.1.blk.two;go_wp2_with(fail);refine(aZ g9 (w.heap.size+1) I a6 aD ag 5 dz.1.src ad ad).mono ?_;rintro e Y ⟨bS,rfl,x,ax,h,he⟩;have bB:=ah (dz.1.next h he.fr) (dz.2.on he.fr ad);have c9:wr+1<Y.heap.size:=bB.2.lt;clear h he a0 ak af;by_cases ac:bS=1
   .have q1:(bS == 1)=true:=by simpa using ac
    clear ac x ax;obtain⟨d0,aQ,aS⟩:=bB.2.two;go_upto_region 12 with(fail);generalize hX:World.setCell _ _ _=db;have J:=cP hX;have hM:an db (wr.heap.size+1) 112 #[.string (iV i),true,(0:Int)]:=hX▸bB.2.aK 1 _;have j:=ah (bB.1.fresh ad aY.o J) hM;clear hX J hM d0 aQ aS bB;obtain⟨a0,ak,af⟩:=j.1.blk.two;obtain⟨d0,aQ,aS⟩:=j.2.two;have G:=j.2.lt;refine eJ (λ_=>False) [(0,3),(1,3),(2,3),(3,3),(4,3),(5,0),(6,0),(7,1),(8,2),(9,3),(10,3),(11,3),(12,2)] ?_
    iterate 5 refine pf ?_
    iterate 2 refine ph ?_
    refine rS ?_;generalize cA:World.drew (World.alloc _ _)=Z;have bd:=hy cA;have bm:=lW cA;have bl:=j.1.aj bd;have bj:=ah bl bm;have bZ:=bd.size;clear cA bd bm bl a0 ak af d0 aQ aS;refine au rfl (λK hK=>?_);rw[if_pos (by rfl)];refine fq mf (.tmp 73) (.tmp 75) (by rfl) bj.1.ms bj.2 (fv.2 rfl:(eF ⟨iV i,true,0⟩).rep Z _ _) (by rfl) (by rfl) (by rfl) ad ad ad ?_;intro r di gP bn z cq cd;have bD:∀b,(Value.slice MA i mc).ownBlock=some b->w.heap.size+1+1+1<=b:=λb O=>(bj.1.ms.lt O).1;have ba:=bj.1.blk.on z (λO=>by have:=bD _ O;omega);have aP:=ah bn z;clear bn z cq cd bD;obtain⟨a0,ak,af⟩:=ba.two;clear ba;refine dY hK ?_;clear hK K
    iterate 3 refine pf ?_
    exact ew
   by_cases az:bS=2
   .have q1:(bS == 1)=false:=by simpa using ac
    have cL:(bS == 2)=true:=by simpa using az
    clear ac az x ax;obtain⟨a0,ak,af⟩:=bB.1.blk.two;go_wp2_with(fail);refine(aZ Y (w.heap.size+1) I a6 aD ag 3 bB.1.src ad ad).mono ?_;rintro e ha ⟨cM,rfl,L,ao,h,he⟩;have Q:=ah (bB.1.next h he.fr) (bB.2.on he.fr ad);clear h he a0 ak af bB;obtain⟨d0,aQ,aS⟩:=Q.2.two;go_upto_region 12 with(fail);generalize hX:World.setCell _ _ _=db;have J:=cP hX;have hM:an db (wr.heap.size+1) 112 #[.string (iV i),false,.int .i64 (1+cM)]:=hX▸Q.2.aK 2 _;have j:=ah (Q.1.fresh ad aY.o J) hM;clear hX J hM d0 aQ aS Q;obtain⟨a0,ak,af⟩:=j.1.blk.two;obtain⟨d0,aQ,aS⟩:=j.2.two;have G:=j.2.lt;refine eJ (λ_=>False) [(0,3),(1,3),(2,3),(3,3),(4,3),(5,0),(6,0),(7,1),(8,2),(9,3),(10,3),(11,3),(12,2)] ?_
    iterate 5 refine pf ?_
    iterate 2 refine ph ?_
    refine rS ?_;generalize cA:World.drew (World.alloc _ _)=Z;have bd:=hy cA;have bm:=lW cA;have bl:=j.1.aj bd;have bj:=ah bl bm;have bZ:=bd.size;clear cA bd bm bl a0 ak af d0 aQ aS;refine au rfl (λK hK=>?_);rw[if_pos (by rfl)];refine fq mf (.tmp 73) (.tmp 75) (by rfl) bj.1.ms bj.2 (fv.2 rfl:(eF ⟨iV i,false,(1+cM)⟩).rep Z _ _) (by rfl) (by rfl) (by rfl) ad ad ad ?_;intro r di gP bn z cq cd;have bD:∀b,(Value.slice MA i mc).ownBlock=some b->w.heap.size+1+1+1<=b:=λb O=>(bj.1.ms.lt O).1;have ba:=bj.1.blk.on z (λO=>by have:=bD _ O;omega);have aP:=ah bn z;clear bn z cq cd bD;obtain⟨a0,ak,af⟩:=ba.two;clear ba;refine dY hK ?_;clear hK K
    iterate 3 refine pf ?_
    refine au rfl (λK hK=>?_);go_simp;refine dY hK ?_;clear hK K;refine aG ?_;generalize ci:World.setCell _ _ _=gU;have f:=bj.1.add aP.1 aP.2 ad (nD.snoc bj.1.ok aT (re:=false) (sz:=(1+cM)) ad ad (by intro h;cases h));rw[ci] at f;have bp:=ae f;clear ci f a0 ak af;go_wp2_with(fail);go_roundw
    case rel=>exact⟨i+1,r,di,M++[⟨iV i,false,(1+cM)⟩],by go_num,ad,bp.o⟩
    case measure=>exact aH
   .have q1:(bS == 1)=false:=by simpa using ac
    have cL:(bS == 2)=false:=by simpa using az
    clear ac az x ax;go_upto_region 12 with(fail);obtain⟨a0,ak,af⟩:=bB.1.blk.two;obtain⟨d0,aQ,aS⟩:=bB.2.two;refine eJ (λ_=>False) [(0,3),(1,3),(2,3),(3,3),(4,3),(5,0),(6,0),(7,1),(8,2),(9,3),(10,3),(11,3),(12,2)] ?_
    iterate 5 refine pf ?_
    iterate 2 refine ph ?_
    refine rS ?_;generalize cA:World.drew (World.alloc _ _)=Z;have bd:=hy cA;have bm:=lW cA;have bl:=bB.1.aj bd;have bj:=ah bl bm;have bZ:=bd.size;clear cA bd bm bl a0 ak af d0 aQ aS;refine au rfl (λK hK=>?_);rw[if_pos (by rfl)];refine fq mf (.tmp 73) (.tmp 75) (by rfl) bj.1.ms bj.2 (fv.2 rfl:(eF ⟨iV i,false,0⟩).rep Z _ _) (by rfl) (by rfl) (by rfl) ad ad ad ?_;intro r di gP bn z cq cd;have bD:∀b,(Value.slice MA i mc).ownBlock=some b->w.heap.size+1+1+1<=b:=λb O=>(bj.1.ms.lt O).1;have ba:=bj.1.blk.on z (λO=>by have:=bD _ O;omega);have aP:=ah bn z;clear bn z cq cd bD;obtain⟨a0,ak,af⟩:=ba.two;clear ba;refine dY hK ?_;clear hK K
    iterate 3 refine pf ?_
    refine au rfl (λK hK=>?_);go_simp;refine dY hK ?_;clear hK K;refine aG ?_;generalize ci:World.setCell _ _ _=gU;have f:=bj.1.add aP.1 aP.2 ad (nD.snoc bj.1.ok aT (re:=false) (sz:=0) ad ad (by intro _;rfl));rw[ci] at f;have bp:=ae f;clear ci f a0 ak af;go_wp2_with(fail);go_roundw
    case rel=>exact⟨i+1,r,di,M++[⟨iV i,false,0⟩],by go_num,ad,bp.o⟩
    case measure=>exact aH
  .have cU:¬(i:Int)<1+(F:Int):=ad;go_upto_region 13 with(fail);have b8:=gX.o _ (by assumption);unfold GB at b8;exact b8 I a6 aD ag ar MA i mc M wr ad ck.o
theorem rJ.lY{G:List (ByteArray×Int)}{M:List bM}{F:List aI}(aR:sV G)(cv:G.length<=2)(hm:nD M)(bN:1<=M.length/\M.length<=4)(J:∀i f,F[i]?=some f->f.name=jS i/\(∃n,n<=2/\f.params.map (·.1)=fk n)/\(i=0->f.params=[]))(cr:1<=F.length/\F.length<=4):gS ⟨G,M,F⟩:=
 ⟨cv,bN,cr,aR,hm,J⟩
theorem FR{F:List aI}{i:Nat}(J:F[i]?=some f)(b:al):(F.set i {f with body:=b}).map (λf=>(f.name,f.params))=F.map λf=>(f.name,f.params):=by
 exact It
theorem Ab{F:List aI}{i:Nat}(J:F[i]?=some f)(b:al):(F.set i {f with body:=b}).map (·.name)=F.map (·.name):=by
 exact It
structure wk(G:List (ByteArray×Int))(M:List bM)(F:List aI)(k L:Nat):Prop where
 lY:∀i f,F[i]?=some f->f.name=jS i/\(∃n,n<=2/\f.params.map (·.1)=fk n)/\(i=0->f.params=[])
 made:∀i f,F[i]?=some f->i<k->eX (fG ⟨G,M,F⟩ f) 2 (fZ ⟨G,M,F⟩++cH f.params) (bm ⟨G,M,F⟩++f.params.map (·.1)) f.body
 bY:∀i f,F[i]?=some f->k<=i->f.body=.nil
 num:(F.map λf=>f.body.num).sum+2*L<=48
theorem rJ.start{G:List (ByteArray×Int)}{M:List bM}{F:List aI}(h:rJ F):wk G M F 0 24:=by
 refine⟨λi f J=>⟨(h i f J).1,(h i f J).2.1,(h i f J).2.2.1⟩,λi f _ aN=>ad,λi f J _=>(h i f J).2.2.2,?_⟩;have h0:(F.map λf=>f.body.num).sum=0:=by
  have ac:F.map (λf=>f.body.num)=F.map λ_=>0:=List.map_congr_left λf J=>by
   obtain⟨i,aN⟩:=List.getElem?_of_mem J;rw[(h i f aN).2.2.2];rfl
  rw[ac];clear ac h
  induction F with
  | nil=>rfl
  | cons f F aq=>simpa using aq
 omega
theorem HJ{F:List aI}:∀{i:Nat} {f:aI},F[i]?=some f->f.body=.nil->((F.set i {f with body:=b}).map λf=>f.body.num).sum=(F.map λf=>f.body.num).sum+b.num:=by
 induction F with
 | nil=>intro i f J;simp at J
 | cons g F aq=>
  intro i f J hn
  cases i with
  | zero=>
   simp at J;subst J;simp[hn,al.num]
   omega
  | succ i=>
   simp at J;have:=aq (i:=i) J hn;simp only[List.set_cons_succ,M7,List.sum_cons,this];omega
theorem wk.next{G:List (ByteArray×Int)}{M:List bM}{F:List aI}{k L Y:Nat}(h:wk G M F k L)(J:F[k]?=some f){ls:List aB}(hm:Made (fG ⟨G,M,F⟩ f) 2 (fZ ⟨G,M,F⟩++cH f.params) (bm ⟨G,M,F⟩++f.params.map (·.1)) L Y ls):
  wk G M (F.set k {f with body:=.eV ls}) (k+1) Y:=by
 have hs:=FR J (.eV ls);have hn:=Ab J (.eV ls);have ap:=(List.getElem?_eq_some_iff.1 J).1;have hG:∀g,fG ⟨G,M,F.set k {f with body:=.eV ls}⟩ g=fG ⟨G,M,F⟩ g:=λg=>by simp only[fG,sigs,hs]
 have hT:bm ⟨G,M,F.set k {f with body:=.eV ls}⟩=bm ⟨G,M,F⟩:=by simp only[bm,fZ,hn]
 have I:∀i g,(F.set k {f with body:=.eV ls})[i]?=some g->(i=k/\g={f with body:=.eV ls})\/(i≠k/\F[i]?=some g):=λi g aR=>by
  by_cases aN:k=i
  .subst aN;rw[List.getElem?_set_self ap] at aR;injection aR with aR;exact .inl ⟨rfl,aR.symm⟩
  .rw[List.getElem?_set_ne aN] at aR;exact .inr ⟨λh=>aN h.symm,aR⟩
 refine⟨λi g aR=>?_,λi g aR aN=>?_,λi g aR aN=>?_,?_⟩
 .rcases I i g aR with⟨rfl,rfl⟩|⟨_,az⟩
  .exact h.lY _ f J
  .exact h.lY _ _ az
 .rw[hG,hT];rcases I i g aR with⟨rfl,rfl⟩|⟨ac,az⟩
  .exact hm.wf
  .exact h.made i g az ad
 .rcases I i g aR with⟨rfl,rfl⟩|⟨ac,az⟩
  .omega
  .exact h.bY i g az ad
 .rw[HJ J (h.bY k f J (MU _))];have ac:=hm.num;have az:=hm.le;have aV:=h.num;omega
theorem wk.wf{G:List (ByteArray×Int)}{M:List bM}{F:List aI}{L:Nat}(h:wk G M F F.length L)(aR:sV G)(cv:G.length<=2)(hm:nD M)(bN:1<=M.length/\M.length<=4)(cr:1<=F.length/\F.length<=4):pe ⟨G,M,F⟩:=by
 refine(rJ.lY aR cv hm bN h.lY cr).wf (λf J=>?_) (by have:=h.num;simp only;omega);obtain⟨i,aN⟩:=List.getElem?_of_mem J;have ap:=(List.getElem?_eq_some_iff.1 aN).1;exact dn _ 2 4 _ _ _ _ (λ_ h=>h) (λ_ _ h=>h) ad (h.made i f aN ap)
theorem mo{w:World}{cs:List Value}:(dA f).rep w P cs↔∃(A:NH) (n c:Nat) (A2:NH) (n2 c2:Nat),cs=[.string f.name,.slice A n c,.slice A2 n2 c2]/\n<=c/\Sl w P A n (f.params.map cC)/\n2<=c2/\Sl w P A2 n2 (dc f.body):=by
 unfold dA;rw[bK,cx];constructor
 .rintro⟨y,rfl,h⟩;obtain⟨A,n,c,cf,rfl,hc,hs,h⟩:=aN.1 h;obtain⟨A2,n2,c2,bv,rfl,b8,bO,h⟩:=aN.1 h;rw[aR] at h;subst h;exact⟨A,n,c,A2,n2,c2,rfl,hc,hs,b8,bO⟩
 .rintro⟨A,n,c,A2,n2,c2,rfl,hc,hs,b8,bO⟩;exact⟨_,rfl,aN.2 ⟨A,n,c,_,rfl,hc,hs,aN.2 ⟨A2,n2,c2,[],rfl,b8,bO,aR.2 rfl⟩⟩⟩
theorem sb(f:aI):(dA f).sz=3:=rfl
theorem sI{w:World}{P:Nat->Prop}{b:al}{bL:NH}{on bF:Nat}(hc:on<=bF)(bT:Sl w P bL on (dc b)):∀(F:List aI) (i:Nat) (xs:List Value) (f:aI),D.aQ w P (F.map dA) xs->F[i]?=some f->D.aQ w P ((F.set i {f with body:=b}).map dA) (xs.set (i*3+2) (.slice bL on bF))
 | [],i,xs,f,h,J=>by simp at J
 | x::F,0,xs,f,h,J=>by
  simp only[List.getElem?_cons_zero,Nw] at J;subst J;rw[M7] at h;obtain⟨j,d,rfl,hx,bb⟩:=hb.1 h;obtain⟨A,n,c,A2,n2,c2,rfl,ac,az,_,_⟩:=mo.1 hx;rw[List.set_cons_zero,M7]
  exact hb.2 ⟨[.string x.name,.slice A n c,.slice bL on bF],d,rfl,mo.2 ⟨A,n,c,bL,on,bF,rfl,ac,az,hc,bT⟩,bb⟩
 | x::F,i+1,xs,f,h,J=>by
  rw[List.getElem?_cons_succ] at J;rw[M7] at h;obtain⟨j,d,rfl,hx,bb⟩:=hb.1 h;have hl:=(D.lL _ _ hx).trans (sb x);have aq:=sI hc bT F i d f bb J;rw[List.set_cons_succ,M7,List.set_append_right _ _ ad,hl,show (i+1)*3+2 - 3=i*3+2 by omega];exact hb.2 ⟨_,_,rfl,hx,aq⟩
theorem Gr.LH{w:World}{n c i:Nat}{F:List aI}{bL:NH}{on bF:Nat}(h:Gr P B e 3 w (some ⟨g,0,none⟩) n c (F.map dA))(J:F[i]?=some f)(hc:on<=bF)(bT:Sl w (lD P w (.slice (some ⟨g,0,none⟩) n c)) bL on (dc b)):
  Gr P B e 3 (w.setCell ⟨g,i*3+2,none⟩ (.slice bL on bF)) (some ⟨g,0,none⟩) n c ((F.set i {f with body:=b}).map dA):=by
 obtain⟨hl,xs,ac,az⟩:=h;have b1:Fr (λb=>b=g) w (w.setCell ⟨g,i*3+2,none⟩ (.slice bL on bF)):=(Fr.refl (λb=>b=g) w).setCell (.inl rfl) _;have hs:=b1.size;have aB:=(List.getElem?_eq_some_iff.1 J).1;refine⟨by simpa using hl,xs.set (i*3+2) (.slice bL on bF),⟨by rw[List.length_set];exact ac.1,?_⟩,?_⟩
 .rcases ac.2 with⟨bK,_⟩|⟨ah,cap,cur,bK,O,aR,hn,bJ,U,ht⟩
  .cases bK
  .injection bK with bg _ Z;injection bg with bg;injection bg with bg;subst bg;refine .inr ⟨g,cap,cur.setIfInBounds (i*3+2) (.slice bL on bF),by rw[Z],O,an.aK (show an w g e cur from aR) (i*3+2) _,hn,bJ,by simpa using U,?_⟩;rw[Array.toList_setIfInBounds,List.take_set,ht]
 .refine D.b0 (λb O=>⟨O.1,M0 O.2.1 hs,O.2.2⟩) _ _ (D.bZ (λb O=>b1.block b O.2.1 λj=>O.2.2 ?_) _ _ (sI hc bT F i xs f az J));subst j;rfl
theorem Gr.Ld{w:World}{n c:Nat}{A:NH}{l:List D}(h:Gr P B e z w A n c l)(hn:0<n):∃g,A=some ⟨g,0,none⟩/\B<=g/\g<w.heap.size:=by
 obtain⟨_,xs,ac,_⟩:=h;rcases ac.2 with⟨_,h0⟩|⟨g,cap,cur,bK,O,aR,_⟩
 .omega
 .injection bK with bK _ _;exact⟨g,bK,O,(Array.getElem?_eq_some_iff.1 aR).1⟩
structure pq(S:World)(u:Nat)(A:NH)(n c:Nat)(l:List Int)(ar:Bool)(MA:NH)(mn mc:Nat)(M:List bM)(GA:NH)(gn gc:Nat)(G:List (ByteArray×Int))(be:NH)(bC:Nat)(fg fn fc:Nat)(w:World)(F:List aI)(i L:Nat):Prop where
 src:cu w (S.heap.size+1) A n c l
 blk:an w (S.heap.size+1+1) 156 #[.pointer (some ⟨S.heap.size+1,0,none⟩),.slice GA gn gc,.slice MA mn mc,.slice (some ⟨fg,0,none⟩) fn fc,.int .i64 L,.bool ar]
 res:an w S.heap.size 56 #[.slice none 0 0,.slice none 0 0,.slice none 0 0]
 ms:Sl w (λb=>S.heap.size+1+1+1<=b/\b<u) MA mn (M.map eF)
 gs:Sl w (λb=>S.heap.size+1+1+1<=b/\b<u) GA gn (G.map iR)
 vs:Sl w (λb=>S.heap.size+1+1+1<=b/\b<u) be gn ((G.map (·.1)).map D.s)
 fs:Gr (λb=>u<=b) u 118 3 w (some ⟨fg,0,none⟩) fn fc (F.map dA)
 mc:mn<=mc
 gc:gn<=gc
 nm:1<=mn/\mn<=4
 ok:nD M
 ng:gn<=2
 An:sV G
 nf:1<=fn/\fn<=4
 bd:wk G M F i L
 k0:L<=24
 ext:Ext S w
 hD:S.heap.size+1+1+1<=u/\u<=w.heap.size
section
variable {S w ab:World} {u:Nat} {A:NH} {n c:Nat} {l:List Int} {ar:Bool} {MA:NH} {mn mc:Nat} {M:List bM} {GA:NH} {gn gc:Nat} {G:List (ByteArray×Int)} {be:NH} {bC:Nat} {FA:NH} {fg fn fc:Nat} {F:List aI} {i L Y:Nat}
theorem At.Lz(h:At S u w A n c l ar MA mn mc M GA gn gc G be bC FA fn fc F)(hn:1<=fn):∃fg,FA=some ⟨fg,0,none⟩/\pq S u A n c l ar MA mn mc M GA gn gc G be bC fg fn fc w F 0 24:=by
 obtain⟨fg,rfl,_⟩:=h.fs.Ld ad;exact⟨fg,rfl,h.src,h.blk,h.res,h.ms,h.gs,h.vs,h.fs,h.mc,h.gc,h.nm,h.ok,h.ng,h.An,⟨hn,h.nf⟩,h.Lk.start,MU _,h.ext,h.hD⟩
theorem pq.len(h:pq S u A n c l ar MA mn mc M GA gn gc G be bC fg fn fc w F i L):F.length=fn/\M.length=mn/\G.length=gn:=⟨by have:=h.fs.len;simpa using this,by have:=h.ms.1;simpa using this,by have:=h.gs.1;simpa using this⟩
theorem pq.own(h:pq S u A n c l ar MA mn mc M GA gn gc G be bC fg fn fc w F i L):u<=fg/\fg<w:=h.fs.lt rfl
theorem pq.jo(h:pq S u A n c l ar MA mn mc M GA gn gc G be bC fg fn fc w F i L):∀f∈F,f.params.length<=2:=λf J=>by
 obtain⟨i,aN⟩:=List.getElem?_of_mem J;obtain⟨n,hn,hp⟩:=(h.bd.lY i f aN).2.1;have:=congrArg List.length hp;rw[M5,mE] at this;omega
theorem pq.aj(h:pq S u A n c l ar MA mn mc M GA gn gc G be bC fg fn fc w F i L)(O:Ext w ab):pq S u A n c l ar MA mn mc M GA gn gc G be bC fg fn fc ab F i L:=by
 have hD:=h.hD;have aj:∀b,(S.heap.size+1+1+1<=b/\b<u)->ab.heap[b]?=w.heap[b]?:=λb hp=>O.block b (ax hp.2) (λh=>h);exact⟨h.src.cZ O λ_ _ h=>h,h.blk.aj O,h.res.aj O,h.ms.ak aj,h.gs.ak aj,h.vs.ak aj,h.fs.aj O,h.mc,h.gc,h.nm,h.ok,h.ng,h.An,h.nf,h.bd,h.k0,h.ext.trans O,hD.1,by have:=O.size;omega⟩
theorem pq.wr(h:pq S u A n c l ar MA mn mc M GA gn gc G be bC fg fn fc w F i L):gN w ⟨S.heap.size+1,S.heap.size+1+1,A,n,c,l,GA,gn,gc,MA,mn,mc,some ⟨fg,0,none⟩,fn,fc,M,F,ar⟩ L:=by
 have hD:=h.hD;exact⟨h.src,h.blk,Nat.lt_succ_self _,h.ms.mono λb O=>⟨ad,λhm=>by rcases hm with hm|hm<;>(simp only at hm;omega)⟩,h.fs.sl (λb O hp=>⟨O,λhm=>by rcases hm with hm|hm<;>(simp only at hm;omega)⟩) (λb O hp=>⟨O,λhm=>by rcases hm with hm|hm<;>(simp only at hm;omega)⟩),h.nm,h.nf,
  λm hm=>by obtain⟨k,aj⟩:=List.getElem?_of_mem hm;exact⟨(h.ok k m aj).2.1,(h.ok k m aj).2.2.1⟩,h.jo,h.k0⟩
theorem pq.lY(h:pq S u A n c l ar MA mn mc M GA gn gc G be bC fg fn fc w F i L):gS ⟨G,M,F⟩:=rJ.lY h.An (nI h.len.2.2 h.ng) h.ok (nI h.len.2.1 h.nm) h.bd.lY (nI h.len.1 h.nf)
theorem pq.body(h:pq S u A n c l ar MA mn mc M GA gn gc G be bC fg fn fc w F i L){f:aI}(J:F[i]?=some f){ls:List aB}{bL:NH}{on bF:Nat}
  (hw:gN ab ⟨S.heap.size+1,S.heap.size+1+1,A,n,c,l,GA,gn,gc,MA,mn,mc,some ⟨fg,0,none⟩,fn,fc,M,F,ar⟩ Y) (O:Fr (λb=>b=S.heap.size+1\/b=S.heap.size+1+1) w ab)
  (hm:Made (fG ⟨G,M,F⟩ f) 2 (fZ ⟨G,M,F⟩++cH f.params) (bm ⟨G,M,F⟩++f.params.map (·.1)) L Y ls) (hc:on<=bF) (hs:Sl ab (fresh w ab) bL on (ls.map bk)) :
  pq S u A n c l ar MA mn mc M GA gn gc G be bC fg fn fc (ab.setCell ⟨fg,i*3+2,none⟩ (.slice bL on bF)) (F.set i {f with body:=.eV ls}) (i+1) Y:=by
 have hD:=h.hD;have bD:=h.own;have U:=O.size;have aA:Fr (λb=>b=fg) ab (ab.setCell ⟨fg,i*3+2,none⟩ (.slice bL on bF)):=(Fr.refl (λb=>b=fg) ab).setCell (.inl rfl) _;have bS:=aA.size;have aj:∀b,(S.heap.size+1+1+1<=b/\b<u)->(ab.setCell ⟨fg,i*3+2,none⟩ (.slice bL on bF)).heap[b]?=w.heap[b]?:=λb hp=>(aA.block b (ax hp.2) (ax hp.2)).trans (O.block b (ax hp.2) λag=>by have:=hp.1;rcases ag with ag|ag<;>omega);have aR:Gr (λb=>u<=b) u 118 3 ab (some ⟨fg,0,none⟩) fn fc (F.map dA):=h.fs.cD O λb hm _=>by rcases hm with hm|hm<;>exact⟨ad,ad⟩
 have aM:Ext S ab:=Fr.low (M:=λb=>b=S.heap.size+1\/b=S.heap.size+1+1) ((h.ext.mono λ_ h=>h.elim).trans O) λk aj=>by rcases aj with aj|aj<;>omega
 refine⟨hw.src.cZ aA λb ap ag=>by simp only at ap;omega,hw.blk.on aA (by show ¬S.heap.size+1+1=fg;omega),(h.res.on O ad).on aA ad,h.ms.ak aj,h.gs.ak aj,h.vs.ak aj,?_,h.mc,h.gc,h.nm,h.ok,h.ng,h.An,h.nf,h.bd.next J hm,hw.k0,
  Fr.low (M:=λb=>b=fg) ((aM.mono λ_ h=>h.elim).trans aA) λk aj=>by have:=h.ext.size;omega,hD.1,ad⟩
 refine aR.LH J hc ?_;rw[mV];exact hs.mono λb O=>⟨by have:=O.1;omega,O.2,λh=>by injection h with h;have:=O.1;simp only at h;omega⟩
theorem pq.done(h:pq S u A n c l ar MA mn mc M GA gn gc G be bC fg fn fc w F fn L):pe ⟨G,M,F⟩:=by
 have hl:=h.len;have O:=h.bd;rw[<-hl.1] at O;exact O.wf h.An (ax h.ng) h.ok (ax h.nm) (ax h.nf)
end
structure RW(s:Nat)(v0 v1 v2 ai bu:Value)(w ab:World):Prop where
 fr:Fr (λb=>b=s\/b=s+1) w ab
 wb:∀L:Int,an w (s+1) 156 #[v0,v1,v2,ai,.int .i64 L,bu]->∃Y:Int,an ab (s+1) 156 #[v0,v1,v2,ai,.int .i64 Y,bu]
theorem RW.refl{s:Nat}{v0 v1 v2 ai bu:Value}(w:World):RW s v0 v1 v2 ai bu w w:=⟨NC,λL h=>⟨L,h⟩⟩
theorem RW.trans{s:Nat}{v0 v1 v2 ai bu:Value}{w ab aW:World}(h:RW s v0 v1 v2 ai bu w ab)(k:RW s v0 v1 v2 ai bu ab aW):RW s v0 v1 v2 ai bu w aW:=⟨h.fr.trans k.fr,λL O=>by
 obtain⟨ba,ac⟩:=h.wb L O;exact k.wb ba ac⟩
theorem Gj(p:kL)(L:Nat)(V T:NI)(R:NH)(aU aq:Nat)(a9:ByteArray)(ps:List (ByteArray×Bool))(QA:NH)(cq qc:Nat)(bQ:Value)(w:World)(hw:gN w p L)(hN:Sl w (off p.MW w) R aU (V.map D.s))(hV:V.length+L<=60)(J:mM T L)
  (cc:Sl w (off p.MW w) QA cq (ps.map cC)) (bv:cq<=2):Calls prog 68 #[.pointer (some ⟨p.wb,0,none⟩),.agg #[a9,.slice QA cq qc,bQ],.slice R aU aq,(2:Int),(6:Int)] w (HR p 2 V T ps L w):=
 x9 p L 2 6 V T R aU aq a9 ps QA cq qc bQ w ad ad hw hN hV J cc bv
structure Gx(fg i:Nat)(f:aI)(QA:NH)(cq qc:Nat)(f0:NH)(bn bc:Nat)(w:World):Prop where
 c0:w.cell? ⟨fg,i*3,none⟩=some (.string f.name)
 c1:w.cell? ⟨fg,i*3+1,none⟩=some (.slice QA cq qc)
 c2:w.cell? ⟨fg,i*3+2,none⟩=some (.slice f0 bn bc)
theorem Gx.ak{fg i:Nat}{QA:NH}{cq qc:Nat}{f0:NH}{bn bc:Nat}{w ab:World}(h:Gx fg i f QA cq qc f0 bn bc w)(aj:ab.heap[fg]?=w.heap[fg]?):Gx fg i f QA cq qc f0 bn bc ab:=
 ⟨(World.cell?_of_block (w:=w) aj).trans h.c0,(World.cell?_of_block (w:=w) aj).trans h.c1,(World.cell?_of_block (w:=w) aj).trans h.c2⟩
theorem pq.KC{S w:World}{u:Nat}{A:NH}{n c:Nat}{l:List Int}{ar:Bool}{MA:NH}{mn mc:Nat}{M:List bM}{GA:NH}{gn gc:Nat}{G:List (ByteArray×Int)}{be:NH}{bC:Nat}{fg fn fc:Nat}{F:List aI}{i L:Nat}
  (h:pq S u A n c l ar MA mn mc M GA gn gc G be bC fg fn fc w F i L) (aN:i<fn):∃(f:aI) (QA:NH) (cq qc:Nat) (f0:NH) (bn bc:Nat),F[i]?=some f/\cq<=2/\cq<=qc/\Sl w (λb=>u<=b/\b<w.heap.size) QA cq (f.params.map cC)/\Gx fg i f QA cq qc f0 bn bc w:=by
 obtain⟨ch,cT,f,cs,I,cH,r,al,bu,hc⟩:=Sl.g1 (z:=3) (h.fs.sl (Q:=λb=>u<=b/\b<w.heap.size) (λb ap h=>⟨h,ap⟩) (λb ap h=>⟨h,ap⟩)) (λ_=>sb _) aN;obtain⟨QA,cq,qc,f0,bn,bc,rfl,gS,cv,_,_⟩:=mo.1 al;injection I with I;injection I with ac az aV;subst ac;subst az;have bv:cq<=2:=by
  have aU:=h.jo f (M4 r);have cB:=cv.1;rw[M5] at cB;omega
 have c0:=hc 0 _ rfl;have c1:=hc 1 _ rfl;have c2:=hc 2 _ rfl;simp only[Nm,Nd] at c0 c1 c2;exact⟨f,QA,cq,qc,f0,bn,bc,r,bv,gS,cv,c0,c1,c2⟩
theorem Gr.Lc{w:World}{n c:Nat}{l:List D}(h:Gr P B e z w (some ⟨g,0,none⟩) n c l):∃cur,an w g e cur:=by
 obtain⟨_,xs,ac,_⟩:=h;rcases ac.2 with⟨bK,_⟩|⟨ah,cap,cur,bK,O,aR,_⟩
 .cases bK
 .injection bK with bK _ _;injection bK with bK;injection bK with bK;subst bK;exact⟨cur,aR⟩
theorem rR{ps:List (ByteArray×Bool)}{j:Nat}{q:ByteArray×Bool}(h:ps[j]?=some q):cH (ps.take (j+1))=cH (ps.take j)++(if q.2 then [] else [q.1]):=by
 unfold cH;rw[List.take_add_one,h];obtain⟨x,b⟩:=q;cases b<;>simp
theorem tF(ps:List (ByteArray×Bool)):(cH ps).length<=ps.length:=by
 unfold cH;rw[M5];exact List.length_filter_le _ _
theorem pq.LD{S w ab:World}{u:Nat}{A:NH}{n c:Nat}{l:List Int}{ar:Bool}{MA:NH}{mn mc:Nat}{M:List bM}{GA:NH}{gn gc:Nat}{G:List (ByteArray×Int)}{be:NH}{bC:Nat}{fg fn fc:Nat}{F:List aI}{L:Nat}
  (h:pq S u A n c l ar MA mn mc M GA gn gc G be bC fg fn fc w F fn L) (O:Fr (λb=>b=S.heap.size) w ab):kA S (.returned (.agg #[.slice GA gn gc,.slice MA mn mc,.slice (some ⟨fg,0,none⟩) fn fc])) ab:=by
 have hD:=h.hD;have hs:=O.size;have aj:∀b,(S.heap.size+1+1+1<=b/\b<u)->ab.heap[b]?=w.heap[b]?:=λb hp=>O.block b (ax hp.2) (ax hp.1);have bR:Gr (λb=>u<=b) u 118 3 ab (some ⟨fg,0,none⟩) fn fc (F.map dA):=h.fs.cD O λb hm _=>⟨ad,ad⟩
 exact⟨⟨G,M,F⟩,GA,gn,gc,MA,mn,mc,_,fn,fc,rfl,h.done,h.gc,h.mc,h.fs.cap.1,(h.gs.ak aj).mono λb hp=>⟨by have:=hp.1;omega,by have:=hp.2;omega⟩,(h.ms.ak aj).mono λb hp=>⟨by have:=hp.1;omega,by have:=hp.2;omega⟩,
  bR.sl (λb ap hp=>⟨ad,ap⟩) (λb ap hp=>⟨ad,ap⟩),Fr.low (M:=λb=>b=S.heap.size) ((h.ext.mono λ_ h=>h.elim).trans O) λk aj=>ad⟩
end Go.Proofs.YtnigabjngpnbiabGreat

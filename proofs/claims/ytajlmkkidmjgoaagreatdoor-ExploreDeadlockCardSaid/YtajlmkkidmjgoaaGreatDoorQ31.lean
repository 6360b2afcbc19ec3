/- Part 31 of the proof. No condition of its own. -/
import Derived.Test.YtajlmkkidmjgoaaGreatDoorQ19
import Derived.Test.YtajlmkkidmjgoaaGreatDoorQ29
import Derived.Test.YtajlmkkidmjgoaaGreatDoorQ30
namespace Go.Proofs.YtajlmkkidmjgoaaGreatDoor
open Go.RowKit Go.Proofs.Tryz
set_option maxRecDepth 1000000
set_option maxHeartbeats 25600000
set_option linter.unusedVariables false
variable{p:Prop}{w:World}
theorem vj{P:Program}{ops:Array Oper}{Q:Exit->Act->World->Prop}{R:World->World->Prop}{tails:List Nat}{α β γ δ ε ζ η:Type}{rest:PT}{aa:α->β->γ->δ->ε->ζ->η->Act}{C:α->β->γ->δ->ε->ζ->η->World->Prop}{G:Prop}
  (h:(∀a b c d e f g V,C a b c d e f g V->di P ops Q R tails rest (aa a b c d e f g) V)->G) (key:∀a b c d e f g V,C a b c d e f g V->di P ops Q R tails rest (aa a b c d e f g) V):G:=h key
theorem pa{P:Nat->Prop}(l:List bJ):D.aO w P (l.map er) (l.flatMap iM):=mr (λ_=>eN.2 rfl) l
theorem rq{A:IP}{n:Nat}{l:List bJ}(h:Sl w (av w) A n (l.map er)):Src w 3 A n (l.flatMap iM):=Src.wu (Sl.uA h) (Bo _) (BD _) ad
theorem EL:b2 prog 28 118 (.agg #[.string ⟨#[]⟩,.int .i64 0,.int .i64 0,.int .i64 0,.slice none 0 0]) 5 64:=b2.mk' Tryz.underlying28 (by kernel_rfl) rfl ad
def vB(w:World)(u:ax)(e:Ending)(ab:World):Prop:=∃(GA:IP) (gn gc:Nat) (MA:IP) (mn mc:Nat) (PA:IP) (pn pc:Nat),
 e=.returned (.tuple #[.agg #[.slice GA gn gc,.slice MA mn mc,.slice PA pn pc,.int .i64 u.main],.int .i64 0,.int .i64 0,.int .i64 0])/\(uc u).rep ab (fresh w ab) [.slice GA gn gc,.slice MA mn mc,.slice PA pn pc,.int .i64 u.main]/\Ext w ab
def Et(w:World)(x:c7)(e:Ending)(ab:World):Prop:=∃(A:IP) (n c:Nat) (bE:IP) (bM br:Nat),
 e=.returned (.tuple #[.agg #[.string x.name,.int .i64 x.ints,.int .i64 x.aw,.int .i64 x.locals,.slice A n c],.slice bE bM br,.int .i64 0,.int .i64 0])/\(fQ x).rep ab (fresh w ab) [.string x.name,.int .i64 x.ints,.int .i64 x.aw,.int .i64 x.locals,.slice A n c]/\Ext w ab
def Fz(p:bC):Prop:=∀(f:aE),f∈p.funcs->∀(GA:IP) (gn gc:Nat) (MA:IP) (mn mc:Nat) (FA:IP) (fn fc:Nat) (bo:IP) (ln lc:Nat) (PA:IP) (pn pc:Nat) (aW:IP) (bn bc:Nat) (w:World),
  hG w (av w) p GA gn MA mn FA fn->Sl w (av w) bo ln ((a6 p).map bP)->Sl w (av w) PA pn (f.params.map ch)->Sl w (av w) aW bn (cL f.body)->
  Calls prog 35 #[.agg #[.slice GA gn gc,.slice MA mn mc,.slice FA fn fc],.slice bo ln lc,.agg #[.string f.name,.slice PA pn pc,.slice aW bn bc]] w (Et w (dX p f))
namespace zT
theorem lj(h:p:=by
 clear be am aH;generalize hX:World.setCell _ _ _=dN;have L:=cT hX;obtain⟨bb,az,b5,e1,bG⟩:=b2.o;have r1:Ext V dN:=Fr.low (M:=λb=>V.heap.size<=b) (((c6.1.trans e1).mono λ_ h=>h.elim).trans ((az.mono λb O=>by have:=j b O;omega).trans (L.mono λb O=>ad))) λ_ h=>h;have fZ:an dN z 30 #[.slice cl (k+1) c3,.slice A2 mn bZ,.slice none 0 0,.int .i64 H]:=hX▸bG.aI 0 _;have gQ:=((c6.2.2.1.aj e1).cU az.size λb al hp=>az.block b al λhe=>by
  rcases hp with hp|hp
  .exact hp.elim
  .have:=j b he;have:=(cP.o b hp).2;omega).cU L.size λb al hp=>L.block b al λhe=>by
  rcases hp with hp|hp
  .exact hp.elim
  .exact(cP.o b hp).1 he
 have f0:Gr (λ_=>False) aJ 3 1 dN cl (k+1) c3 (((p.globals.take (k+1)).map (·.2)).map D.i):=by
  rw[a0 aV.o,Ig,Ig];exact bb.cU L.size λb al hp=>L.block b al λhe=>by
   rcases hp with hp|hp
   .exact hp.elim
   .have:=(bb.lt hp).1;omega
 have gK:aJ<=dN.heap.size:=by have ac:=e1.size;have J:=az.size;have aR:=L.size;omega
 have a8:=cK r1 fZ gQ f0 gK;clear r1 fZ gQ f0 gK bb az b5 e1 bG L hX;go_wp2;go_roundw
 case rel=>exact⟨k+1,cl,c3,ad,by go_num,a8.o⟩
 case measure=>exact aF
 ):p:=h
theorem gj(h:p:=by
 refine cr ?_;generalize hX:World.setCell _ _ _=X;obtain⟨ds,dw,bk,aZ⟩:=bY.o;obtain⟨cQ,bW,bT⟩:=cO (w:=V) [.slice none 0 0,.slice A2 mn bZ,.slice none 0 0,.int .i64 H] (by rfl) bk ds ad hX;have bs:=dw.cU bT.size λb al hp=>bT.block b al λhe=>by
  subst he;rcases hp with hp|hp
  .exact hp.elim
  .exact aZ hp
 obtain⟨aJ,bg⟩:∃N,N=X.heap.size:=⟨_,rfl⟩
 have bu:∀b,(Value.slice A2 mn bZ).ownBlock=some b->b≠z/\b<aJ:=λb O=>⟨λe=>aZ (by rw[<-e];exact O),by have:=(bs.lt O).2;omega⟩
 have cP:=ae bu;have fO:=ae (show Ext V X/\an X z 30 #[.slice none 0 0,.slice A2 mn bZ,.slice none 0 0,.int .i64 H]/\Gr (λ_=>False) cE 97 3 X A2 mn bZ (p.af.map er)/\Gr (λ_=>False) aJ 3 1 X none 0 0 (((p.globals.take 0).map (·.2)).map D.i)/\aJ<=X.heap.size from ⟨bW,cQ,bs,Gr.nil _ _ _ _ _,ad⟩);have dZ:z<aJ:=by have:=cQ.lt;omega
 clear bY hX cQ bW bT bs ds dw bk aZ bu be am aH;have bR:=cG.aj fO.1;obtain⟨aI,aj,af⟩:=bR.two;clear bR;go_wp2;clear aI aj af;go_loopw [11] (λci wr=>∃(k:Nat) (A:IP) (c:Nat),k<=gn/\ci=.int .i64 k/\Ext V wr/\an wr z 30 #[.slice A k c,.slice A2 mn bZ,.slice none 0 0,.int .i64 H]/\Gr (λ_=>False) cE 97 3 wr A2 mn bZ (p.af.map er)/\Gr (λ_=>False) aJ 3 1 wr A k c (((p.globals.take k).map (·.2)).map D.i)/\aJ<=wr.heap.size) (λci _=>gn - (intOf ci).toNat)
 case atStart=>exact⟨0,none,0,ad,rfl,fO.o⟩
 case round=>
  obtain⟨k,A,c,ap,rfl,aw,hU,U,s,cB⟩:=hrel;clear fO;have c6:=cK aw hU U s cB;have bJ:=cG.aj aw;obtain⟨aI,aj,af⟩:=bJ.two;obtain⟨be,am,aH⟩:=hU.two;by_cases al:k<gn
  .obtain⟨b,o,g,cs,rfl,O,hx,aY,bd,Z⟩:=(ag.o _ (cv.trans aw)).g.gH nY al;obtain rfl:=l3.1 aY;have cm:=Z 1 _ rfl;have aX:b<wr.heap.size:=O;have aV:=ae hx;clear aw hU U s bJ aY bd Z O hx;go_wp2;refine eB (λ_=>False) [(0,3),(1,0),(2,3),(3,0),(4,3),(5,3),(6,3),(7,0),(8,1),(9,2),(10,3),(11,2)] ?_;refine pf ?_;refine ph ?_;refine pf ?_;refine ph ?_
   iterate 3 refine pf ?_
   refine ph ?_;refine p2 ?_;generalize hV:World.drew (World.alloc _ _)=di;have e1:=gX hV;have cp:an di wr.heap.size 3 #[.int .i64 g.2]:=hV▸(IL).drew;clear hV;refine au rfl (λK hK=>?_);rw[if_pos (by rfl)];refine eK dT (.tmp 69) (.tmp 76) (by rfl) (c6.2.2.2.1.aj e1) cp (show (D.i g.2).rep di _ _ from by simp only[D.rep]) (by rfl) (by rfl) (by rfl) ad ad (aC e1.size) ?_;intro cl c3 eG bb az b5 cf;have j:∀b,(Value.slice A k c).ownBlock=some b->aJ<=b:=λb O=>(c6.2.2.2.1.lt O).1;have bG:=(c6.2.1.aj e1).on az λO=>by have:=j _ O;omega
   have b2:=cK bb az b5 e1 bG;clear bb az b5 e1 cp aI aj af be am aH cm aX;obtain⟨be,am,aH⟩:=bG.two;clear bG;exact lh
  .obtain rfl:gn=k:=ad;rw[Ih (by rw[bL.1];exact Hx _)] at s;obtain⟨r,cn⟩:∃N,N=wr.heap.size:=⟨_,rfl⟩
   have dF:=hU.lt;have dU:z<r:=ad;have db:∀b,(Value.slice A gn c).ownBlock=some b->b≠z/\b<r:=λb O=>⟨by have:=(s.lt O).1;omega,by have:=(s.lt O).2;omega⟩
   have cW:=ae db;have dQ:aJ<=r:=ad;have dk:=ae (show Ext V wr/\an wr z 30 #[.slice A gn c,.slice A2 mn bZ,.slice none 0 0,.int .i64 H]/\Gr (λ_=>False) cE 97 3 wr A2 mn bZ (p.af.map er)/\Gr (λ_=>False) aJ 3 1 wr A gn c ((p.globals.map (·.2)).map D.i)/\Gr (λb=>r<=b) r 118 5 wr none 0 0 (((p.funcs.take 0).map (dX p)).map fQ)/\r<=wr.heap.size from ⟨aw,hU,U,s,Gr.nil _ _ _ _ _,ad⟩);clear c6 aw hU U s bJ db dF be am aH ap al;generalize A=cF at *;generalize c=c1 at *;go_wp2;clear aI aj af;go_loopw [12] (λci wr=>∃(k:Nat) (A:IP) (c:Nat),k<=fn/\ci=.int .i64 k/\Ext V wr/\an wr z 30 #[.slice cF gn c1,.slice A2 mn bZ,.slice A k c,.int .i64 H]/\Gr (λ_=>False) cE 97 3 wr A2 mn bZ (p.af.map er)/\Gr (λ_=>False) aJ 3 1 wr cF gn c1 ((p.globals.map (·.2)).map D.i)/\Gr (λb=>r<=b) r 118 5 wr A k c (((p.funcs.take k).map (dX p)).map fQ)/\r<=wr.heap.size) (λci _=>fn - (intOf ci).toNat)
   case atStart=>exact⟨0,none,0,ad,rfl,dk.o⟩
   case round=>
    obtain⟨k,A,c,ap,rfl,aw,hU,U,s,a4,cB⟩:=hrel;clear dk;have c6:=eU aw hU U s a4 cB;have bJ:=cG.aj aw;obtain⟨aI,aj,af⟩:=bJ.two;by_cases al:k<fn
    .obtain⟨b,o,f,cs,I,O,hx,aY,bd,Z⟩:=(ag.o _ (cv.trans aw)).f.gH mO al;injection I with I;injection I with hFA1 hFA2;subst hFA1 hFA2;obtain⟨QA,cc,qc,m,ak,ab,rfl,gM,dR,cd,cb⟩:=kA.1 aY;have c0:=Z 0 _ rfl;have cm:=Z 1 _ rfl;have gJ:=Z 2 _ rfl;simp only[Ij] at c0;have aX:b3<wr.heap.size:=O;have aV:=aL hx cd cb;have dE:=ag.o _ (cv.trans aw);have dD:=dn.on (Fr.ext aw);have u:=ai dE dD;clear aw hU U s a4 bJ aY bd Z O hx cd cb dE dD;go_upto_region 17 with(fail);refine sU (λ_=>False) [7,14] (.held 0 (.free 1 (.free 2 (.held 3 (.free 4 (.free 5 (.held 6 (.pick [7,13] (λi=>bif i == 7 then .free 8 (.free 9 (.free 10 (.free 11 (.free 12 (.pick [13] (λ_=>.pick [14] (λ_=>.free 15 (.free 16 (.free 17 (.stop)))))))))) else .pick [7] (λ_=>.free 8 (.free 9 (.free 10 (.free 11 (.free 12 (.pick [14] (λ_=>.free 15 (.free 16 (.free 17 (.stop))))))))))))))))))) ?_;refine th ?_
     iterate 2 refine tf ?_
     refine th ?_
     iterate 2 refine tf ?_
     refine th ?_;clear aI aj af c0 cm gJ;refine vj (P:=?GZ) (ops:=?G4) (Q:=?G5) (R:=?G6) (tails:=?G7) (rest:=.pick [14] (λ_=>.free 15 (.free 16 (.free 17 (.stop))))) (aa:=?G0)
      (C:=λ(c5:Nat) (ce:IP) (bO rc:Nat) (bE:IP) (bM br:Nat) gm=>Ext wr gm/\an gm c5 118 #[.string ⟨#[]⟩,.int .i64 0,.int .i64 0,.int .i64 0,.slice none 0 0]/\wr.heap.size<=c5/\(fQ (dX p f)).rep gm (λb=>wr.heap.size<=b/\b<gm.heap.size/\b≠c5) [.string (dX p f).name,.int .i64 (dX p f).ints,.int .i64 (dX p f).aw,.int .i64 (dX p f).locals,.slice ce bO rc]) (λkey=>?F2) ?FY
     case F2=>
      refine a5 ?_ ?_
      ·
       refine bA rfl (λK hK=>?_) rfl;go_simp;refine(df.o f (Ia aV.1) GA gn gc MA mn mc (some ⟨b3,cU,none⟩) fn fc bo (a6 p).length lc QA cc qc m ak ab wr.drew ⟨u.1.g.on (Fr.ext IK.drew),u.1.m.on (Fr.ext IK.drew),u.1.f.on (Fr.ext IK.drew)⟩ (u.2.on (Fr.ext IK.drew)) (aV.2.1.on (Fr.ext IK.drew)) (aV.2.2.on (Fr.ext IK.drew))).mono ?_;rintro e aO ⟨ce,bO,rc,bE,bM,br,rfl,bX,ar⟩;refine dW hK ?_;clear hK K
       iterate 5 refine tf ?_
       refine aq ?_;refine dS ?_;have F:Ext wr (aO.alloc (.cells #[.string ⟨#[]⟩,.int .i64 0,.int .i64 0,.int .i64 0,.slice none 0 0] 118))/\an (aO.alloc (.cells #[.string ⟨#[]⟩,.int .i64 0,.int .i64 0,.int .i64 0,.slice none 0 0] 118)) aO.heap.size 118 #[.string ⟨#[]⟩,.int .i64 0,.int .i64 0,.int .i64 0,.slice none 0 0]/\wr.heap.size<=aO.heap.size/\(fQ (dX p f)).rep (aO.alloc (.cells #[.string ⟨#[]⟩,.int .i64 0,.int .i64 0,.int .i64 0,.slice none 0 0] 118)) (λb=>wr.heap.size<=b/\b<(aO.alloc (.cells #[.string ⟨#[]⟩,.int .i64 0,.int .i64 0,.int .i64 0,.slice none 0 0] 118)).heap.size/\b≠aO.heap.size) [.string (dX p f).name,.int .i64 (dX p f).ints,.int .i64 (dX p f).aw,.int .i64 (dX p f).locals,.slice ce bO rc]:=
        ⟨(Fr.aJ ar).alloc _,IL,(Fr.aJ ar).size,D.aH (λb O=>⟨O.1,by have:=O.2;simp;omega,by have:=O.2;omega⟩) _ _ (D.aT (λb O=>Below.heap_alloc aO _ b O.2) _ _ bX)⟩
       clear bX ar;revert F;generalize aO.heap.size=c5;intro F;exact key c5 ce bO rc bE bM br _ F
      ·
       refine dS ?_;generalize hV:World.alloc _ _=bS;have cV:=bm hV;have bJ:=aU hV;clear hV;refine aq ?_;refine bA rfl (λK hK=>?_) rfl;go_simp;refine(df.o f (Ia aV.1) GA gn gc MA mn mc (some ⟨b3,cU,none⟩) fn fc bo (a6 p).length lc QA cc qc m ak ab bS.drew ⟨u.1.g.on (Fr.ext cV.drew),u.1.m.on (Fr.ext cV.drew),u.1.f.on (Fr.ext cV.drew)⟩ (u.2.on (Fr.ext cV.drew)) (aV.2.1.on (Fr.ext cV.drew)) (aV.2.2.on (Fr.ext cV.drew))).mono ?_;rintro e aO ⟨ce,bO,rc,bE,bM,br,rfl,bX,ar⟩;refine dW hK ?_;clear hK K
       iterate 5 refine tf ?_
       have ct:=bJ.lt;have F:Ext wr aO/\an aO wr.heap.size 118 #[.string ⟨#[]⟩,.int .i64 0,.int .i64 0,.int .i64 0,.slice none 0 0]/\wr.heap.size<=wr.heap.size/\(fQ (dX p f)).rep aO (λb=>wr.heap.size<=b/\b<aO.heap.size/\b≠wr.heap.size) [.string (dX p f).name,.int .i64 (dX p f).ints,.int .i64 (dX p f).aw,.int .i64 (dX p f).locals,.slice ce bO rc]:=
        ⟨cV.trans (Fr.aJ ar),bJ.aj (Fr.aJ ar),Hx _,D.aH (λb O=>⟨by have ac:bS.heap.size<=b:=O.1;omega,O.2,by have ac:bS.heap.size<=b:=O.1;omega⟩) _ _ bX⟩
       clear bX ar cV bJ ct;exact key wr.heap.size ce bO rc bE bM br _ F
     case FY=>
      rintro c5 ce bO rc bE bM br gm ⟨dr,ax,cX,bX⟩;obtain⟨d0,aP,aQ⟩:=ax.two;have ay:=aL dr ax bX;clear dr ax bX;refine aq ?_;refine bA rfl (λK hK=>?_) rfl;go_simp;refine dW hK ?_;clear hK K
      iterate 3 refine tf ?_
      refine cr ?_;generalize hX:World.setCell _ _ _=g6;obtain⟨dr,ax,bX⟩:=ay.o;obtain⟨bJ,cj,aE⟩:=cO (w:=wr) [.string (dX p f).name,.int .i64 (dX p f).ints,.int .i64 (dX p f).aw,.int .i64 (dX p f).locals,.slice ce bO rc] (by rfl) ax dr cX hX;have cD:=c6.2.1.aj cj;have ch:=c6.2.2.2.2.1.aj cj;have cu:∀b,(Value.slice A k c).ownBlock=some b->b<wr.heap.size:=λb O=>(c6.2.2.2.2.1.lt O).2;have dV:=aE.size;have d4:=cj.size;have hd:(fQ (dX p f)).rep g6 (kJ (λb=>r<=b) g6 (.slice A k c)) [.string (dX p f).name,.int .i64 (dX p f).ints,.int .i64 (dX p f).aw,.int .i64 (dX p f).locals,.slice ce bO rc]:=
       D.aH (λb O=>⟨by have:=O.1;omega,by have:=O.2.1;omega,λhc=>by have:=cu b hc;have:=O.1;omega⟩) _ _ (D.aT (λb O=>aE.block b O.2.1 O.2.2) _ _ bX)
      have dz:=aL cj ch hd;clear hX dr ax bX aE ch hd d0 aP aQ ay cu cj;obtain⟨d0,aP,aQ⟩:=bJ.two;obtain⟨be,am,aH⟩:=cD.two;have dO:=ae cD;clear bJ cD;go_wp2_with((at_builtin;refine bN EL rfl (.tmp 106) (.tmp 108) rfl dz.2.1 dz.2.2 rfl rfl rfl ad ad ad ?_;intro cl c3 cz bb az b5 cf;have cN:=dO.on az (λO=>by have:=(dz.2.1.lt O).1;omega);clear be am aH d0 aP aQ;obtain⟨be,am,aH⟩:=cN.two;have dP:=ae cN;clear cN));generalize hX:World.setCell _ _ _=dI;have cJ:=cT hX;have cj:=dz.1;have j:∀b,(Value.slice A k c).ownBlock=some b->r<=b:=λb O=>(dz.2.1.lt O).1;have dL:(((p.funcs.take (k+1)).map (dX p)).map fQ)=((p.funcs.take k).map (dX p)).map fQ++[fQ (dX p f)]:=by rw[a0 aV.1,Ig,Ig];rfl
      have q1:Ext V dI:=Fr.low (M:=λb=>V.heap.size<=b) (((c6.1.trans cj).mono λ_ h=>h.elim).trans ((az.mono λb O=>by have:=j b O;omega).trans (cJ.mono λb O=>ad))) λ_ h=>h;have dq:an dI z 30 #[.slice cF gn c1,.slice A2 mn bZ,.slice cl (k+1) c3,.int .i64 H]:=hX▸dP.aI 2 _;have dg:=((c6.2.2.1.aj cj).cU az.size λb al hp=>az.block b al λhe=>by
       rcases hp with hp|hp
       .exact hp.elim
       .have:=j b he;have:=(cP.o b hp).2;omega).cU cJ.size λb al hp=>cJ.block b al λhe=>by
       rcases hp with hp|hp
       .exact hp.elim
       .exact(cP.o b hp).1 he
      have c8:=((c6.2.2.2.1.aj cj).cU az.size λb al hp=>az.block b al λhe=>by
       rcases hp with hp|hp
       .exact hp.elim
       .have:=j b he;have:=(cW.o b hp).2;omega).cU cJ.size λb al hp=>cJ.block b al λhe=>by
       rcases hp with hp|hp
       .exact hp.elim
       .exact(cW.o b hp).1 he
      have cA:Gr (λb=>r<=b) r 118 5 dI cl (k+1) c3 (((p.funcs.take (k+1)).map (dX p)).map fQ):=by
       rw[dL];exact bb.cU cJ.size λb al hp=>cJ.block b al λhe=>by
        rcases hp with hp|hp
        .omega
        .have:=(bb.lt hp).1;omega
      have dh:r<=dI.heap.size:=by have ac:=cj.size;have J:=az.size;have aR:=cJ.size;omega
      have a8:=eU q1 dq dg c8 cA dh;clear q1 dq dg c8 cA dh bb az b5 cj cJ hX j dL be am aH;go_wp2;go_roundw
      case rel=>exact⟨k+1,cl,c3,ad,by go_num,a8.o⟩
      case measure=>exact aF
    .obtain rfl:fn=k:=ad;rw[Ih (by rw[bL.2.2];exact Hx _)] at a4;have bB:=bQ.aj aw;have d3:w.heap.size+1<V.heap.size:=bQ.lt;have bv:=ae hU;obtain⟨be,am,aH⟩:=hU.two;obtain⟨d0,aP,aQ⟩:=bB.two;obtain⟨dd,dj⟩:=aN bB a4;clear aw hU U s a4 bJ bB;go_wp2;generalize hX:World.setCell _ _ _=gP;obtain⟨f2,cL,c2⟩:=cO (w:=w) [.slice cF gn c1,.slice A2 mn bZ,.slice A fn c,.int .i64 H] (by rfl) dd.o (cv.trans c6.1) (Nat.le_succ _) hX;obtain⟨bD,aK,a9⟩:=f2.two;clear be am aH d0 aP aQ aI aj af;refine IJ (v:=.tuple #[.agg #[.slice cF gn c1,.slice A2 mn bZ,.slice A fn c,.int .i64 H],.int .i64 0,.int .i64 0,.int .i64 0]) (by simp[results,Tryz.results17,go_sem,bD]) rfl ?_;have bt:(hZ p).main=(H:Int):=by
      show iC (a6 p) h2=_
      unfold iC;rw[show h2=⟨#[109,97,105,110]⟩ from rfl,da.o]
     have gv:=cv.size;have d5:=c2.size;have bi:∀b,V.heap.size<=b->b<wr.heap.size->gP.heap[b]?=wr.heap[b]?:=λb ac J=>c2.block b J ad;have c9:=c6.2.2.1.cU c2.size λb al hp=>by
      rcases hp with hp|hp
      .exact hp.elim
      .exact bi b (by have:=(c6.2.2.1.lt hp).1;omega) al
     have cI:=c6.2.2.2.1.cU c2.size λb al hp=>by
      rcases hp with hp|hp
      .exact hp.elim
      .exact bi b (by have:=(c6.2.2.2.1.lt hp).1;omega) al
     have ca:=dj.cU c2.size λb al hp=>by
      rcases hp with hp|hp
      .exact bi b ad al
      .exact bi b (by have:=(dj.lt hp).1;omega) al
     refine⟨cF,gn,c1,A2,mn,bZ,A,fn,c,by rw[bt],?_,cL⟩;unfold uc;rw[bt,bw];exact aA.2 ⟨cF,gn,c1,_,rfl,cI.cap.1,cI.sl (λb _ h=>h.elim) (λb ac J=>⟨ad,ac⟩),aA.2 ⟨A2,mn,bZ,_,rfl,c9.cap.1,c9.sl (λb _ h=>h.elim) (λb ac J=>⟨ad,ac⟩),
      aA.2 ⟨A,fn,c,_,rfl,ca.cap.1,ca.sl (λb ac J=>⟨ad,ac⟩) (λb ac J=>⟨ad,ac⟩),a2.2 ⟨_,rfl,aM.2 rfl⟩⟩⟩⟩
 ):p:=h
theorem qZ(h:p:=by
 have b7:(a6 p).length<=100:=by rw[ky];omega
 obtain⟨H,bK,bp,du,cH⟩:=hp.main;have bj:de (a6 p) ⟨#[109,97,105,110]⟩=some ⟨⟨#[109,97,105,110]⟩,3,(H:Int)⟩:=by
  have:=kH (nj hp) (Ia (v3 bp));rw[du] at this;exact this
 have ah:H<fn:=by have:=(List.getElem?_eq_some_iff.1 bp).1;omega
 obtain⟨aD,b9,df,da⟩:=ih h hp dC bj;have dp:=ai bp cH;have bL:=aL dt lm lf;have d1:=ae b7;clear h hp dC bj bp du cH dt lm lf b7;go_enter func17,ntmps17;go_upto_region 1 with(fail);generalize ba:World.alloc _ _=W;have aw:=hJ ba;have aS:=fA ba;have dB:=fB ba;obtain⟨bf,a7,dv⟩:=eD aw aS dB;obtain⟨aI,aj,af⟩:=aS.two;have dM:∀(aO:World),Ext w aO->hG aO (av aO) p GA gn MA mn FA fn:=λ_ he=>⟨aD.g.on (Fr.ext he),aD.m.on (Fr.ext he),aD.f.on (Fr.ext he)⟩
 have ag:=ae dM;clear ba aw aS dB dM;go_wp2_with(fail);refine(Dw p b9.o GA gn gc MA mn mc FA fn fc W (ag.o _ bf.o)).mono ?_;rintro e aO ⟨rfl,ar⟩;have bh:=ae (bf.trans ar);have co:=a7.aj ar;have G:=ae co;have c4:=ae (dv.aj ar);clear aI aj af ar;obtain⟨aI,aj,af⟩:=co.two;clear co;go_wp2_with(fail);refine(q9 p b9.o GA gn gc MA mn mc FA fn fc aO (ag.o _ bh.o)).mono ?_;rintro e aT ⟨bo,lc,rfl,y,bx⟩;have a3:=ae (bh.trans bx);have bU:=G.aj bx;have b6:=ae bU;have c7:=ae (c4.aj bx);have cy:Sl aT (av aT) bo (a6 p).length ((a6 p).map bP):=y.mono λb O=>O.2;have b8:=ae cy;clear aI aj af bx y cy;obtain⟨aI,aj,af⟩:=bU.two;clear bU;go_wp2_with(fail);refine(dH bo (a6 p).length lc (a6 p) ⟨#[109,97,105,110]⟩ aT b8.o (aC d1.o)).mono ?_;rintro e b4 ⟨rfl,bV⟩;rw[da.o];simp only[im,pY];have bl:=ae (a3.trans bV);have bI:=ae (b6.aj bV);have dc:=ae (c7.aj bV);have dl:=ae (b8.on (Fr.ext bV));clear aI aj af bV;go_upto_region 7 with(fail);generalize hV:World.alloc _ _=V;have T:=bm hV;have cZ:=aU hV;have cv:=ae (bl.trans T);have bH:=bI.aj T;have cG:=ae bH;have bQ:=ae (dc.aj T);have dn:=ae (dl.on (Fr.ext T));have dY:=ae cZ;obtain⟨b3,cU,S,cs,rfl,cw,ao,a1,cC,b1⟩:=(ag.o _ cv.o).f.gH mO ah;rw[dp.1] at ao;injection ao with ao;subst ao;obtain⟨PA,pn,pc,aW,bn,bc,rfl,cS,cx,cq,_⟩:=kA.1 a1;have f4:=b1 1 _ rfl;have bz:b3<V.heap.size:=cw;obtain rfl:0=pn:=by have:=cq.1;rw[dp.2] at this;exact this
 clear hV T a1 cC b1 cq cw;obtain⟨aI,aj,af⟩:=bH.two;obtain⟨be,am,aH⟩:=cZ.two;clear bH cZ;go_upto_region 9 with(fail);have cY:=ae (ag.o _ cv.o).m;obtain⟨cE,dy⟩:∃N,N=V.heap.size:=⟨_,rfl⟩
 have gG:¬cE<=w.heap.size:=ad;have gH:¬cE<=b4.heap.size:=ad;clear f4 bz;refine sU (λb=>cE<=b) [8] (.free 0 (.held 1 (.free 3 (.held 4 (.pick [2,7] (λi=>bif i == 2 then .pick [5,7] (λi=>bif i == 5 then .free 6 (.pick [7] (λ_=>.pick [8] (λ_=>.stop))) else .pick [5] (λ_=>.free 6 (.pick [8] (λ_=>.stop)))) else .pick [2] (λ_=>.pick [5] (λ_=>.free 6 (.pick [8] (λ_=>.stop)))))))))) ?_;refine tf ?_;refine rL ?_;refine tf ?_;refine rL ?_;clear aI aj af be am aH;refine h8 (P:=?pO) (ops:=?F9) (Q:=?Gb) (R:=?Gc) (tails:=?Gh) (rest:=.pick [8] (λ_=>.stop)) (aa:=?FM)
  (C:=λ(_:Nat) z A2 bZ gm=>Ext V gm/\Gr (λ_=>False) cE 97 3 gm A2 mn bZ (p.af.map er)/\an gm z 30 #[.slice none 0 0,.slice none 0 0,.slice none 0 0,.int .i64 0]/\(Value.slice A2 mn bZ).ownBlock≠some z/\cE<=z) (λkey=>?Bx) ?Bm
 case Bx=>
  refine a5 ?_ ?_
  ·
   refine dS ?_;generalize hV:World.drew (World.alloc _ _)=bS;have e1:=gX hV;have cR:Gr (λ_=>False) cE 97 3 bS (some ⟨V.heap.size,0,none⟩) 0 0 []:=by rw[<-hV,dy];exact(Gr.lit (w:=V) (n:=0) (l:=[]) rfl (by rfl) ad (by simp only[D.aO])).aj IK.drew
   clear hV;refine a5 ?_ ?_
   ·
    refine aG rfl (λK hK=>?_) rfl;rw[if_pos (by rfl)];refine iH lp (.tmp 56) (.tmp 58) (by rfl) cR (pa p.af) cY.1 (rq (cY.on (Fr.ext e1))) (λh=>by subst h;exact Sl.none_ cY.o) (by rfl) (by rfl) ad ad (by rw[dy];exact e1.size) ?_;intro A2 bZ cz b0 f1 o1 c1;refine dA hK (f1.mono λb O=>ad) ?_;clear hK K;refine tf ?_;refine aq ?_;refine dS ?_;have e2:Ext V cz:=Fr.low (M:=λb=>V.heap.size<=b) ((e1.mono λ_ h=>h.elim).trans (f1.mono λb O=>ad)) λ_ h=>h;have F:Ext V (cz.alloc (.cells #[.slice none 0 0,.slice none 0 0,.slice none 0 0,.int .i64 0] 30))/\Gr (λ_=>False) cE 97 3 (cz.alloc (.cells #[.slice none 0 0,.slice none 0 0,.slice none 0 0,.int .i64 0] 30)) A2 mn bZ (p.af.map er)/\an (cz.alloc (.cells #[.slice none 0 0,.slice none 0 0,.slice none 0 0,.int .i64 0] 30)) cz.heap.size 30 #[.slice none 0 0,.slice none 0 0,.slice none 0 0,.int .i64 0]/\(Value.slice A2 mn bZ).ownBlock≠some cz.heap.size/\cE<=cz.heap.size:=
     ⟨e2.alloc _,b0.aj (IK.alloc _),IL,λO=>by have:=(b0.lt O).2;omega,by have:=e2.size;omega⟩
    clear b0 cR f1 o1 e1 e2;revert F;generalize cz.heap.size=z;generalize V.heap.size=ck;intro F;exact key ck z A2 bZ _ F
   ·
    refine dS ?_;generalize hV:World.alloc _ _=eP;have e2:=bm hV;have bq:an eP bS.heap.size 30 #[.slice none 0 0,.slice none 0 0,.slice none 0 0,.int .i64 0]:=hV▸IL;have dK:V.heap.size<bS.heap.size:=(cR.lt (g:=V.heap.size) rfl).2;clear hV;refine aq ?_;refine aG rfl (λK hK=>?_) rfl;rw[if_pos (by rfl)];refine iH lp (.tmp 56) (.tmp 58) (by rfl) (cR.aj e2) (pa p.af) cY.1 (rq (cY.on (Fr.ext (e1.trans e2)))) (λh=>by subst h;exact Sl.none_ cY.o) (by rfl) (by rfl) ad ad (by rw[dy];exact(e1.trans e2).size) ?_;intro A2 bZ cz b0 f1 o1 c1;refine dA hK (f1.mono λb O=>ad) ?_;clear hK K;refine tf ?_;have e3:Ext V cz:=Fr.low (M:=λb=>V.heap.size<=b) (((e1.trans e2).mono λ_ h=>h.elim).trans (f1.mono λb O=>ad)) λ_ h=>h;have dJ:=bq.lt;have F:Ext V cz/\Gr (λ_=>False) cE 97 3 cz A2 mn bZ (p.af.map er)/\an cz bS.heap.size 30 #[.slice none 0 0,.slice none 0 0,.slice none 0 0,.int .i64 0]/\(Value.slice A2 mn bZ).ownBlock≠some bS.heap.size/\cE<=bS.heap.size:=⟨e3,b0,bq.on f1 ad,λO=>by
     rcases o1 _ O with h|h
     .omega
     .omega,ad⟩
    clear b0 cR f1 o1 e1 e2 e3 bq dK dJ;revert F;generalize bS.heap.size=z;generalize V.heap.size=ck;intro F;exact key ck z A2 bZ _ F
  ·
   refine dS ?_;generalize hV:World.drew (World.alloc _ _)=bS;have e1:=gX hV;have bq:an bS V.heap.size 30 #[.slice none 0 0,.slice none 0 0,.slice none 0 0,.int .i64 0]:=hV▸(IL).drew;clear hV;refine aq ?_;refine dS ?_;generalize hV:World.alloc _ _=eP;have e2:=bm hV;have cR:Gr (λ_=>False) bS.heap.size 97 3 eP (some ⟨bS.heap.size,0,none⟩) 0 0 []:=hV▸Gr.lit (w:=bS) (n:=0) (l:=[]) rfl (by rfl) ad (by simp only[D.aO]);have dm:=bq.aj e2;have dK:V.heap.size<bS.heap.size:=bq.lt;have dx:bS.heap.size<=eP.heap.size:=e2.size;clear hV bq;refine aq ?_;refine aG rfl (λK hK=>?_) rfl;rw[if_pos (by rfl)];refine iH lp (.tmp 56) (.tmp 58) (by rfl) cR (pa p.af) cY.1 (rq (cY.on (Fr.ext (e1.trans e2)))) (λh=>by subst h;exact Sl.none_ cY.o) (by rfl) (by rfl) ad ad dx ?_;intro A2 bZ cz b0 f1 o1 c1;refine dA hK (f1.mono λb O=>ad) ?_;clear hK K;refine tf ?_;have e3:Ext V cz:=Fr.low (M:=λb=>V.heap.size<=b) (((e1.trans e2).mono λ_ h=>h.elim).trans (f1.mono λb O=>ad)) λ_ h=>h;have F:Ext V cz/\Gr (λ_=>False) cE 97 3 cz A2 mn bZ (p.af.map er)/\an cz V.heap.size 30 #[.slice none 0 0,.slice none 0 0,.slice none 0 0,.int .i64 0]/\(Value.slice A2 mn bZ).ownBlock≠some V.heap.size/\cE<=V.heap.size:=⟨e3,b0.base ad,dm.on f1 ad,λO=>by have:=(b0.lt O).1;omega,ad⟩
   clear b0 cR f1 o1 e1 e2 e3 dm dK dx;revert F;generalize bS.heap.size=ck;generalize V.heap.size=z;intro F;exact key ck z A2 bZ _ F
 case Bm=>
  rintro ck z A2 bZ Y ⟨ds,dw,bk,aZ,d2⟩;obtain⟨be,am,aH⟩:=bk.two;have bY:=bF ds dw bk aZ;clear ds dw bk aZ;exact gY
 ):p:=h
end zT
open zT in
theorem xh(p:bC)(hp:pH p)(dC:Fz p)(GA:IP)(gn gc:Nat)(MA:IP)(mn mc:Nat)(FA:IP)(fn fc:Nat)(w:World)(h:hG w (av w) p GA gn MA mn FA fn) :
  Calls prog 17 #[.agg #[.slice GA gn gc,.slice MA mn mc,.slice FA fn fc]] w (vB w (hZ p)):=by
 have dt:p.globals.length=gn:=by rw[<-h.g.1,Ib]
 have lm:p.af.length=mn:=by rw[<-h.m.1,Ib]
 have lf:p.funcs.length=fn:=by rw[<-h.f.1,Ib]
 exact qY
theorem GJ(p:bC)(hp:pH p):Fz p:=λf aA GA gn gc MA mn mc FA fn fc bo ln lc PA pn pc aW bn bc w h hl cq bB=>
 (rh (λU nk F b=>wU Df U nk F b) p hp f aA GA gn gc MA mn mc FA fn fc bo ln lc PA pn pc aW bn bc w h hl cq bB).mono λ_ _ h=>h
theorem lowerR(p:bC)(hp:pH p)(GA:IP)(gn gc:Nat)(MA:IP)(mn mc:Nat)(FA:IP)(fn fc:Nat)(w:World)(h:hG w (av w) p GA gn MA mn FA fn) :
  Calls prog 17 #[.agg #[.slice GA gn gc,.slice MA mn mc,.slice FA fn fc]] w (vB w (hZ p)):=xh p hp (GJ p hp) GA gn gc MA mn mc FA fn fc w h
end Go.Proofs.YtajlmkkidmjgoaaGreatDoor

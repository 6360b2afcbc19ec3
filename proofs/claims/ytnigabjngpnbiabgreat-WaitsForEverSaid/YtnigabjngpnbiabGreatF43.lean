/- Part 43. No condition. -/
import Derived.Test.YtnigabjngpnbiabGreatF36
import Derived.Test.YtnigabjngpnbiabGreatF42
namespace Go.Proofs.YtnigabjngpnbiabGreat
open Go.RowKit Go.Proofs.Tryz
set_option maxRecDepth 1000000
set_option maxHeartbeats 25600000
set_option linter.unusedVariables false
variable{p:Prop}
namespace Ed
theorem fC(h:p:=by
 refine cj ?_;generalize cA:World.setCell _ _ _=Y;have hh:wr<=dP:=ad;obtain⟨bM,bA,bz⟩:=eg (M:=λb=>b=S.heap.size+1) [.string (⟨#[103]⟩++strOf [byteOf bv]),.int .i64 (IntKind.i64.wrap ((j:Int) - 2))] (by rfl) bK ai hh cA;obtain⟨y,bL⟩:∃y:Int,y=IntKind.i64.wrap ((j:Int) - 2):=⟨_,rfl⟩
 rw[<-bL] at bM;rw[IntWalk.i64_in _ ad] at bL;rw[Fa ad aE.o] at bM;have Z:=ck.next (aw.cZ bz λb O h=>ad) bA;have ba:-2<=y/\y<=2:=ad;have bB:=ah Z bM;have bZ:=ae ba;clear cA bM bA bz Z bL ba aw ai bK b0 a8 bw bi;obtain⟨a0,ak,af⟩:=bB.1.blk.two;obtain⟨b0,a8,bw⟩:=bB.2.two;have r:∀b,(Value.slice GA i gc).ownBlock=some b->u<=b/\b<wr.heap.size:=λb O=>ck.rows.one.lt O;have aI:∀b,(Value.slice be i bC).ownBlock=some b->u<=b/\b<wr.heap.size:=λb O=>ck.rows.two.lt O;have gx:¬(Value.slice GA i gc).ownBlock=some (S.heap.size+1+1):=λh=>by have:=(r _ h).1;omega
 have b8:¬(Value.slice GA i gc).ownBlock=some dP:=λh=>by have:=(r _ h).2;omega
 have g5:u<=Y:=bB.1.hD.2;have bF:wr<=Y.heap.size:=by have:=bB.2.lt;omega
 have bj:=ah r aI;clear r aI;go_upto_region 18 with(fail);refine sK (λb=>(Value.slice GA i gc).ownBlock=some b) [13,17] (.free 0 (.free 1 (.free 2 (.free 3 (.free 4 (.held 5 (.held 6 (.free 9 (.free 10 (.held 11 (.pick [7,12] (λi=>bif i == 7 then .pick [8,12] (λi=>bif i == 8 then .pick [12] (λ_=>.pick [13] (λ_=>.free 14 (.free 15 (.free 16 (.pick [17] (λ_=>.free 18 (.stop))))))) else .pick [8] (λ_=>.pick [13] (λ_=>.free 14 (.free 15 (.free 16 (.pick [17] (λ_=>.free 18 (.stop)))))))) else .pick [7] (λ_=>.pick [8] (λ_=>.pick [13] (λ_=>.free 14 (.free 15 (.free 16 (.pick [17] (λ_=>.free 18 (.stop)))))))))))))))))))) ?_
 iterate 5 refine tf ?_
 iterate 2 refine pd ?_
 iterate 2 refine tf ?_
 refine pd ?_;clear a0 ak af b0 a8 bw;refine jg (P:=?ME) (ops:=?MK) (Q:=?MO) (R:=?MQ) (tails:=?MS) (rest:=.pick [13] (λ_=>.free 14 (.free 15 (.free 16 (.pick [17] (λ_=>.free 18 (.stop))))))) (aa:=?MJ)
  (C:=λ(_:Nat) br A2 bR V=>True/\∃q1 cL,Ext Y q1/\Gr (λb=>u<=b/\(Value.slice be i bC).ownBlock≠some b) u 109 2 cL A2 (i+1) bR (G.map iR++[iR (dX i,y)])/\Fr (λb=>(Value.slice GA i gc).ownBlock=some b) q1 cL/\dz q1 GA i gc A2 (i+1) bR/\Ext cL V/\an V br 9 #[.string (dX i)]) (λkey=>?Ml) ?Mk
 case Ml=>
  refine a2 ?_ ?_
  ·
   refine ep ?_;generalize hV:World.drew (World.alloc _ _)=c3;have e1:=hy hV;have bn:an c3 Y 109 #[.string (dX i),y]:=hV▸ND;clear hV;refine a2 ?_ ?_
   ·
    refine aD rfl (λK hK=>?_) rfl;rw[if_pos (by rfl)];refine fq wS (.tmp 108) (.tmp 110) (by rfl) (bB.1.rows.aj e1).one bn (tW.2 rfl:(iR (dX i,y)).rep c3 _ _) (by rfl) (by rfl) (by rfl) ad ad (ax e1.size) ?_;intro A2 bR aW cd f1 o1 c1;refine dB hK (f1) ?_;clear hK K;refine aq ?_;refine ep ?_;have aF:True/\∃q1 cL,Ext Y q1/\Gr (λb=>u<=b/\(Value.slice be i bC).ownBlock≠some b) u 109 2 cL A2 (i+1) bR (G.map iR++[iR (dX i,y)])/\Fr (λb=>(Value.slice GA i gc).ownBlock=some b) q1 cL/\dz q1 GA i gc A2 (i+1) bR/\Ext cL (aW.alloc (.cells #[.string (dX i)] 9))/\an (aW.alloc (.cells #[.string (dX i)] 9)) aW 9 #[.string (dX i)]:=⟨trivial,c3,aW,e1,cd,f1,o1,NC.alloc _,ND⟩
    clear cd o1;revert aF;generalize aW.heap.size=br;generalize Y.heap.size=fk;intro aF;exact key fk br A2 bR _ aF
   ·
    refine ep ?_;generalize hV:World.alloc _ _=m;have cl:an m c3 9 #[.string (dX i)]:=hV▸ND;have aU:=by have:=bn.alloc (.cells #[.string (dX i)] 9);rw[hV] at this;exact this
    have e2:Ext Y m:=hV▸e1.alloc _;clear hV bn;refine aq ?_;refine aD rfl (λK hK=>?_) rfl;rw[if_pos (by rfl)];refine fq wS (.tmp 108) (.tmp 110) (by rfl) (bB.1.rows.aj e2).one aU (tW.2 rfl:(iR (dX i,y)).rep m _ _) (by rfl) (by rfl) (by rfl) ad ad (ax e2.size) ?_;intro A2 bR aW cd f1 o1 c1;refine dB hK (f1) ?_;clear hK K;have bl:¬(Value.slice GA i gc).ownBlock=some c3.heap.size:=λO=>by have:=(bj.1 _ O).2;have:=e1.size;omega
    have aF:True/\∃q1 cL,Ext Y q1/\Gr (λb=>u<=b/\(Value.slice be i bC).ownBlock≠some b) u 109 2 cL A2 (i+1) bR (G.map iR++[iR (dX i,y)])/\Fr (λb=>(Value.slice GA i gc).ownBlock=some b) q1 cL/\dz q1 GA i gc A2 (i+1) bR/\Ext cL aW/\an aW c3 9 #[.string (dX i)]:=⟨trivial,m,aW,e2,cd,f1,o1,NC,cl.on f1 bl⟩
    clear cd o1;revert aF;generalize c3.heap.size=br;generalize Y.heap.size=fk;intro aF;exact key fk br A2 bR _ aF
  ·
   refine ep ?_;generalize hV:World.drew (World.alloc _ _)=c3;have cl:an c3 Y 9 #[.string (dX i)]:=hV▸ND;have e1:=hy hV;clear hV;refine aq ?_;refine ep ?_;generalize hV:World.alloc _ _=m;have e2:Ext Y m:=hV▸e1.alloc _;have bn:=aL hV;have aV:an m Y 9 #[.string (dX i)]:=hV▸cl.alloc _;clear hV;refine aq ?_;refine aD rfl (λK hK=>?_) rfl;rw[if_pos (by rfl)];refine fq wS (.tmp 108) (.tmp 110) (by rfl) (bB.1.rows.aj e2).one bn (tW.2 rfl:(iR (dX i,y)).rep m _ _) (by rfl) (by rfl) (by rfl) ad ad (ax e2.size) ?_;intro A2 bR aW cd f1 o1 c1;refine dB hK (f1) ?_;clear hK K;have bl:¬(Value.slice GA i gc).ownBlock=some Y.heap.size:=λO=>by have:=(bj.1 _ O).2;omega
   have aF:True/\∃q1 cL,Ext Y q1/\Gr (λb=>u<=b/\(Value.slice be i bC).ownBlock≠some b) u 109 2 cL A2 (i+1) bR (G.map iR++[iR (dX i,y)])/\Fr (λb=>(Value.slice GA i gc).ownBlock=some b) q1 cL/\dz q1 GA i gc A2 (i+1) bR/\Ext cL aW/\an aW Y 9 #[.string (dX i)]:=⟨trivial,m,aW,e2,cd,f1,o1,NC,aV.on f1 bl⟩
   clear cd o1;revert aF;generalize Y.heap.size=br;generalize c3.heap.size=fk;intro aF;exact key fk br A2 bR _ aF
 case Mk=>
  rintro fk br A2 bR V ⟨_,aO,aW,e1,cd,f1,o1,e2,cl⟩;have s1:=e1.size;have s2:=f1.size;have cP:=e2.size;obtain⟨r,aI⟩:=bj.o;have bo:=((bB.1.rows.aj e1).grow cd f1 o1).aj e2;have b4:an V (S.heap.size+1+1) _ _:=((bB.1.blk.aj e1).on f1 gx).aj e2;have cH:¬(Value.slice be i bC).ownBlock=some (S.heap.size+1+1):=λh=>by have:=(aI _ h).1;omega
  refine aq ?_;refine bP rfl (λK hK=>?_) rfl;rw[if_pos (by rfl)];refine fq kQ (.tmp 112) (.tmp 115) (by rfl) bo.two cl (vG.2 rfl:(D.s (dX i)).rep V _ _) (by rfl) (by rfl) (by rfl) ad ad ad ?_;intro cr cD cO g2 f2 gv c2;have au:=(bo.swap.grow g2 f2 gv).swap;have bX:=b4.on f2 cH;have J:Fr (λb=>(Value.slice GA i gc).ownBlock=some b\/(Value.slice be i bC).ownBlock=some b) Y cO:=((((e1.mono λ_ h=>h.elim).trans (f1.mono λ_ h=>.inl h)).trans (e2.mono λ_ h=>h.elim)).trans (f2.mono λ_ h=>.inr h))
  have z:=ah au J;clear cd f1 o1 e1 e2 cl bo b4 g2 f2 gv c2 au J;obtain⟨a0,ak,af⟩:=bX.two;clear bX;refine dY hK ?_;clear hK K
  iterate 3 refine tf ?_
  refine aq ?_;refine bP rfl (λK hK=>?_) rfl;go_simp;refine dY hK ?_;clear hK K;refine tf ?_;refine cj ?_;generalize hX:World.setCell _ _ _=gU;have cC:lS u 109 2 9 1 cO A2 (i+1) bR ((G++[(dX i,y)]).map iR) cr (i+1) cD (((G++[(dX i,y)]).map (·.1)).map D.s):=by
   simp only[Na,M7,Nr];exact z.1
  have f:=bB.1.add cC z.2 ad (ck.An.snoc cv bZ.1 bZ.2);rw[hX] at f;have bp:=ae f;clear hX f cC a0 ak af;go_wp2_with(fail);go_roundw
  case rel=>exact⟨i+1,A2,bR,G++[(dX i,y)],cr,cD,by go_num,rfl,ad,bp.o⟩
  case measure=>exact aH
 ):p:=h
theorem Bm(h:p:=by
 generalize hc:IntKind.u8.wrap (IntKind.i64.wrap (48+(i:Int)))=bv;obtain⟨bq,hf⟩:∃bq,bq=wr.heap.size:=⟨_,rfl⟩
 have aE:=ae hc;clear hc;have hq:(strOf [byteOf bv]).size=1:=aC _;have U:=ah ck.src (Fr.refl (λb=>b=S.heap.size+1) wr);refine jf (P:=?pT) (ops:=?J1) (Q:=?J3) (R:=?J4) (tails:=?J8) (rest:=.pick [14] (λ_=>.stop)) (aa:=?J0)
  (C:=λ(a3 dP j:Nat) eX=>cu eX (S.heap.size+1) A n c l/\Fr (λb=>b=S.heap.size+1) wr eX/\an eX dP 109 #[NF,(0:Int)]/\bq<=dP/\j<5) (λkey=>?zU) ?zO
 case zU=>
  refine rr ?_ ?_ ?_
  ·
   refine ep ?_;refine bf (λV=>Ext wr V/\an V wr 5 #[.int .u8 bv]) ⟨(NC.alloc _).drew,ND⟩ (λr1 hV=>?_);have k:=ah (U.1.cZ hV.1 λ_ _ h=>h) (U.2.trans (hV.1.mono λ_ h=>h.elim));have gP:wr<=wr.heap.size:=U.2.size;have X:=ae hV.2;clear hV;obtain⟨e0,a6,ag⟩:=X.two;refine cB (v:=?_) rfl (by rfl) (λV hV=>?_) ?_;rotate_left
   .have b6:=eE V (wr.heap.size) bv ((hV.cell ag ad).trans (e0 0))
    (go_simp<;>with_reducible rfl)
   try simp only[PU]
   clear e0 a6 ag;refine tf ?_;refine a2 ?_ ?_
   ·
    refine aD rfl (λK hK=>?_) rfl;go_simp;refine(aZ _ (S.heap.size+1) A n c l 5 (k.1.cZ (M:=λ_=>False) NC (λ_ _ h=>h)) ad ad).mono ?_;rintro e gw ⟨gS,rfl,bg,O,h,he⟩;obtain⟨j,rfl⟩:=M6 bg;have bi:j<5:=ad;have ai:Fr (λb=>b=S.heap.size+1) r1 gw:=he.fr;have az:=ah h (k.2.trans ai);have bV:=ae (X.on ai ad);refine dB hK (he.fr) ?_;clear hK K;clear h he ai bg O
    iterate 2 refine tf ?_
    refine aq ?_;refine ep ?_;refine bf (λV=>Ext gw V/\an V gw 109 #[NF,(0:Int)]) ⟨NC.alloc _,ND⟩ (λgM hV=>?_);have aP:=ah (az.1.cZ hV.1 λ_ _ h=>h) (az.2.trans (hV.1.mono λ_ h=>h.elim));have gZ:wr<=gw.heap.size:=az.2.size;have b3:=ae hV.2;have f0:=ae (bV.aj hV.1);clear hV;have aF:=And.intro aP.1 (And.intro aP.2 (And.intro b3.o (And.intro (show bq<=gw.heap.size by omega) bi)));revert aF;generalize wr.heap.size=a3;generalize gw.heap.size=dP;intro aF;exact key a3 dP j _ aF
   ·
    refine ep ?_;refine bf (λV=>Ext r1 V/\an V r1 109 #[NF,(0:Int)]) ⟨NC.alloc _,ND⟩ (λgV hV=>?_);have aT:=ah (k.1.cZ hV.1 λ_ _ h=>h) (k.2.trans (hV.1.mono λ_ h=>h.elim));have g0:wr<=r1.heap.size:=k.2.size;have b7:=ae hV.2;have bW:=ae (X.aj hV.1);clear hV;refine aq ?_;refine aD rfl (λK hK=>?_) rfl;go_simp;refine(aZ _ (S.heap.size+1) A n c l 5 (aT.1.cZ (M:=λ_=>False) NC (λ_ _ h=>h)) ad ad).mono ?_;rintro e gW ⟨gS,rfl,bg,O,h,he⟩;obtain⟨j,rfl⟩:=M6 bg;have bi:j<5:=ad;have ai:Fr (λb=>b=S.heap.size+1) gV gW:=he.fr;have a1:=ah h (aT.2.trans ai);have gn:=ae (bW.on ai ad);have ci:=ae (b7.on ai ad);refine dB hK (he.fr) ?_;clear hK K;clear h he ai bg O
    iterate 2 refine tf ?_
    have aF:=And.intro a1.1 (And.intro a1.2 (And.intro ci.o (And.intro (show bq<=r1.heap.size by omega) bi)));revert aF;generalize wr.heap.size=a3;generalize r1.heap.size=dP;intro aF;exact key a3 dP j _ aF
  ·
   refine aD rfl (λK hK=>?_) rfl;go_simp;refine(aZ _ (S.heap.size+1) A n c l 5 (U.1.cZ (M:=λ_=>False) (NC.drew) (λ_ _ h=>h)) ad ad).mono ?_;rintro e cq ⟨gS,rfl,bg,O,h,he⟩;obtain⟨j,rfl⟩:=M6 bg;have bi:j<5:=ad;have ai:Fr (λb=>b=S.heap.size+1) wr cq:=Fr.aF he.fr;have g:=ah h (U.2.trans ai);refine dB hK (he.fr) ?_;clear hK K;clear h he ai bg O;refine tf ?_;refine a2 ?_ ?_
   ·
    refine ep ?_;refine bf (λV=>Ext cq V/\an V cq 5 #[.int .u8 bv]) ⟨NC.alloc _,ND⟩ (λbN hV=>?_);have aA:=ah (g.1.cZ hV.1 λ_ _ h=>h) (g.2.trans (hV.1.mono λ_ h=>h.elim));have g1:wr<=cq.heap.size:=g.2.size;have aJ:=ae hV.2;clear hV;obtain⟨e0,a6,ag⟩:=aJ.two;refine cB (v:=?_) rfl (by rfl) (λV hV=>?_) ?_;rotate_left
    .have b6:=eE V (cq.heap.size) bv ((hV.cell ag ad).trans (e0 0))
     (go_simp<;>with_reducible rfl)
    try simp only[PU]
    clear e0 a6 ag
    iterate 2 refine tf ?_
    refine aq ?_;refine ep ?_;refine bf (λV=>Ext bN V/\an V bN 109 #[NF,(0:Int)]) ⟨NC.alloc _,ND⟩ (λg8 hV=>?_);have a5:=ah (aA.1.cZ hV.1 λ_ _ h=>h) (aA.2.trans (hV.1.mono λ_ h=>h.elim));have g3:wr<=bN.heap.size:=aA.2.size;have cm:=ae hV.2;have gN:=ae (aJ.aj hV.1);clear hV;have aF:=And.intro a5.1 (And.intro a5.2 (And.intro cm.o (And.intro (show bq<=bN.heap.size by omega) bi)));revert aF;generalize cq.heap.size=a3;generalize bN.heap.size=dP;intro aF;exact key a3 dP j _ aF
   ·
    refine ep ?_;refine bf (λV=>Ext cq V/\an V cq 109 #[NF,(0:Int)]) ⟨NC.alloc _,ND⟩ (λbO hV=>?_);have aB:=ah (g.1.cZ hV.1 λ_ _ h=>h) (g.2.trans (hV.1.mono λ_ h=>h.elim));have g4:wr<=cq.heap.size:=g.2.size;have co:=ae hV.2;clear hV;refine aq ?_;refine ep ?_;refine bf (λV=>Ext bO V/\an V bO 5 #[.int .u8 bv]) ⟨NC.alloc _,ND⟩ (λg6 hV=>?_);have aj:=ah (aB.1.cZ hV.1 λ_ _ h=>h) (aB.2.trans (hV.1.mono λ_ h=>h.elim));have cQ:wr<=bO.heap.size:=aB.2.size;have bc:=ae hV.2;have bk:=ae (co.aj hV.1);clear hV;obtain⟨e0,a6,ag⟩:=bc.two;refine cB (v:=?_) rfl (by rfl) (λV hV=>?_) ?_;rotate_left
    .have b6:=eE V (bO.heap.size) bv ((hV.cell ag ad).trans (e0 0))
     (go_simp<;>with_reducible rfl)
    try simp only[PU]
    clear e0 a6 ag
    iterate 2 refine tf ?_
    have aF:=And.intro aj.1 (And.intro aj.2 (And.intro bk.o (And.intro (show bq<=cq.heap.size by omega) bi)));revert aF;generalize bO.heap.size=a3;generalize cq.heap.size=dP;intro aF;exact key a3 dP j _ aF
  ·
   refine ep ?_;refine bf (λV=>Ext wr V/\an V wr 109 #[NF,(0:Int)]) ⟨(NC.alloc _).drew,ND⟩ (λF hV=>?_);have d:=ah (U.1.cZ hV.1 λ_ _ h=>h) (U.2.trans (hV.1.mono λ_ h=>h.elim));have c0:wr<=wr.heap.size:=U.2.size;have aG:=ae hV.2;clear hV;refine a2 ?_ ?_
   ·
    refine ep ?_;refine bf (λV=>Ext F V/\an V F 5 #[.int .u8 bv]) ⟨NC.alloc _,ND⟩ (λeJ hV=>?_);have al:=ah (d.1.cZ hV.1 λ_ _ h=>h) (d.2.trans (hV.1.mono λ_ h=>h.elim));have c4:wr<=F.heap.size:=d.2.size;have ac:=ae hV.2;have bm:=ae (aG.aj hV.1);clear hV;obtain⟨e0,a6,ag⟩:=ac.two;refine cB (v:=?_) rfl (by rfl) (λV hV=>?_) ?_;rotate_left
    .have b6:=eE V (F.heap.size) bv ((hV.cell ag ad).trans (e0 0))
     (go_simp<;>with_reducible rfl)
    try simp only[PU]
    clear e0 a6 ag;refine tf ?_;refine aq ?_;refine aD rfl (λK hK=>?_) rfl;go_simp;refine(aZ _ (S.heap.size+1) A n c l 5 (al.1.cZ (M:=λ_=>False) NC (λ_ _ h=>h)) ad ad).mono ?_;rintro e fc ⟨gS,rfl,bg,O,h,he⟩;obtain⟨j,rfl⟩:=M6 bg;have bi:j<5:=ad;have ai:Fr (λb=>b=S.heap.size+1) eJ fc:=he.fr;have ao:=ah h (al.2.trans ai);have cG:=ae (ac.on ai ad);have bu:=ae (bm.on ai ad);refine dB hK (he.fr) ?_;clear hK K;clear h he ai bg O
    iterate 2 refine tf ?_
    have aF:=And.intro ao.1 (And.intro ao.2 (And.intro bu.o (And.intro (show bq<=wr.heap.size by omega) bi)));revert aF;generalize F.heap.size=a3;exact yw
   ·
    refine aD rfl (λK hK=>?_) rfl;go_simp;refine(aZ _ (S.heap.size+1) A n c l 5 (d.1.cZ (M:=λ_=>False) NC (λ_ _ h=>h)) ad ad).mono ?_;rintro e L ⟨gS,rfl,bg,O,h,he⟩;obtain⟨j,rfl⟩:=M6 bg;have bi:j<5:=ad;have ai:Fr (λb=>b=S.heap.size+1) F L:=he.fr;have E:=ah h (d.2.trans ai);have bG:=ae (aG.on ai ad);refine dB hK (he.fr) ?_;clear hK K;clear h he ai bg O;refine tf ?_;refine aq ?_;refine ep ?_;refine bf (λV=>Ext L V/\an V L 5 #[.int .u8 bv]) ⟨NC.alloc _,ND⟩ (λg7 hV=>?_);have ay:=ah (E.1.cZ hV.1 λ_ _ h=>h) (E.2.trans (hV.1.mono λ_ h=>h.elim));have ew:wr<=L.heap.size:=E.2.size;have bd:=ae hV.2;have bH:=ae (bG.aj hV.1);clear hV;obtain⟨e0,a6,ag⟩:=bd.two;refine cB (v:=?_) rfl (by rfl) (λV hV=>?_) ?_;rotate_left
    .have b6:=eE V (L.heap.size) bv ((hV.cell ag ad).trans (e0 0))
     (go_simp<;>with_reducible rfl)
    try simp only[PU]
    clear e0 a6 ag
    iterate 2 refine tf ?_
    have aF:=And.intro ay.1 (And.intro ay.2 (And.intro bH.o (And.intro (show bq<=wr.heap.size by omega) bi)));revert aF;generalize L.heap.size=a3;exact yw
 case zO=>
  exact CJ
 ):p:=h
end Ed
open Ed in
theorem Lx(S:World)(gT:Value)(s:∀K,(∀a ab,Code.wp prog (n9 19) (bodyPost prog Tryz.f34 (kA S)) a ab->K a ab)->GC S gT (bodyPost prog Tryz.f34 (kA S)) K)
  (K:Act->World->Prop) (hK:∀a ab,Code.wp prog (n9 13) (bodyPost prog Tryz.f34 (kA S)) a ab->K a ab):GB S gT (bodyPost prog Tryz.f34 (kA S)) K:=by
 unfold GB;intro A n c l ar MA mn mc M hs hu gL gQ o u8 gO eY T av bY aR aQ u16 bx bI eZ e3 e4 e5 e6 e7 e8 e9 fa fb fd fe ff u32 fh fi fj fl fm fo fp fr fs ft fu fv fw fx fy fz fA fB fD fE fF fG fH fI fJ fK fL fM fN fO fP u64 fR fS fT fU fV fW fX fY fZ f3 f4 f5 f6 f7 f8 f9 ga gb gd ge gf gg gh gi gj gk gl gm go gp gq gr gs gt gu H I am aK aM aS aX aY a4 bb bs bt bD bE bT bU b1 b9 ca cb ce cf cg ch cn cp ct cx cy cz cE cF cI cJ cK cM cN cR cS cT cV cW cX cY cZ c5 c6 c7 c8 c9 da db dc dd de df dg dh di dj dk dl dm dn dp dq dr ds dt du dv dw dx dy dA dC dD dE dF dG dH dI dJ dK dL dM dN dO dQ dR dT dU dV dW dZ d0 d1 d2 d3 d4 d5 d6 d7 d8 d9 ea eb ec ed ee ef eh ei ej ek el em en eo eq er es et eu ev ex ey ez eA eB eC eD eF eG eH eI eK eL eM eN eO eP eQ eR eS eT eU eV eW bQ cc gy gz gA gB gC gD gE gF gG gH gI gJ gK w dS bh;have a9:=ae (bh.Lx dS);have gX:=ae s;obtain⟨u,hb⟩:∃u,u=w.heap.size:=⟨_,rfl⟩
 rw[<-hb] at a9;clear bh s hb;conv=>arg 2;whnf
 conv at hK=>enter [a,w,1,2];whnf
 obtain⟨a0,ak,af⟩:=a9.blk.two;go_wp2_with(fail);refine(aZ w (S.heap.size+1) A n c l 3 a9.src ad ad).mono ?_;rintro e aO ⟨cw,rfl,a7,b2,h,he⟩;obtain⟨N,rfl⟩:=M6 a7;have hj:N<3:=ad;have gY:=ae (a9.next h he.fr);clear h he a0 ak af a9 a7 b2;go_wp2_with(fail);go_loopw [7,8] (λbJ b5 wr=>∃(i:Nat) (GA:NH) (gc:Nat) (G:List (ByteArray×Int)) (be:NH) (bC:Nat),b5=.int .i64 i/\bJ=.slice be i bC/\i<=N/\yg S u wr A n c l ar MA mn mc M GA i gc G be bC) (λ_ b5 _=>N - (intOf b5).toNat)
 case atStart=>exact⟨0,none,0,[],none,0,rfl,rfl,ad,gY.o⟩
 case round=>
  obtain⟨i,GA,gc,G,be,bC,rfl,rfl,aN,bh⟩:=hrel;clear gY;have ck:=ae bh;obtain⟨a0,ak,af⟩:=bh.blk.two;have cv:G.length=i:=by have:=bh.rows.one.len;simpa using this
  have hD:=bh.hD;clear bh;by_cases ap:i<N
  .have cU:(i:Int)<(N:Int):=ad;have fn:i<=1:=ad;have gR:¬S+1+1=S.heap.size+1:=ad;have bS:S+1+1<wr.heap.size:=ck.blk.lt;go_upto_region 17 with(fail);exact Bl
  .have cU:¬(i:Int)<(N:Int):=ad;go_upto_region 19 with(fail);have b8:=gX.o _ (by assumption);unfold GC at b8;exact b8 u A n c l ar MA mn mc M GA i gc G be bC wr ck.o
namespace Ef
theorem c4(h:p:=by
 try simp only[Nm]
 generalize hX:World.setCell _ _ _=X;have aP:=ae (hX▸bH.o);clear hX bH e0 e1 e2 aO f2 y t;go_wp2_with(fail);go_roundw
 case rel=>exact⟨i+1,a6,F.set i {f with body:=.eV ls},by go_num,ad,aP.o⟩
 case measure=>exact aH
 ):p:=h
end Ef
open Ef in
theorem Lz(S:World)(gT:Value)(bX aB:Act->World->Prop)(ac:∀a ab,Code.wp prog (n9 32) (Exit.then aB (bodyPost prog Tryz.f34 (kA S))) a ab->bX a ab)(az:∀a ab,Code.wp prog (IK 42) (bodyPost prog Tryz.f34 (kA S)) a ab->aB a ab) :
  GD S gT (Exit.then aB (bodyPost prog Tryz.f34 (kA S))) bX:=by
 unfold GD;intro u A n c l ar MA mn mc M GA gn gc G be bC FA fn fc F hs hu gL gQ u8 gO eY T av bY aR aQ u16 bx bI eZ e3 e4 e5 e6 e7 e8 e9 fa fb fd fe ff u32 fh fi fj fl fm fo fp fr fs ft fu fv fw fx fy fz fA fB fD fE fF fG fH fI fJ fK fL fM fN fO fP u64 fR fS fT fU fV fW fX fY fZ f3 f4 f5 f6 f7 f8 f9 ga gb gd ge gf gg gh gi gj gk gl gm go gp gq gr gs gt gu H I am aK aM aS aX aY a4 bb bs bt bD bE bT bU b1 b9 ca cb ce cf cg ch cn cp ct cx cy cz cE cF cI cJ cK cM cN cR cS cT cV cW cX cY cZ c5 c6 c7 c8 c9 da db dc dd de df dg dh di dj dk dl dm dn dp dq dr ds dt du dv dw dx dy dA dC dD dE dF dG dH dI dJ dK dL dM dN dO dQ dR dT dU dV dW dZ d0 d1 d2 d3 d4 d5 d6 d7 d8 d9 ea eb ec ed ee ef eh ei ej ek el em en eo eq er es et eu ev ex ey ez eA eB eC eD eF eG eH eI eK eL eM eN eO eP eQ eR eS eT eU eV eW bQ cc gy gz gA gB gC gD gE gF gG gH gI gJ gK w cm bh;obtain⟨fg,rfl,aL⟩:=bh.Lz cm;have a9:=ae aL;clear bh aL;conv=>arg 2;whnf
 conv at ac=>enter [a,w,1,2];whnf
 conv at az=>enter [a,w,1,2];whnf
 go_wp2_with(fail);go_loopw [16] (λb5 wr=>∃(i L:Nat) (F:List aI),b5=.int .i64 i/\i<=fn/\pq S u A n c l ar MA mn mc M GA gn gc G be bC fg fn fc wr F i L) (λb5 _=>fn - (intOf b5).toNat)
 case atStart=>exact⟨0,24,F,rfl,ad,a9.o⟩
 case round=>
  obtain⟨i,L,F,rfl,aN,bh⟩:=hrel;obtain⟨cD,rfl⟩:∃cD,cD=wr:=⟨wr,rfl⟩
  clear a9;have ck:=ae bh;obtain⟨a0,ak,af⟩:=bh.blk.two;have bw:=bh.hD;have bd:=bh.own;clear bh;by_cases ap:i<fn
  .have cU:(i:Int)<(fn:Int):=ad;have cl:(0:Int)<=(i:Int):=ad;obtain⟨f,QA,cq,qc,f0,bn,bc,J,eE,gS,cv,E⟩:=ck.KC ap;have bW:=ay J cv E;have s:f.params.length=cq:=by have:=cv.1;simpa using this
   clear J cv E;have W:=ae ck.len.2.2;have ag:Gr (λ_=>False) cD 9 1 (cD.alloc (.cells #[] 9)) (some ⟨cD,0,none⟩) 0 0 []:=Gr.lit (w:=cD) (n:=0) (l:=[]) rfl (by rfl) ad (by simp only[D.aQ]);have m:Ext cD (cD.alloc (.cells #[] 9)):=NC.alloc _;have aw:Src (cD.alloc (.cells #[] 9)) 1 be gn ((G.map (·.1)).map Value.string):=vY (ck.aj m).vs;have Q:be=none->gn=0:=λh=>by subst h;exact Sl.none_ ck.vs
   have b3:cD.heap.size<=(cD.alloc (.cells #[] 9)).heap.size:=by simp
   have gx:=ck.ng;have bk:=ck.nf.2;go_upto_region 36 with(at_builtin;go_loud (refine rz kQ rfl (.tmp 194) (.tmp 195) rfl ag (oi (G.map (·.1))) (by rw[M5,M5];exact W.o) aw Q rfl rfl ad ad b3 ?_);intro cu c3 b6 dP aa bP bo;have aD:=ah dP aa;clear dP aa bP bo);have bf:Ext cD b6:=m.eW (aD.2.below (by simp) λk aj h=>by
    simp[Value.ownBlock] at h;omega)
   have dP:=aD.1;simp only[Nm,Nu] at dP;have bN:=ah bf dP;clear bf dP aD ag m aw Q b3 a0 ak af
   try simp only[Nm]
   go_wp2_with(fail);go_loopw [17,18] (λU bj wr=>∃(j:Nat) (bL:NH) (on bF:Nat),U=.slice bL on bF/\bj=.int .i64 j/\j<=cq/\Ext cD wr/\Gr (λ_=>False) cD.heap.size 9 1 wr bL on bF ((G.map (·.1)++cH (f.params.take j)).map D.s)) (λ_ bj _=>cq - (intOf bj).toNat)
   case atStart=>exact⟨0,cu,gn,c3,rfl,rfl,ad,bN.1,by simpa[cH] using bN.2⟩
   case round=>
    obtain⟨j,bL,on,bF,rfl,rfl,bi,aF,hG⟩:=hrel;clear bN;have ai:on=(G.map (·.1)).length+(cH (f.params.take j)).length:=by have:=hG.len;simpa using this.symm
    have c2:on<=4:=by
     have cB:=tF (f.params.take j);have bG:=W.o;rw[List.length_take] at cB;rw[M5] at ai;omega
    have a3:=br (ck.aj aF) aF hG (bW.2.2.ak (aF.block fg bd.2 (λh=>h)));obtain⟨bg,a8⟩:=aJ s ai;have cw:=aF.size;clear aF hG s ai;obtain⟨a0,ak,af⟩:=a3.1.blk.two;obtain⟨e0,e1,e2⟩:=a3.2.2.2;by_cases cG:j<cq
    .have fq:(j:Int)<(cq:Int):=ad;have cO:(0:Int)<=(j:Int):=ad;obtain⟨pb,gR,q,cs,bK,bl,hm,ba,bu,hc⟩:=Sl.g1 (z:=2) (bW.2.1.ak λb O=>a3.2.1.block b O.2 (λh=>h)) (λ_=>rfl) cG;obtain rfl:=tY.1 ba;subst bK;have c0:=hc 0 _ rfl;have c1:=hc 1 _ rfl;simp only[Nd] at c0 c1;have dX:=ae hm;clear ba hc bu hm bl;obtain⟨q1,cL⟩:=q;simp only at c0 c1;have an:=rR dX.o
     cases cL with
     | true=>
      go_wp2_with(fail);go_roundw
      case rel=>exact⟨j+1,bL,on,bF,rfl,by go_num,ad,a3.2.1,by rw[an];simpa using a3.2.2.1⟩
      case measure=>exact aH
     | false=>
      have hd:(D.s q1).rep wr (lD (λ_=>False) wr (.slice bL on bF)) [q1]:=by simp only[D.rep]
      have dS:=ae hd;clear hd;go_wp2_with(at_builtin;refine bJ kQ rfl (.tmp 225) (.tmp 239) rfl a3.2.2.1 dS.o rfl rfl rfl ad ad cw ?_;intro aV gP b6 ao aA ci b8;have b7:=ah ao aA;clear ao aA ci b8);have bp:∀b,(Value.slice bL on bF).ownBlock=some b->cD.heap.size<=b:=λb O=>(a3.2.2.1.lt O).1;have a7:Ext cD b6:=a3.2.1.eW (b7.2.below cw λk aj h=>by have:=bp k h;omega);have aZ:=ae a7;clear bp a7;go_roundw
      case rel=>exact⟨j+1,aV,on+1,gP,rfl,by go_num,ad,aZ.o,by rw[an];simpa[Na,<-List.append_assoc] using b7.1⟩
      case measure=>exact aH
    .obtain rfl:j=cq:=ad;have dz:f.params.take j=f.params:=Nb (ax bg.o);have o:=a3.1.aj NC.drew;have y:=a3.2.2.2.ak (ab:=wr.drew) rfl;have N:=a3.2.2.1.aj NC.drew;rw[dz] at N;have t:=o.blk;have aC:=o.own;have cd:(G.map (·.1)++cH f.params).length+L<=60:=by
      have cB:=a8.o;rw[dz] at cB;have bG:=o.k0;rw[M3];omega
     have Z:=o.lY.free (f:=f) (M4 bW.1);have a2:=o.k0;have dS:=br o N cd Z;clear o N cd Z dz;go_upto_region 41 with(fail);clear e0 e1 e2 a0 ak af;refine ld (RW (S.heap.size+1) (.pointer (some ⟨S.heap.size+1,0,none⟩)) (.slice GA gn gc) (.slice MA mn mc) (.slice (some ⟨fg,0,none⟩) fn fc) ar) [(0,3),(1,3),(2,3),(3,3),(4,0),(5,3),(6,3),(7,3),(8,3),(9,3),(10,3),(11,0),(12,3),(13,3),(14,0),(15,3),(16,1),(17,3),(18,3),(19,2)] (by kernel_rfl) (by kernel_rfl) (λw=>RW.refl w) (λ_ _ _ h k=>h.trans k) (λ_ _ d _ _ h=>by cases d<;>exact h) ?_
     iterate 4 refine pf ?_
     refine bS (v:=?_) rfl (by rfl) (λV hV=>?_) ?_;rotate_left
     .obtain⟨bv,b4⟩:=hV.wb _ t;obtain⟨hVc,hVf,cd⟩:=b4.two
      (go_simp<;>with_reducible rfl)
     try simp only[PU]
     iterate 6 refine pf ?_
     refine bS (v:=?_) rfl (by rfl) (λV hV=>?_) ?_;rotate_left
     .obtain⟨bv,b4⟩:=hV.wb _ t;obtain⟨hVc,hVf,cd⟩:=b4.two
      (go_simp<;>with_reducible rfl)
     try simp only[PU]
     iterate 2 refine pf ?_
     refine bS (v:=?_) rfl (by rfl) (λV hV=>?_) ?_;rotate_left
     .obtain⟨e0,e1,e2⟩:=y.ak (hV.fr.block fg aC.2 ad)
      (go_simp<;>with_reducible rfl)
     try simp only[PU]
     refine pf ?_;refine aE rfl (λK hK=>?_);go_simp;refine(Gj ⟨S.heap.size+1,S.heap.size+1+1,A,n,c,l,GA,gn,gc,MA,mn,mc,some ⟨fg,0,none⟩,fn,fc,M,F,ar⟩ L (G.map (·.1)++cH f.params) (bm ⟨G,M,F⟩++f.params.map (·.1)) bL on bF f.name f.params QA j qc (.slice f0 bn bc) wr.drew dS.1.wr (dS.2.1.sl (λb _ h=>h.elim) (λb O aT=>⟨O,λhm=>by rcases hm with hm|hm<;>(simp only at hm;omega)⟩)) dS.2.2.1 (λk aj=>dS.2.2.2 k ad) ((bW.2.1.ak λb O=>(a3.2.1.trans NC.drew).block b O.2 (λh=>h)).mono λb O=>⟨by have:=O.2;have:=cw;show b<wr.heap.size;omega,λhm=>by have:=O.1;rcases hm with hm|hm<;>(simp only at hm;omega)⟩) eE).mono ?_;rintro e aW ⟨ls,a6,b0,bZ,bR,rfl,bV,b8,bO,P,aq⟩;have g:¬(fg=S.heap.size+1\/fg=S.heap.size+1+1):=ad;have al:=g;obtain⟨cur,r⟩:=dS.1.fs.Lc;have aO:=(r.on aq g).frozen;have f2:=(r.on aq g).lt;obtain⟨e0,e1,e2⟩:=y.ak (aq.block fg aC.2 g);have bH:=ae (dS.1.body bW.1 P aq bV b8 bO);refine dB hK (⟨aq,λ_ _=>⟨a6,P.blk⟩⟩) ?_;clear hK K;clear bV b8 bO P aq r g al
     iterate 2 refine pf ?_
     exact ew
  .have cU:¬(i:Int)<(fn:Int):=ad;have R:i=fn:=ad;have aU:=ae R;clear R;have fk:=ck.res;obtain⟨bq,a1,a5⟩:=fk.two;clear fk;go_wp2_with(fail);generalize co:World.setCell _ _ _=Y;have bh:=ck.o;rw[aU.o] at bh;obtain⟨bM,bA,bz⟩:=eg (M:=λ_=>False) [.slice GA gn gc,.slice MA mn mc,.slice (some ⟨fg,0,none⟩) fn fc] (by rfl) bh.res (w:=S) bh.ext (MU _) co;have bB:=ae (bh.LD bz);clear bq a1 a5 co bh bz a0 ak af;obtain⟨bq,a1,a5⟩:=bM.two;refine NB (v:=.agg #[.slice GA gn gc,.slice MA mn mc,.slice (some ⟨fg,0,none⟩) fn fc]) (by simp[results,Tryz.results34,go_sem,bq]) rfl ?_;exact bB.o
theorem FF(A:NH)(n c:Nat)(l:List Int)(w:World)(h:cp (EF bQ) 1 w w.heap.size A n l)(hc:n<=c):Calls prog 34 #[.slice A n c] w (kA w):=
 Mm A n c l w h hc λK hK=>Lx w (.slice A n c) (λbX a=>Ly w (.slice A n c) _ (λ_ _ d _ _ h=>by cases d<;>exact h) (λaB aV ac az=>Lz w (.slice A n c) aB aV ac az) bX a) K hK
def Km(w:World)(e:Ending)(ab:World):Prop:=∃(u:aw) (bs am dk ar b4 o:NH) (hr da cW bH aD cJ d0 d1 d2 d3 d4 d5:Nat) (GA:NH) (gn gc:Nat) (MA:NH) (mn mc:Nat) (PA:NH) (pn pc:Nat),e=.returned (.tuple #[.agg #[.slice bs hr d0,.slice am da d1,.slice dk cW d2],.agg #[.slice GA gn gc,.slice MA mn mc,.slice PA pn pc,.int .i64 u.main],.agg #[.slice ar bH d3,.slice b4 aD d4,.slice o cJ d5]])/\yj u/\gn<=gc/\mn<=mc/\pn<=pc/\(uR u).rep ab (fresh w ab) [.slice GA gn gc,.slice MA mn mc,.slice PA pn pc,.int .i64 u.main]/\Ext w ab
namespace Ei
theorem c4(h:p:=by
 go_wp2_with(fail);generalize ag:World.setCell _ _ _=hP;obtain⟨aj,cu,z⟩:=eg (M:=λ_=>False) (w:=w) [.slice eI n0 c0,.slice cR n1 c1,.slice A2 n2 c2] (by rfl) g Q.1 ad ag;have bt:=Q.2.2.1.on z ad;have aC:=Q.2.2.2.on z ad;have a4:Fr (λb=>b<w.heap.size+3) Z hP:=Q.2.1.trans (z.mono λb O=>ad);have bj:=ah cu a4;clear ag cu z g a4 Q bq a1 a5;obtain⟨bq,a1,a5⟩:=bt.two;obtain⟨F,a6,ba⟩:=aC.two;obtain⟨t0,aw,aA⟩:=aj.two;refine NB (v:=.tuple #[.agg #[.slice GA gn gc,.slice MA mn mc,.slice FA fn fc],.agg #[.slice m bJ b7,.slice r eq di,.slice o u I,.int .i64 (gQ p).main],.agg #[.slice eI n0 c0,.slice cR n1 c1,.slice A2 n2 c2]]) (by simp[results,Tryz.results14,go_sem,bq,F,t0]) rfl ?_;refine⟨gQ p,?_⟩
 iterate 18 apply Exists.intro
 refine⟨m,bJ,b7,r,eq,di,o,u,I,rfl,⟨aD.o,tL p⟩,?_,?_,?_,?_,bj.1.drew⟩
 iterate 3
  .obtain⟨_,_,_,_,_,_,_,_,_,he,ac,az,aV,_⟩:=mr P.1;injection he with e1 he;injection he with e2 he;injection he with e3 he;injection e1 with _ ea eb;injection e2 with _ ec ed;injection e3 with _ dZ s;omega
 have U:=bj.2.size;have bv:(uR (gQ p)).rep hP.drew (fresh X aW) [.slice m bJ b7,.slice r eq di,.slice o u I,.int .i64 (gQ p).main]:=D.aO (λb O=>bj.2.drew.block b (ax O.2) (ax O.1)) _ _ P.1;exact D.aM (λb O=>⟨by have:=O.1;omega,by have:=O.2;show b<hP.heap.size;omega⟩) _ _ bv
 ):p:=h
end Ei
open Ei in
theorem Gh(A:NH)(n c:Nat)(l:List Int)(w:World)(h:cp (EF bQ) 1 w w.heap.size A n l)(hc:n<=c):Calls prog 14 #[.slice A n c] w (Km w):=by
 have H:=ae h;clear h;go_enter func14,ntmps14;go_upto_region 1 with(fail);generalize be:World.alloc _ _=W;have aF:=l9 be;have bG:=kB be;have b0:=iL be;have bX:=I3 be;have cZ:W=w.heap.size+3:=by rw[<-be];simp
 have y:=H.cD (Fr.ext aF) aF.size;have al:=br aF bG b0 bX;have bT:=ae y;clear be aF bG b0 bX y H;go_wp2_with(fail);refine(FF A n c l W bT.o hc).mono ?_;rintro e aO ⟨p,GA,gn,gc,MA,mn,mc,FA,fn,fc,rfl,aN,am,bR,G,aR,hm,J,aM⟩;have H1:=cQ aN aR hm J aM;have cn:=aM.size;clear aN aR hm J aM bT;go_upto_region 2 with(fail);generalize hX:World.alloc _ _=X;have bh:=aL hX;have bV:=aX hX;have f2:=bV.size;have ap:=bh.lt;obtain⟨d0,aQ,aS⟩:=bh.two;have f:gX X (av X) p GA gn MA mn FA fn:=⟨(Sl.ak H1.2.1 λb O=>bV.block b O.2 (λh=>h)).mono λb O=>M0 O.2 f2,(Sl.ak H1.2.2.1 λb O=>bV.block b O.2 (λh=>h)).mono λb O=>M0 O.2 f2,(Sl.ak H1.2.2.2.1 λb O=>bV.block b O.2 (λh=>h)).mono λb O=>M0 O.2 f2⟩
 have dz:=ay f bh (H1.2.2.2.2.trans bV);clear hX bh bV f;go_wp2_with(fail);refine(xm p H1.1 GA gn gc MA mn mc FA fn fc X dz.1).mono ?_;rintro e aW ⟨m,bJ,b7,r,eq,di,o,u,I,rfl,bD,a7⟩;have bO:=a7.size;have S:=dz.2.1.aj a7;have b1:=ay bD S (dz.2.2.trans a7);clear bD a7 S d0 aQ aS;go_upto_region 3 with(fail);generalize co:World.alloc _ _=Y;have cy:=aL co;have T:=aX co;have aZ:=T.size;have ar:=cy.lt;obtain⟨d0,aQ,aS⟩:=cy.two;have bD:(uR (gQ p)).rep Y (fresh X aW) [.slice m bJ b7,.slice r eq di,.slice o u I,.int .i64 (gQ p).main]:=D.aO (λb O=>T.block b O.2 (λh=>h)) _ _ b1.1;have ai:h3 Y (av Y) (gQ p) m bJ r eq o u:=by
  obtain⟨_,_,_,_,_,_,_,_,_,he,_,_,_,hu⟩:=mr (D.aM (cU:=av Y) (λb O=>M0 O.2 aZ) _ _ bD);injection he with ac he;injection he with az he;injection he with aV he;injection ac with bg O hc;injection az with i bn b8;injection aV with N cd bo;subst bg O i bn N cd;exact hu
 have ak:=cQ bD ai cy (b1.2.1.aj T) (b1.2.2.trans T);have aD:=ae (tK H1.1);clear co cy T bD ai b1;go_wp2_with(fail);refine(zu (gQ p) aD.o m bJ b7 r eq di o u I Y ak.2.1).mono ?_;rintro e b6 ⟨eI,n0,c0,cR,n1,c1,A2,n2,c2,k,rfl,bf⟩;have cI:=bf.size;have bN:=br (D.aO (λb O=>bf.block b (M0 O.2 aZ) (λh=>h)) _ _ ak.1) (ak.2.2.1.aj bf) (ak.2.2.2.1.aj bf) (ak.2.2.2.2.trans bf);clear bf d0 aQ aS ak;go_upto_region 4 with(fail);generalize cA:World.alloc _ _=Z;have bk:=aL cA;have L:=aX cA;have f1:=L.size;have f1:=L.size;have bD:=D.aO (λb O=>L.block b (M0 O.2 (Nl aZ cI)) (λh=>h)) _ _ bN.1;have cy:=bN.2.1.aj L;have bh:=bN.2.2.1.aj L;have R:Ext W Z:=bN.2.2.2.trans L;have aa:=al.2.1.aj R;have cE:=al.2.2.1.aj R;have g:=al.2.2.2.aj R;have P:=ah bD (al.1.trans R);have bL:=ay bh cy bk;have a3:=ah cE g;obtain⟨bq,a1,a5⟩:=aa.two;have ao:=bk.lt;clear cA L bD bN R cE g bh cy bk;refine eJ (λb=>b<w.heap.size+3) [(0,0),(1,0),(2,0),(3,1),(4,1),(5,2)] ?_;refine bS (v:=?_) rfl (by rfl) (λV hV=>?_) ?_;rotate_left
 .obtain⟨d0,aQ,aS⟩:=(bL.1.on (Fr.aF hV) ad).two
  (go_simp<;>with_reducible rfl)
 try simp only[PU]
 refine bS (v:=?_) rfl (by rfl) (λV hV=>?_) ?_;rotate_left
 .obtain⟨d0,aQ,aS⟩:=(bL.2.1.on (Fr.aF hV) ad).two
  (go_simp<;>with_reducible rfl)
 try simp only[PU]
 refine bS (v:=?_) rfl (by rfl) (λV hV=>?_) ?_;rotate_left
 .obtain⟨d0,aQ,aS⟩:=(bL.2.2.on (Fr.aF hV) ad).two
  (go_simp<;>with_reducible rfl)
 try simp only[PU]
 refine aE rfl (λK hK=>?_);go_simp;refine dB hK (((NC.setCell (.inl (by show w.heap.size<w.heap.size+3;omega)) _).setCell (.inl (by show w.heap.size<w.heap.size+3;omega)) _).setCell (.inl (by show w.heap.size<w.heap.size+3;omega)) _) ?_;clear hK K;generalize ab:World.setCell _ _ _=db;obtain⟨bt,a7,aq⟩:=eg (M:=λ_=>False) (w:=w) [.slice GA gn gc,.slice MA mn mc,.slice FA fn fc] (by rfl) aa P.2 (MU _) ab;have cE:=a3.1.on aq ad;have g:=a3.2.on aq ad;have j:=br a7 (Fr.mono (M':=λb=>b<w.heap.size+3) aq λb O=>ad) bt g;clear ab a7 aq bt g aa bq a1 a5;obtain⟨bq,a1,a5⟩:=cE.two;refine aE rfl (λK hK=>?_);go_simp;refine dB hK (((NC.setCell (.inl (by show w.heap.size+1<w.heap.size+3;omega)) _).setCell (.inl (by show w.heap.size+1<w.heap.size+3;omega)) _).setCell (.inl (by show w.heap.size+1<w.heap.size+3;omega)) _ |>.setCell (.inl (by show w.heap.size+1<w.heap.size+3;omega)) _) ?_;clear hK K;generalize af:World.setCell _ _ _=ha;obtain⟨aC,bf,a2⟩:=eg (M:=λ_=>False) (w:=w) [.slice m bJ b7,.slice r eq di,.slice o u I,.int .i64 (gQ p).main] (by rfl) cE j.1 ad af;have g:=j.2.2.2.on a2 ad;have Q:=br bf (j.2.1.trans (a2.mono λb O=>ad)) (j.2.2.1.on a2 ad) aC;clear af bf a2 aC cE j bq a1 a5;obtain⟨bq,a1,a5⟩:=g.two;exact ew
end Go.Proofs.YtnigabjngpnbiabGreat

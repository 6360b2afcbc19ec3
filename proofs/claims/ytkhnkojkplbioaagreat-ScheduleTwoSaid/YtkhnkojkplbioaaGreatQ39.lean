/- Part 39 of the proof. No condition of its own. -/
import Derived.Test.YtkhnkojkplbioaaGreatQ38
namespace Go.Proofs.YtkhnkojkplbioaaGreat
open Go.RowKit Go.Proofs.Tryz
set_option maxRecDepth 1000000
set_option maxHeartbeats 25600000
set_option linter.unusedVariables false
variable{bv:Int}{ps:List (ByteArray×Bool)}{i:Nat}{p:Prop}
namespace Di
theorem eU(h:p:=by
 refine b9 ?_;generalize bF:World.setCell _ _ _=Y;have hf:wr.heap.size<=az:=ad;obtain⟨bK,bt,bR⟩:=dY (M:=λb=>b=S.heap.size+1) [.string (⟨#[103]⟩++strOf [byteOf bv]),.int .i64 (IntKind.i64.wrap ((j:Int) - 2))] (by rfl) bC ai hf bF;obtain⟨ak,bX⟩:∃ak:Int,ak=IntKind.i64.wrap ((j:Int) - 2):=⟨_,rfl⟩
 rw[<-bX] at bK;rw[IntWalk.i64_in _ ad] at bX;rw[En ad aG.o] at bK;have c0:=cq.next (ay.cS bR λb O h=>ad) bt;have bk:-2<=ak/\ak<=2:=ad;have bu:=ag c0 bK;have aJ:=ae bk;clear bF bK bt bR c0 bX bk ay ai bC bx a5 aT bi;obtain⟨a0,aj,af⟩:=bu.1.blk.two;obtain⟨bx,a5,aT⟩:=bu.2.two;have o:∀b,(Value.slice GA i gc).ownBlock=some b->u<=b/\b<wr.heap.size:=λb O=>cq.rows.one.lt O;have aQ:∀b,(Value.slice av i aX).ownBlock=some b->u<=b/\b<wr.heap.size:=λb O=>cq.rows.two.lt O;have bd:¬(Value.slice GA i gc).ownBlock=some (S.heap.size+1+1):=λh=>by have:=(o _ h).1;omega
 have bH:¬(Value.slice GA i gc).ownBlock=some az:=λh=>by have:=(o _ h).2;omega
 have g7:u<=Y.heap.size:=bu.1.hD.2;have bn:wr.heap.size<=Y.heap.size:=by have:=bu.2.lt;omega
 have bq:=ag o aQ;clear o aQ;go_upto_region 18 with(fail);refine rC (λb=>(Value.slice GA i gc).ownBlock=some b) [13,17] (.free 0 (.free 1 (.free 2 (.free 3 (.free 4 (.held 5 (.held 6 (.free 9 (.free 10 (.held 11 (.pick [7,12] (λi=>bif i == 7 then .pick [8,12] (λi=>bif i == 8 then .pick [12] (λ_=>.pick [13] (λ_=>.free 14 (.free 15 (.free 16 (.pick [17] (λ_=>.free 18 (.stop))))))) else .pick [8] (λ_=>.pick [13] (λ_=>.free 14 (.free 15 (.free 16 (.pick [17] (λ_=>.free 18 (.stop)))))))) else .pick [7] (λ_=>.pick [8] (λ_=>.pick [13] (λ_=>.free 14 (.free 15 (.free 16 (.pick [17] (λ_=>.free 18 (.stop)))))))))))))))))))) ?_
 iterate 5 refine tf ?_
 iterate 2 refine nh ?_
 iterate 2 refine tf ?_
 refine nh ?_;clear a0 aj af bx a5 aT;refine iQ (P:=?K4) (ops:=?La) (Q:=?Le) (R:=?Lg) (tails:=?Li) (rest:=.pick [13] (λ_=>.free 14 (.free 15 (.free 16 (.pick [17] (λ_=>.free 18 (.stop))))))) (aa:=?K9)
  (C:=λ(_:Nat) dv A2 bS V=>True/\∃q1 cN,Ext Y q1/\Gr (λb=>u<=b/\(Value.slice av i aX).ownBlock≠some b) u 153 2 cN A2 (i+1) bS (G.map iD++[iD (dR i,ak)])/\Fr (λb=>(Value.slice GA i gc).ownBlock=some b) q1 cN/\dt q1 GA i gc A2 (i+1) bS/\Ext cN V/\aq V dv 9 #[.string (dR i)]) (λkey=>?KN) ?KM
 case KN=>
  refine a2 ?_ ?_
  ·
   refine dT ?_;generalize hV:World.drew (World.alloc _ _)=e6;have e1:=gK hV;have dL:aq e6 Y.heap.size 153 #[.string (dR i),.int .i64 ak]:=hV▸LX;clear hV;refine a2 ?_ ?_
   ·
    refine aB rfl (λK hK=>?_) rfl;rw[if_pos (by rfl)];refine fa v8 (.tmp 108) (.tmp 110) (by rfl) (bu.1.rows.aj e1).one dL (tB.2 rfl:(iD (dR i,ak)).rep e6 _ _) (by rfl) (by rfl) (by rfl) ad ad (aD e1.size) ?_;intro A2 bS aU cb f1 o1 c1;refine dq hK (f1) ?_;clear hK K;refine ao ?_;refine dT ?_;have ah:True/\∃q1 cN,Ext Y q1/\Gr (λb=>u<=b/\(Value.slice av i aX).ownBlock≠some b) u 153 2 cN A2 (i+1) bS (G.map iD++[iD (dR i,ak)])/\Fr (λb=>(Value.slice GA i gc).ownBlock=some b) q1 cN/\dt q1 GA i gc A2 (i+1) bS/\Ext cN (aU.alloc (.cells #[.string (dR i)] 9))/\aq (aU.alloc (.cells #[.string (dR i)] 9)) aU.heap.size 9 #[.string (dR i)]:=⟨trivial,e6,aU,e1,cb,f1,o1,LW.alloc _,LX⟩
    clear cb o1;revert ah;generalize aU.heap.size=dv;generalize Y.heap.size=eQ;intro ah;exact key eQ dv A2 bS _ ah
   ·
    refine dT ?_;generalize hV:World.alloc _ _=Z;have bG:aq Z e6.heap.size 9 #[.string (dR i)]:=hV▸LX;have aY:=by have:=dL.alloc (.cells #[.string (dR i)] 9);rw[hV] at this;exact this
    have e2:Ext Y Z:=hV▸e1.alloc _;clear hV dL;refine ao ?_;refine aB rfl (λK hK=>?_) rfl;rw[if_pos (by rfl)];refine fa v8 (.tmp 108) (.tmp 110) (by rfl) (bu.1.rows.aj e2).one aY (tB.2 rfl:(iD (dR i,ak)).rep Z _ _) (by rfl) (by rfl) (by rfl) ad ad (aD e2.size) ?_;intro A2 bS aU cb f1 o1 c1;refine dq hK (f1) ?_;clear hK K;have bf:¬(Value.slice GA i gc).ownBlock=some e6.heap.size:=λO=>by have:=(bq.1 _ O).2;have:=e1.size;omega
    have ah:True/\∃q1 cN,Ext Y q1/\Gr (λb=>u<=b/\(Value.slice av i aX).ownBlock≠some b) u 153 2 cN A2 (i+1) bS (G.map iD++[iD (dR i,ak)])/\Fr (λb=>(Value.slice GA i gc).ownBlock=some b) q1 cN/\dt q1 GA i gc A2 (i+1) bS/\Ext cN aU/\aq aU e6.heap.size 9 #[.string (dR i)]:=⟨trivial,Z,aU,e2,cb,f1,o1,LW,bG.on f1 bf⟩
    clear cb o1;revert ah;generalize e6.heap.size=dv;generalize Y.heap.size=eQ;intro ah;exact key eQ dv A2 bS _ ah
  ·
   refine dT ?_;generalize hV:World.drew (World.alloc _ _)=e6;have bG:aq e6 Y.heap.size 9 #[.string (dR i)]:=hV▸LX;have e1:=gK hV;clear hV;refine ao ?_;refine dT ?_;generalize hV:World.alloc _ _=Z;have e2:Ext Y Z:=hV▸e1.alloc _;have dL:=aI hV;have a4:aq Z Y.heap.size 9 #[.string (dR i)]:=hV▸bG.alloc _;clear hV;refine ao ?_;refine aB rfl (λK hK=>?_) rfl;rw[if_pos (by rfl)];refine fa v8 (.tmp 108) (.tmp 110) (by rfl) (bu.1.rows.aj e2).one dL (tB.2 rfl:(iD (dR i,ak)).rep Z _ _) (by rfl) (by rfl) (by rfl) ad ad (aD e2.size) ?_;intro A2 bS aU cb f1 o1 c1;refine dq hK (f1) ?_;clear hK K;have bf:¬(Value.slice GA i gc).ownBlock=some Y.heap.size:=λO=>by have:=(bq.1 _ O).2;omega
   have ah:True/\∃q1 cN,Ext Y q1/\Gr (λb=>u<=b/\(Value.slice av i aX).ownBlock≠some b) u 153 2 cN A2 (i+1) bS (G.map iD++[iD (dR i,ak)])/\Fr (λb=>(Value.slice GA i gc).ownBlock=some b) q1 cN/\dt q1 GA i gc A2 (i+1) bS/\Ext cN aU/\aq aU Y.heap.size 9 #[.string (dR i)]:=⟨trivial,Z,aU,e2,cb,f1,o1,LW,a4.on f1 bf⟩
   clear cb o1;revert ah;generalize Y.heap.size=dv;generalize e6.heap.size=eQ;intro ah;exact key eQ dv A2 bS _ ah
 case KM=>
  rintro eQ dv A2 bS V ⟨_,aS,aU,e1,cb,f1,o1,e2,bG⟩;have s1:=e1.size;have s2:=f1.size;have T:=e2.size;obtain⟨o,aQ⟩:=bq.o;have L:=((bu.1.rows.aj e1).grow cb f1 o1).aj e2;have b7:aq V (S.heap.size+1+1) _ _:=((bu.1.blk.aj e1).on f1 bd).aj e2;have eT:¬(Value.slice av i aX).ownBlock=some (S.heap.size+1+1):=λh=>by have:=(aQ _ h).1;omega
  refine ao ?_;refine bQ rfl (λK hK=>?_) rfl;rw[if_pos (by rfl)];refine fa ky (.tmp 112) (.tmp 115) (by rfl) L.two bG (vf.2 rfl:(D.s (dR i)).rep V _ _) (by rfl) (by rfl) (by rfl) ad ad ad ?_;intro cR dO cK g2 f2 fg c2;have m:=(L.swap.grow g2 f2 fg).swap;have b4:=b7.on f2 eT;have J:Fr (λb=>(Value.slice GA i gc).ownBlock=some b\/(Value.slice av i aX).ownBlock=some b) Y cK:=((((e1.mono λ_ h=>h.elim).trans (f1.mono λ_ h=>.inl h)).trans (e2.mono λ_ h=>h.elim)).trans (f2.mono λ_ h=>.inr h))
  have r:=ag m J;clear cb f1 o1 e1 e2 bG L b7 g2 f2 fg c2 m J;obtain⟨a0,aj,af⟩:=b4.two;clear b4;refine dP hK ?_;clear hK K
  iterate 3 refine tf ?_
  refine ao ?_;refine bQ rfl (λK hK=>?_) rfl;go_simp;refine dP hK ?_;clear hK K;refine tf ?_;refine b9 ?_;generalize hX:World.setCell _ _ _=gR;have dE:lz u 153 2 9 1 cK A2 (i+1) bS ((G++[(dR i,ak)]).map iD) cR (i+1) dO (((G++[(dR i,ak)]).map (·.1)).map D.s):=by
   simp only[Lr,Lq,LK];exact r.1
  have f:=bu.1.add dE r.2 ad (cq.zt.snoc ci aJ.1 aJ.2);rw[hX] at f;have bN:=ae f;clear hX f dE a0 aj af;go_wp2_with(fail);go_roundw
  case rel=>exact⟨i+1,A2,bS,G++[(dR i,ak)],cR,dO,by go_num,rfl,ad,bN.o⟩
  case measure=>exact aH
 ):p:=h
theorem Ay(h:p:=by
 generalize hc:IntKind.u8.wrap (IntKind.i64.wrap (48+(i:Int)))=bv;obtain⟨bY,hP⟩:∃bY,bY=wr.heap.size:=⟨_,rfl⟩
 have aG:=ae hc;clear hc;have hq:(strOf [byteOf bv]).size=1:=aO _;have U:=ag cq.src (Fr.refl (λb=>b=S.heap.size+1) wr);refine g0 (P:=?oU) (ops:=?Ie) (Q:=?Ih) (R:=?Ij) (tails:=?Iu) (rest:=.pick [14] (λ_=>.stop)) (aa:=?HP)
  (C:=λ(a3 az j:Nat) bD=>cn bD (S.heap.size+1) A n c l/\Fr (λb=>b=S.heap.size+1) wr bD/\aq bD az 153 #[.string ⟨#[]⟩,.int .i64 0]/\bY<=az/\j<5) (λkey=>?wP) ?wI
 case wP=>
  refine q3 ?_ ?_ ?_
  ·
   refine dT ?_;refine bB (λV=>Ext wr V/\aq V wr.heap.size 5 #[.int .u8 bv]) ⟨(LW.alloc _).drew,LX⟩ (λr1 hV=>?_);have k:=ag (U.1.cS hV.1 λ_ _ h=>h) (U.2.trans (hV.1.mono λ_ h=>h.elim));have gZ:wr.heap.size<=wr.heap.size:=U.2.size;have X:=ae hV.2;clear hV;obtain⟨e0,a6,aP⟩:=X.two;refine cz (v:=?_) rfl (by rfl) (λV hV=>?_) ?_;rotate_left
   .have b6:=fy V (wr.heap.size) bv ((hV.cell aP ad).trans (e0 0))
    (go_simp<;>with_reducible rfl)
   try simp only[PU]
   clear e0 a6 aP;refine tf ?_;refine a2 ?_ ?_
   ·
    refine aB rfl (λK hK=>?_) rfl;go_simp;refine(a9 _ (S.heap.size+1) A n c l 5 (k.1.cS (M:=λ_=>False) LW (λ_ _ h=>h)) ad ad).mono ?_;rintro e gM ⟨bZ,rfl,bz,O,h,he⟩;obtain⟨j,rfl⟩:=Lp bz;have bi:j<5:=ad;have ai:Fr (λb=>b=S.heap.size+1) r1 gM:=he.fr;have aA:=ag h (k.2.trans ai);have cg:=ae (X.on ai ad);refine dq hK (he.fr) ?_;clear hK K;clear h he ai bz O
    iterate 2 refine tf ?_
    refine ao ?_;refine dT ?_;refine bB (λV=>Ext gM V/\aq V gM.heap.size 153 #[.string ⟨#[]⟩,.int .i64 0]) ⟨LW.alloc _,LX⟩ (λgO hV=>?_);have a8:=ag (aA.1.cS hV.1 λ_ _ h=>h) (aA.2.trans (hV.1.mono λ_ h=>h.elim));have g1:wr.heap.size<=gM.heap.size:=aA.2.size;have cu:=ae hV.2;have gU:=ae (cg.aj hV.1);clear hV;have ah:=And.intro a8.1 (And.intro a8.2 (And.intro cu.o (And.intro (show bY<=gM.heap.size by omega) bi)));revert ah;generalize wr.heap.size=a3;generalize gM.heap.size=az;intro ah;exact key a3 az j _ ah
   ·
    refine dT ?_;refine bB (λV=>Ext r1 V/\aq V r1.heap.size 153 #[.string ⟨#[]⟩,.int .i64 0]) ⟨LW.alloc _,LX⟩ (λf0 hV=>?_);have ba:=ag (k.1.cS hV.1 λ_ _ h=>h) (k.2.trans (hV.1.mono λ_ h=>h.elim));have g3:wr.heap.size<=r1.heap.size:=k.2.size;have cw:=ae hV.2;have cl:=ae (X.aj hV.1);clear hV;refine ao ?_;refine aB rfl (λK hK=>?_) rfl;go_simp;refine(a9 _ (S.heap.size+1) A n c l 5 (ba.1.cS (M:=λ_=>False) LW (λ_ _ h=>h)) ad ad).mono ?_;rintro e gT ⟨bZ,rfl,bz,O,h,he⟩;obtain⟨j,rfl⟩:=Lp bz;have bi:j<5:=ad;have ai:Fr (λb=>b=S.heap.size+1) f0 gT:=he.fr;have bc:=ag h (ba.2.trans ai);have gV:=ae (cl.on ai ad);have cE:=ae (cw.on ai ad);refine dq hK (he.fr) ?_;clear hK K;clear h he ai bz O
    iterate 2 refine tf ?_
    have ah:=And.intro bc.1 (And.intro bc.2 (And.intro cE.o (And.intro (show bY<=r1.heap.size by omega) bi)));revert ah;generalize wr.heap.size=a3;generalize r1.heap.size=az;intro ah;exact key a3 az j _ ah
  ·
   refine aB rfl (λK hK=>?_) rfl;go_simp;refine(a9 _ (S.heap.size+1) A n c l 5 (U.1.cS (M:=λ_=>False) (LW.drew) (λ_ _ h=>h)) ad ad).mono ?_;rintro e co ⟨bZ,rfl,bz,O,h,he⟩;obtain⟨j,rfl⟩:=Lp bz;have bi:j<5:=ad;have ai:Fr (λb=>b=S.heap.size+1) wr co:=Fr.aF he.fr;have g:=ag h (U.2.trans ai);refine dq hK (he.fr) ?_;clear hK K;clear h he ai bz O;refine tf ?_;refine a2 ?_ ?_
   ·
    refine dT ?_;refine bB (λV=>Ext co V/\aq V co.heap.size 5 #[.int .u8 bv]) ⟨LW.alloc _,LX⟩ (λb0 hV=>?_);have aC:=ag (g.1.cS hV.1 λ_ _ h=>h) (g.2.trans (hV.1.mono λ_ h=>h.elim));have g4:wr.heap.size<=co.heap.size:=g.2.size;have aR:=ae hV.2;clear hV;obtain⟨e0,a6,aP⟩:=aR.two;refine cz (v:=?_) rfl (by rfl) (λV hV=>?_) ?_;rotate_left
    .have b6:=fy V (co.heap.size) bv ((hV.cell aP ad).trans (e0 0))
     (go_simp<;>with_reducible rfl)
    try simp only[PU]
    clear e0 a6 aP
    iterate 2 refine tf ?_
    refine ao ?_;refine dT ?_;refine bB (λV=>Ext b0 V/\aq V b0.heap.size 153 #[.string ⟨#[]⟩,.int .i64 0]) ⟨LW.alloc _,LX⟩ (λhb hV=>?_);have bh:=ag (aC.1.cS hV.1 λ_ _ h=>h) (aC.2.trans (hV.1.mono λ_ h=>h.elim));have g5:wr.heap.size<=b0.heap.size:=aC.2.size;have cI:=ae hV.2;have gW:=ae (aR.aj hV.1);clear hV;have ah:=And.intro bh.1 (And.intro bh.2 (And.intro cI.o (And.intro (show bY<=b0.heap.size by omega) bi)));revert ah;generalize co.heap.size=a3;generalize b0.heap.size=az;intro ah;exact key a3 az j _ ah
   ·
    refine dT ?_;refine bB (λV=>Ext co V/\aq V co.heap.size 153 #[.string ⟨#[]⟩,.int .i64 0]) ⟨LW.alloc _,LX⟩ (λca hV=>?_);have aE:=ag (g.1.cS hV.1 λ_ _ h=>h) (g.2.trans (hV.1.mono λ_ h=>h.elim));have g6:wr.heap.size<=co.heap.size:=g.2.size;have cO:=ae hV.2;clear hV;refine ao ?_;refine dT ?_;refine bB (λV=>Ext ca V/\aq V ca.heap.size 5 #[.int .u8 bv]) ⟨LW.alloc _,LX⟩ (λg8 hV=>?_);have ap:=ag (aE.1.cS hV.1 λ_ _ h=>h) (aE.2.trans (hV.1.mono λ_ h=>h.elim));have e4:wr.heap.size<=ca.heap.size:=aE.2.size;have bl:=ae hV.2;have bE:=ae (cO.aj hV.1);clear hV;obtain⟨e0,a6,aP⟩:=bl.two;refine cz (v:=?_) rfl (by rfl) (λV hV=>?_) ?_;rotate_left
    .have b6:=fy V (ca.heap.size) bv ((hV.cell aP ad).trans (e0 0))
     (go_simp<;>with_reducible rfl)
    try simp only[PU]
    clear e0 a6 aP
    iterate 2 refine tf ?_
    have ah:=And.intro ap.1 (And.intro ap.2 (And.intro bE.o (And.intro (show bY<=co.heap.size by omega) bi)));revert ah;generalize ca.heap.size=a3;generalize co.heap.size=az;intro ah;exact key a3 az j _ ah
  ·
   refine dT ?_;refine bB (λV=>Ext wr V/\aq V wr.heap.size 153 #[.string ⟨#[]⟩,.int .i64 0]) ⟨(LW.alloc _).drew,LX⟩ (λE hV=>?_);have d:=ag (U.1.cS hV.1 λ_ _ h=>h) (U.2.trans (hV.1.mono λ_ h=>h.elim));have fc:wr.heap.size<=wr.heap.size:=U.2.size;have aK:=ae hV.2;clear hV;refine a2 ?_ ?_
   ·
    refine dT ?_;refine bB (λV=>Ext E V/\aq V E.heap.size 5 #[.int .u8 bv]) ⟨LW.alloc _,LX⟩ (λgr hV=>?_);have au:=ag (d.1.cS hV.1 λ_ _ h=>h) (d.2.trans (hV.1.mono λ_ h=>h.elim));have fn:wr.heap.size<=E.heap.size:=d.2.size;have ac:=ae hV.2;have bJ:=ae (aK.aj hV.1);clear hV;obtain⟨e0,a6,aP⟩:=ac.two;refine cz (v:=?_) rfl (by rfl) (λV hV=>?_) ?_;rotate_left
    .have b6:=fy V (E.heap.size) bv ((hV.cell aP ad).trans (e0 0))
     (go_simp<;>with_reducible rfl)
    try simp only[PU]
    clear e0 a6 aP;refine tf ?_;refine ao ?_;refine aB rfl (λK hK=>?_) rfl;go_simp;refine(a9 _ (S.heap.size+1) A n c l 5 (au.1.cS (M:=λ_=>False) LW (λ_ _ h=>h)) ad ad).mono ?_;rintro e gu ⟨bZ,rfl,bz,O,h,he⟩;obtain⟨j,rfl⟩:=Lp bz;have bi:j<5:=ad;have ai:Fr (λb=>b=S.heap.size+1) gr gu:=he.fr;have aw:=ag h (au.2.trans ai);have eC:=ae (ac.on ai ad);have bM:=ae (bJ.on ai ad);refine dq hK (he.fr) ?_;clear hK K;clear h he ai bz O
    iterate 2 refine tf ?_
    have ah:=And.intro aw.1 (And.intro aw.2 (And.intro bM.o (And.intro (show bY<=wr.heap.size by omega) bi)));revert ah;generalize E.heap.size=a3;exact sJ
   ·
    refine aB rfl (λK hK=>?_) rfl;go_simp;refine(a9 _ (S.heap.size+1) A n c l 5 (d.1.cS (M:=λ_=>False) LW (λ_ _ h=>h)) ad ad).mono ?_;rintro e F ⟨bZ,rfl,bz,O,h,he⟩;obtain⟨j,rfl⟩:=Lp bz;have bi:j<5:=ad;have ai:Fr (λb=>b=S.heap.size+1) E F:=he.fr;have y:=ag h (d.2.trans ai);have bP:=ae (aK.on ai ad);refine dq hK (he.fr) ?_;clear hK K;clear h he ai bz O;refine tf ?_;refine ao ?_;refine dT ?_;refine bB (λV=>Ext F V/\aq V F.heap.size 5 #[.int .u8 bv]) ⟨LW.alloc _,LX⟩ (λg9 hV=>?_);have ax:=ag (y.1.cS hV.1 λ_ _ h=>h) (y.2.trans (hV.1.mono λ_ h=>h.elim));have gn:wr.heap.size<=F.heap.size:=y.2.size;have bp:=ae hV.2;have bT:=ae (bP.aj hV.1);clear hV;obtain⟨e0,a6,aP⟩:=bp.two;refine cz (v:=?_) rfl (by rfl) (λV hV=>?_) ?_;rotate_left
    .have b6:=fy V (F.heap.size) bv ((hV.cell aP ad).trans (e0 0))
     (go_simp<;>with_reducible rfl)
    try simp only[PU]
    clear e0 a6 aP
    iterate 2 refine tf ?_
    have ah:=And.intro ax.1 (And.intro ax.2 (And.intro bT.o (And.intro (show bY<=wr.heap.size by omega) bi)));revert ah;generalize F.heap.size=a3;exact sJ
 case wI=>
  exact BS
 ):p:=h
end Di
open Di in
theorem J2(S:World)(gS:Value)(s:∀K,(∀a ab,Code.wp prog (nN 19) (bodyPost prog Tryz.f44 (kj S)) a ab->K a ab)->Fy S gS (bodyPost prog Tryz.f44 (kj S)) K)
  (K:Act->World->Prop) (hK:∀a ab,Code.wp prog (nN 13) (bodyPost prog Tryz.f44 (kj S)) a ab->K a ab):Fx S gS (bodyPost prog Tryz.f44 (kj S)) K:=by
 unfold Fx;intro A n c l ar MA mn mc M hs hu gJ gQ z u8 gL eR bm bL ce bV bU u16 ck gs eS eV eW eX eY eZ e3 e5 e7 e8 e9 fb fd u32 fe ff fh fi fj fk fl fm fo fq fr fs ft fu fv fw fx fz fA fB fC fD fE fF fG fH fI fJ fK fL fM u64 fN fO fP fQ fR fS fT fU fV fW fX fY fZ f3 f4 f5 f6 f7 f8 f9 ga gb gd ge gf gg gh gi gj gk gl gm go gp gq H I am aF aL aM aN aV aW a7 bb be bg bo br bs bw bI bO bW b2 b5 b8 cc cd cf ch cj cp cr ct cx cA cB cC cD cF cG cH cL cM cP cQ cS cT cU cV cW cX cY cZ c4 c5 c6 c7 c8 c9 da db dc dd de df dg dh di dj dk dl dm dn dp dr ds du dw dx dy dz dA dB dC dD dF dG dH dI dJ dK dM dN dQ dS dU dV dW dX dZ d0 d1 d2 d3 d4 d5 d6 d7 d8 d9 ea eb ec ed ee ef eg eh ei ej ek el em en eo ep eq er es et eu ev ew ex ey ez eA eB eD eE eF eG eH eI eJ eK eL eM eN eO eP bA gv gw gx gy gz gA gB gC gD gE gF gG gH gI w b3 a1;have bj:=ae (a1.J2 b3);have gX:=ae s;obtain⟨u,ha⟩:∃u,u=w.heap.size:=⟨_,rfl⟩
 rw[<-ha] at bj;clear a1 s ha;conv=>arg 2;whnf
 conv at hK=>enter [a,w,1,2];whnf
 obtain⟨a0,aj,af⟩:=bj.blk.two;go_wp2_with(fail);refine(a9 w (S.heap.size+1) A n c l 3 bj.src ad ad).mono ?_;rintro e aS ⟨cv,rfl,aZ,b1,h,he⟩;obtain⟨N,rfl⟩:=Lp aZ;have hi:N<3:=ad;have gY:=ae (bj.next h he.fr);clear h he a0 aj af bj aZ b1;go_wp2_with(fail);go_loopw [7,8] (λcJ cy wr=>∃(i:Nat) (GA:L3) (gc:Nat) (G:List (ByteArray×Int)) (av:L3) (aX:Nat),cy=.int .i64 i/\cJ=.slice av i aX/\i<=N/\xG S u wr A n c l ar MA mn mc M GA i gc G av aX) (λ_ cy _=>N - (intOf cy).toNat)
 case atStart=>exact⟨0,none,0,[],none,0,rfl,rfl,ad,gY.o⟩
 case round=>
  obtain⟨i,GA,gc,G,av,aX,rfl,rfl,an,a1⟩:=hrel;clear gY;have cq:=ae a1;obtain⟨a0,aj,af⟩:=a1.blk.two;have ci:G.length=i:=by have:=a1.rows.one.len;simpa using this
  have hD:=a1.hD;clear a1;by_cases al:i<N
  .have gN:(i:Int)<(N:Int):=ad;have c3:i<=1:=ad;have gP:¬S.heap.size+1+1=S.heap.size+1:=ad;have cm:S.heap.size+1+1<wr.heap.size:=cq.blk.lt;go_upto_region 17 with(fail);exact Ax
  .have gN:¬(i:Int)<(N:Int):=ad;go_upto_region 19 with(fail);have bH:=gX.o _ (by assumption);unfold Fy at bH;exact bH u A n c l ar MA mn mc M GA i gc G av aX wr cq.o
theorem HR:cj prog 25 157 (.agg #[.string ⟨#[]⟩,.slice none 0 0,.slice none 0 0]) 3 64:=cj.mk' Tryz.underlying25 (by kernel_rfl) rfl ad
theorem HW:cj prog 154 159 (.agg #[.string ⟨#[]⟩,.bool false]) 2 24:=cj.mk' Tryz.underlying154 (by kernel_rfl) rfl ad
def rl(F:List aK):Prop:=∀i f,F[i]?=some f->f.name=jE i/\(∃n,n<=2/\f.params.map (·.1)=e4 n)/\(i=0->f.params=[])/\f.body=.nil
theorem rl.snoc{F:List aK}(h:rl F)(an:F.length=i){n:Nat}(hn:n<=2)(hp:ps.map (·.1)=e4 n)(h0:i=0->ps=[]):rl (F++[⟨jE i,ps,.nil⟩]):=by
 intro k m hm;by_cases ap:k<F.length
 .rw[List.getElem?_append_left ap] at hm;exact h k m hm
 .rw[List.getElem?_append_right ad] at hm;have b0:k - F.length=0:=by
   exact vK
  rw[b0] at hm;simp at hm;subst hm;have:k=i:=ad;subst this;exact⟨rfl,⟨n,hn,hp⟩,h0,rfl⟩
theorem Gm{w:World}{P:Nat->Prop}{nm:ByteArray}{PA:L3}{pn pc:Nat}(hc:pn<=pc)(h:Sl w P PA pn (ps.map dv)):(du ⟨nm,ps,.nil⟩).rep w P [.string nm,.slice PA pn pc,.slice none 0 0]:=by
 unfold du;rw[bM];exact ct.2 ⟨_,rfl,aN.2 ⟨PA,pn,pc,_,rfl,hc,h,aN.2 ⟨none,0,0,[],rfl,Lk _,Sl.bR _,aP.2 rfl⟩⟩⟩
structure zB(S:World)(u:Nat)(w:World)(A:L3)(n c:Nat)(l:List Int)(ar:Bool)(MA:L3)(mn mc:Nat)(M:List bD)(GA:L3)(gn gc:Nat)(G:List (ByteArray×Int))(av:L3)(aX:Nat)(FA:L3)(fn fc:Nat)(F:List aK):Prop where
 src:cn w (S.heap.size+1) A n c l
 blk:aq w (S.heap.size+1+1) 149 #[.pointer (some ⟨S.heap.size+1,0,none⟩),.slice GA gn gc,.slice MA mn mc,.slice FA fn fc,.int .i64 24,.bool ar]
 res:aq w S.heap.size 27 #[.slice none 0 0,.slice none 0 0,.slice none 0 0]
 ms:Sl w (λb=>S.heap.size+1+1+1<=b/\b<u) MA mn (M.map eD)
 gs:Sl w (λb=>S.heap.size+1+1+1<=b/\b<u) GA gn (G.map iD)
 vs:Sl w (λb=>S.heap.size+1+1+1<=b/\b<u) av gn ((G.map (·.1)).map D.s)
 fs:Gr (λb=>u<=b) u 157 3 w FA fn fc (F.map du)
 mc:mn<=mc
 gc:gn<=gc
 nm:1<=mn/\mn<=4
 ok:nu M
 ng:gn<=2
 zt:sw G
 nf:fn<=4
 JO:rl F
 ext:Ext S w
 hD:S.heap.size+1+1+1<=u/\u<=w.heap.size
section
variable {S w ab:World} {u ip:Nat} {A:L3} {n c:Nat} {l:List Int} {ar:Bool} {MA:L3} {mn mc:Nat} {M:List bD} {GA:L3} {gn gc:Nat} {G:List (ByteArray×Int)} {av:L3} {aX:Nat} {FA:L3} {fn fc:Nat} {F:List aK}
theorem xG.J3(h:xG S ip w A n c l ar MA mn mc M GA gn gc G av aX):zB S w.heap.size w A n c l ar MA mn mc M GA gn gc G av aX none 0 0 []:=by
 have hD:=h.hD;exact⟨h.src,h.blk,h.res,h.ms.mono λb hp=>⟨hp.1,by have:=hp.2;omega⟩,h.rows.one.sl (λb O hp=>⟨by have:=hp.1;omega,O⟩) (λb O aR=>⟨ad,O⟩),h.rows.two.sl (λb O hp=>⟨by have:=hp.1;omega,O⟩) (λb O aR=>⟨ad,O⟩),Gr.nil _ _ _ _ _,h.mc,h.rows.one.cap.1,h.nm,h.ok,h.ng,h.zt,ad,(λi f h=>by cases h),h.ext,ad,Lk _⟩
theorem zB.next(h:zB S u w A n c l ar MA mn mc M GA gn gc G av aX FA fn fc F)(hs:cn ab (S.heap.size+1) A n c l)(O:Fr (λb=>b=S.heap.size+1) w ab):zB S u ab A n c l ar MA mn mc M GA gn gc G av aX FA fn fc F:=by
 have hD:=h.hD;have ap:∀b,(S.heap.size+1+1+1<=b/\b<u)->ab.heap[b]?=w.heap[b]?:=λb hp=>O.block b (aD hp.2) (aD hp.1);exact⟨hs,h.blk.on O ad,h.res.on O ad,h.ms.al ap,h.gs.al ap,h.vs.al ap,h.fs.c8 O (λb O _=>⟨ad,ad⟩),h.mc,h.gc,h.nm,h.ok,h.ng,h.zt,h.nf,h.JO,Fr.low (M:=λb=>b=S.heap.size+1) ((h.ext.mono λ_ h=>h.elim).trans O) λk ap=>ad,hD.1,by have:=O.size;omega⟩
theorem zB.add(h:zB S u w A n c l ar MA mn mc M GA gn gc G av aX FA fn fc F){cM:L3}{cH:Nat}{f:aK}(a9:Gr (λb=>u<=b) u 157 3 ab cM (fn+1) cH (F.map du++[du f]))(J:Fr (λb=>(Value.slice FA fn fc).ownBlock=some b) w ab)
  (hn:fn+1<=4) (bM:rl (F++[f])):zB S u (ab.setCell ⟨S.heap.size+1+1,3,none⟩ (.slice cM (fn+1) cH)) A n c l ar MA mn mc M GA gn gc G av aX cM (fn+1) cH (F++[f]):=by
 have hD:=h.hD;have bn:∀b,(Value.slice FA fn fc).ownBlock=some b->u<=b:=λb O=>(h.fs.lt O).1;have az:Fr (λb=>b=S.heap.size+1+1) ab (ab.setCell ⟨S.heap.size+1+1,3,none⟩ (.slice cM (fn+1) cH)):=(Fr.refl (λb=>b=S.heap.size+1+1) ab).setCell (.inl rfl) _;have hs:=J.size;have bN:=az.size;have ap:∀b,(S.heap.size+1+1+1<=b/\b<u)->(ab.setCell ⟨S.heap.size+1+1,3,none⟩ (.slice cM (fn+1) cH)).heap[b]?=w.heap[b]?:=λb hp=>(az.block b (aD hp.2) (aD hp.1)).trans (J.block b (aD hp.2) λah=>by have:=bn b ah;have:=hp.2;omega);refine⟨(h.src.cS J λb O ah=>by have:=bn b ah;omega).cS az (λb O ah=>ad),(h.blk.on J λah=>by have:=bn _ ah;omega).aM 3 _,(h.res.on J λah=>by have:=bn _ ah;omega).on az ad,h.ms.al ap,h.gs.al ap,h.vs.al ap,?_,h.mc,h.gc,h.nm,h.ok,h.ng,h.zt,hn,bM,?_,hD.1,ad⟩
 .rw[Lr,Lq,LK];exact a9.c8 az (λb O _=>⟨ad,ad⟩)
 .have ac:Ext S ab:=Fr.low (M:=λb=>(Value.slice FA fn fc).ownBlock=some b) ((h.ext.mono λ_ h=>h.elim).trans J) λk ap=>by have:=bn k ap;omega
  exact z2
end
def Fz(S:World)(gS:Value)(Q:Exit->Act->World->Prop)(K:Act->World->Prop):Prop:=∀(u:Nat) (A:L3) (n c:Nat) (l:List Int) (ar:Bool) (MA:L3) (mn mc:Nat) (M:List bD) (GA:L3) (gn gc:Nat) (G:List (ByteArray×Int)) (av:L3) (aX:Nat) (FA:L3) (fn fc:Nat) (F:List aK) {hs hu gJ gQ u8 gL eR bm bL ce bV bU u16 ck gs eS eV eW eX eY eZ e3 e5 e7 e8 e9 fb fd u32 fe ff fh fi fj fk fl fm fo fq fr fs ft fu fv fw fx fz fA fB fC fD fE fF fG fH fI fJ fK fL fM u64 fN fO fP fQ fR fS fT fU fV fW fX fY fZ f3 f4 f5 f6 f7 f8 f9 ga gb gd ge gf gg gh gi gj gk gl gm go gp gq H I am aF aL aM aN aV aW a7 bb be bg bo br bs bw bI bO bW b2 b5 b8 cc cd cf ch cj cp cr ct cx cA cB cC cD cF cG cH cL cM cP cQ cS cT cU cV cW cX cY cZ c4 c5 c6 c7 c8 c9 da db dc dd de df dg dh di dj dk dl dm dn dp dr ds du dw dx dy dz dA dB dC dD dF dG dH dI dJ dK dM dN dQ dS dU dV dW dX dZ d0 d1 d2 d3 d4 d5 d6 d7 d8 d9 ea eb ec ed ee ef eg eh ei ej ek el em en eo ep eq er es et eu ev ew ex ey ez eA eB eD eE eF eG eH eI eJ eK eL eM eN eO eP bA gv gw gx gy gz gA gB gC gD gE gF gG gH gI:Value} (w:World),1<=fn->zB S u w A n c l ar MA mn mc M GA gn gc G av aX FA fn fc F->
 Code.wp prog (w1 32) (Exit.then K Q) ⟨#[gS,hs,.pointer (some ⟨S.heap.size,0,none⟩),.pointer (some ⟨S.heap.size+1+1,0,none⟩),hu,gJ,gQ,.slice av gn aX,u8,gL,eR,bm,bL,ce,bV,bU,u16,ck,gs,eS,eV,eW,eX,eY,eZ,e3,e5,e7,e8,e9,fb,fd,u32,fe,ff,fh,fi,fj,fk,fl,fm,fo,fq,fr,fs,ft,fu,fv,fw,fx,fz,fA,fB,fC,fD,fE,fF,fG,fH,fI,fJ,fK,fL,fM,u64,fN,fO,fP,fQ,fR,fS,fT,fU,fV,fW,fX,fY,fZ,f3,f4,f5,f6,f7,f8,f9,ga,gb,gd,ge,gf,gg,gh,gi,gj,gk,gl,gm,go,gp,gq,H,I,am,aF,aL,aM,aN,aV,aW,a7,bb,be,bg,bo,br,bs,bw,bI,bO,bW,b2,b5,b8,cc,cd,cf,ch,cj,cp,cr,ct,cx,cA,cB,cC,cD,cF,cG,cH,cL,cM,cP,cQ,cS,cT,cU,cV,cW,cX,cY,cZ,c4,c5,c6,c7,c8,c9,da,db,dc,dd,de,df,dg,dh,di,dj,dk,dl,dm,dn,dp,dr,ds,du,dw,dx,dy,dz,dA,dB,dC,dD,dF,dG,dH,dI,dJ,dK,dM,dN,dQ,dS,dU,dV,dW,dX,dZ,d0,d1,d2,d3,d4,d5,d6,d7,d8,d9,ea,eb,ec,ed,ee,ef,eg,eh,ei,ej,ek,el,em,en,eo,ep,eq,er,es,et,eu,ev,ew,ex,ey,ez,eA,eB,eD,eE,eF,eG,eH,eI,eJ,eK,eL,eM,eN,eO,eP,bA,gv,gw,gx,gy,gz,gA,gB,gC,gD,gE,gF,gG,gH,gI],[]⟩ w
theorem Eh(an:i<4)(h0:i≠0)(O:bv=48+(i:Int)):(⟨#[102]⟩++strOf [byteOf bv]:ByteArray)=jE i:=by
 subst O;have h:∀k:Fin 4,k.val≠0->(⟨#[102]⟩++strOf [byteOf (48+((k.val:Nat):Int))]:ByteArray)=jE k.val:=by decide
 exact h ⟨i,an⟩ h0
theorem EO(an:i<3)(O:IntKind.u8.wrap (IntKind.i64.wrap (48+(i:Int)))=bv):(⟨#[112]⟩++strOf [byteOf bv]:ByteArray)=uV i:=by
 subst O;have h:∀k:Fin 3,(⟨#[112]⟩++strOf [byteOf (IntKind.u8.wrap (IntKind.i64.wrap (48+((k.val:Nat):Int))))]:ByteArray)=uV k.val:=by decide
 exact h ⟨i,an⟩
end Go.Proofs.YtkhnkojkplbioaaGreat

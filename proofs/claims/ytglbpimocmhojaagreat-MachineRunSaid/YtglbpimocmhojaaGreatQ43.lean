/- Part 43 of the proof. No condition of its own. -/
import Derived.Test.YtglbpimocmhojaaGreatQ42
namespace Go.Proofs.YtglbpimocmhojaaGreat
open Go.RowKit Go.Proofs.Tryz
set_option maxRecDepth 1000000
set_option maxHeartbeats 25600000
set_option linter.unusedVariables false
variable{bv:Int}{ps:List (ByteArray×Bool)}{i:Nat}{p:Prop}
namespace Cz
theorem eQ(h:p:=by
 refine b3 ?_;generalize bI:World.setCell _ _ _=Y;have hc:wr.heap.size<=az:=ad;obtain⟨bE,bG,bH⟩:=dU (M:=λb=>b=S.heap.size+1) [.string (⟨#[103]⟩++strOf [byteOf bv]),.int .i64 (IntKind.i64.wrap ((j:Int) - 2))] (by rfl) bF aj hc bI;obtain⟨ap,bP⟩:∃ap:Int,ap=IntKind.i64.wrap ((j:Int) - 2):=⟨_,rfl⟩
 rw[<-bP] at bE;rw[IntWalk.i64_in _ ad] at bP;rw[DB ad aI.o] at bE;have dB:=cn.next (ay.cO bH λb O h=>ad) bG;have bj:-2<=ap/\ap<=2:=ad;have bB:=ah dB bE;have ax:=ae bj;clear bI bE bG bH dB bP bj ay aj bF bs aV bu bi;obtain⟨a0,ai,af⟩:=bB.1.blk.two;obtain⟨bs,aV,bu⟩:=bB.2.two;have o:∀b,(Value.slice GA i gc).ownBlock=some b->u<=b/\b<wr.heap.size:=λb O=>cn.rows.one.lt O;have aQ:∀b,(Value.slice av i ba).ownBlock=some b->u<=b/\b<wr.heap.size:=λb O=>cn.rows.two.lt O;have a9:¬(Value.slice GA i gc).ownBlock=some (S.heap.size+1+1):=λh=>by have:=(o _ h).1;omega
 have ci:¬(Value.slice GA i gc).ownBlock=some az:=λh=>by have:=(o _ h).2;omega
 have g6:u<=Y.heap.size:=bB.1.hD.2;have ds:wr.heap.size<=Y.heap.size:=by have:=bB.2.lt;omega
 have bo:=ah o aQ;clear o aQ;go_upto_region 18 with(fail);refine qY (λb=>(Value.slice GA i gc).ownBlock=some b) [13,17] (.free 0 (.free 1 (.free 2 (.free 3 (.free 4 (.held 5 (.held 6 (.free 9 (.free 10 (.held 11 (.pick [7,12] (λi=>bif i == 7 then .pick [8,12] (λi=>bif i == 8 then .pick [12] (λ_=>.pick [13] (λ_=>.free 14 (.free 15 (.free 16 (.pick [17] (λ_=>.free 18 (.stop))))))) else .pick [8] (λ_=>.pick [13] (λ_=>.free 14 (.free 15 (.free 16 (.pick [17] (λ_=>.free 18 (.stop)))))))) else .pick [7] (λ_=>.pick [8] (λ_=>.pick [13] (λ_=>.free 14 (.free 15 (.free 16 (.pick [17] (λ_=>.free 18 (.stop)))))))))))))))))))) ?_
 iterate 5 refine tf ?_
 iterate 2 refine mU ?_
 iterate 2 refine tf ?_
 refine mU ?_;clear a0 ai af bs aV bu;refine iL (P:=?Km) (ops:=?Ks) (Q:=?Kw) (R:=?Ky) (tails:=?KB) (rest:=.pick [13] (λ_=>.free 14 (.free 15 (.free 16 (.pick [17] (λ_=>.free 18 (.stop))))))) (aa:=?Kr)
  (C:=λ(_:Nat) b2 A2 bO V=>True/\∃q1 cI,Ext Y q1/\Gr (λb=>u<=b/\(Value.slice av i ba).ownBlock≠some b) u 132 2 cI A2 (i+1) bO (G.map iz++[iz (dN i,ap)])/\Fr (λb=>(Value.slice GA i gc).ownBlock=some b) q1 cI/\dq q1 GA i gc A2 (i+1) bO/\Ext cI V/\aq V b2 9 #[.string (dN i)]) (λkey=>?J5) ?J4
 case J5=>
  refine aY ?_ ?_
  ·
   refine dP ?_;generalize hV:World.drew (World.alloc _ _)=cC;have e1:=gG hV;have b0:aq cC Y.heap.size 132 #[.string (dN i),.int .i64 ap]:=hV▸Lm;clear hV;refine aY ?_ ?_
   ·
    refine aB rfl (λK hK=>?_) rfl;rw[if_pos (by rfl)];refine e5 vr (.tmp 108) (.tmp 110) (by rfl) (bB.1.rows.ai e1).one b0 (sV.2 rfl:(iz (dN i,ap)).rep cC _ _) (by rfl) (by rfl) (by rfl) ad ad (aC e1.size) ?_;intro A2 bO aT ca f1 o1 c1;refine dz hK (f1) ?_;clear hK K;refine ao ?_;refine dP ?_;have ag:True/\∃q1 cI,Ext Y q1/\Gr (λb=>u<=b/\(Value.slice av i ba).ownBlock≠some b) u 132 2 cI A2 (i+1) bO (G.map iz++[iz (dN i,ap)])/\Fr (λb=>(Value.slice GA i gc).ownBlock=some b) q1 cI/\dq q1 GA i gc A2 (i+1) bO/\Ext cI (aT.alloc (.cells #[.string (dN i)] 9))/\aq (aT.alloc (.cells #[.string (dN i)] 9)) aT.heap.size 9 #[.string (dN i)]:=⟨trivial,cC,aT,e1,ca,f1,o1,Ll.alloc _,Lm⟩
    clear ca o1;revert ag;generalize aT.heap.size=b2;generalize Y.heap.size=eX;intro ag;exact key eX b2 A2 bO _ ag
   ·
    refine dP ?_;generalize hV:World.alloc _ _=Z;have cd:aq Z cC.heap.size 9 #[.string (dN i)]:=hV▸Lm;have aU:=by have:=b0.alloc (.cells #[.string (dN i)] 9);rw[hV] at this;exact this
    have e2:Ext Y Z:=hV▸e1.alloc _;clear hV b0;refine ao ?_;refine aB rfl (λK hK=>?_) rfl;rw[if_pos (by rfl)];refine e5 vr (.tmp 108) (.tmp 110) (by rfl) (bB.1.rows.ai e2).one aU (sV.2 rfl:(iz (dN i,ap)).rep Z _ _) (by rfl) (by rfl) (by rfl) ad ad (aC e2.size) ?_;intro A2 bO aT ca f1 o1 c1;refine dz hK (f1) ?_;clear hK K;have be:¬(Value.slice GA i gc).ownBlock=some cC.heap.size:=λO=>by have:=(bo.1 _ O).2;have:=e1.size;omega
    have ag:True/\∃q1 cI,Ext Y q1/\Gr (λb=>u<=b/\(Value.slice av i ba).ownBlock≠some b) u 132 2 cI A2 (i+1) bO (G.map iz++[iz (dN i,ap)])/\Fr (λb=>(Value.slice GA i gc).ownBlock=some b) q1 cI/\dq q1 GA i gc A2 (i+1) bO/\Ext cI aT/\aq aT cC.heap.size 9 #[.string (dN i)]:=⟨trivial,Z,aT,e2,ca,f1,o1,Ll,cd.on f1 be⟩
    clear ca o1;revert ag;generalize cC.heap.size=b2;generalize Y.heap.size=eX;intro ag;exact key eX b2 A2 bO _ ag
  ·
   refine dP ?_;generalize hV:World.drew (World.alloc _ _)=cC;have cd:aq cC Y.heap.size 9 #[.string (dN i)]:=hV▸Lm;have e1:=gG hV;clear hV;refine ao ?_;refine dP ?_;generalize hV:World.alloc _ _=Z;have e2:Ext Y Z:=hV▸e1.alloc _;have b0:=aK hV;have a5:aq Z Y.heap.size 9 #[.string (dN i)]:=hV▸cd.alloc _;clear hV;refine ao ?_;refine aB rfl (λK hK=>?_) rfl;rw[if_pos (by rfl)];refine e5 vr (.tmp 108) (.tmp 110) (by rfl) (bB.1.rows.ai e2).one b0 (sV.2 rfl:(iz (dN i,ap)).rep Z _ _) (by rfl) (by rfl) (by rfl) ad ad (aC e2.size) ?_;intro A2 bO aT ca f1 o1 c1;refine dz hK (f1) ?_;clear hK K;have be:¬(Value.slice GA i gc).ownBlock=some Y.heap.size:=λO=>by have:=(bo.1 _ O).2;omega
   have ag:True/\∃q1 cI,Ext Y q1/\Gr (λb=>u<=b/\(Value.slice av i ba).ownBlock≠some b) u 132 2 cI A2 (i+1) bO (G.map iz++[iz (dN i,ap)])/\Fr (λb=>(Value.slice GA i gc).ownBlock=some b) q1 cI/\dq q1 GA i gc A2 (i+1) bO/\Ext cI aT/\aq aT Y.heap.size 9 #[.string (dN i)]:=⟨trivial,Z,aT,e2,ca,f1,o1,Ll,a5.on f1 be⟩
   clear ca o1;revert ag;generalize Y.heap.size=b2;generalize cC.heap.size=eX;intro ag;exact key eX b2 A2 bO _ ag
 case J4=>
  rintro eX b2 A2 bO V ⟨_,aS,aT,e1,ca,f1,o1,e2,cd⟩;have s1:=e1.size;have s2:=f1.size;have T:=e2.size;obtain⟨o,aQ⟩:=bo.o;have L:=((bB.1.rows.ai e1).grow ca f1 o1).ai e2;have b7:aq V (S.heap.size+1+1) _ _:=((bB.1.blk.ai e1).on f1 a9).ai e2;have fn:¬(Value.slice av i ba).ownBlock=some (S.heap.size+1+1):=λh=>by have:=(aQ _ h).1;omega
  refine ao ?_;refine bM rfl (λK hK=>?_) rfl;rw[if_pos (by rfl)];refine e5 kq (.tmp 112) (.tmp 115) (by rfl) L.two cd (um.2 rfl:(D.s (dN i)).rep V _ _) (by rfl) (by rfl) (by rfl) ad ad ad ?_;intro cQ eP cL g2 f2 fg c2;have m:=(L.swap.grow g2 f2 fg).swap;have b6:=b7.on f2 fn;have J:Fr (λb=>(Value.slice GA i gc).ownBlock=some b\/(Value.slice av i ba).ownBlock=some b) Y cL:=((((e1.mono λ_ h=>h.elim).trans (f1.mono λ_ h=>.inl h)).trans (e2.mono λ_ h=>h.elim)).trans (f2.mono λ_ h=>.inr h))
  have r:=ah m J;clear ca f1 o1 e1 e2 cd L b7 g2 f2 fg c2 m J;obtain⟨a0,ai,af⟩:=b6.two;clear b6;refine dO hK ?_;clear hK K
  iterate 3 refine tf ?_
  refine ao ?_;refine bM rfl (λK hK=>?_) rfl;go_simp;refine dO hK ?_;clear hK K;refine tf ?_;refine b3 ?_;generalize hX:World.setCell _ _ _=hf;have eK:la u 132 2 9 1 cL A2 (i+1) bO ((G++[(dN i,ap)]).map iz) cQ (i+1) eP (((G++[(dN i,ap)]).map (·.1)).map D.s):=by
   simp only[KK,KJ,Lb];exact r.1
  have f:=bB.1.add eK r.2 ad (cn.yM.snoc ck ax.1 ax.2);rw[hX] at f;have bN:=ae f;clear hX f eK a0 ai af;go_wp2_with(fail);go_roundw
  case rel=>exact⟨i+1,A2,bO,G++[(dN i,ap)],cQ,eP,by go_num,rfl,ad,bN.o⟩
  case measure=>exact aG
 ):p:=h
theorem zP(h:p:=by
 generalize hb:IntKind.u8.wrap (IntKind.i64.wrap (48+(i:Int)))=bv;obtain⟨bn,hO⟩:∃bn,bn=wr.heap.size:=⟨_,rfl⟩
 have aI:=ae hb;clear hb;have hp:(strOf [byteOf bv]).size=1:=aO _;have U:=ah cn.src (Fr.refl (λb=>b=S.heap.size+1) wr);refine gV (P:=?ow) (ops:=?Hq) (Q:=?Hs) (R:=?Hu) (tails:=?HE) (rest:=.pick [14] (λ_=>.stop)) (aa:=?G3)
  (C:=λ(aW az j:Nat) eN=>cm eN (S.heap.size+1) A n c l/\Fr (λb=>b=S.heap.size+1) wr eN/\aq eN az 132 #[.string ⟨#[]⟩,.int .i64 0]/\bn<=az/\j<5) (λkey=>?vY) ?vR
 case vY=>
  refine qA ?_ ?_ ?_
  ·
   refine dP ?_;refine bw (λV=>Ext wr V/\aq V wr.heap.size 5 #[.int .u8 bv]) ⟨(Ll.alloc _).drew,Lm⟩ (λr1 hV=>?_);have k:=ah (U.1.cO hV.1 λ_ _ h=>h) (U.2.trans (hV.1.mono λ_ h=>h.elim));have gZ:wr.heap.size<=wr.heap.size:=U.2.size;have X:=ae hV.2;clear hV;obtain⟨e0,a6,aP⟩:=X.two;refine cw (v:=?_) rfl (by rfl) (λV hV=>?_) ?_;rotate_left
   .have bX:=fu V (wr.heap.size) bv ((hV.cell aP ad).trans (e0 0))
    (go_simp<;>with_reducible rfl)
   try simp only[PU]
   clear e0 a6 aP;refine tf ?_;refine aY ?_ ?_
   ·
    refine aB rfl (λK hK=>?_) rfl;go_simp;refine(a2 _ (S.heap.size+1) A n c l 5 (k.1.cO (M:=λ_=>False) Ll (λ_ _ h=>h)) ad ad).mono ?_;rintro e dL ⟨bU,rfl,bx,O,h,he⟩;obtain⟨j,rfl⟩:=KI bx;have bi:j<5:=ad;have aj:Fr (λb=>b=S.heap.size+1) r1 dL:=he.fr;have aD:=ah h (k.2.trans aj);have bZ:=ae (X.on aj ad);refine dz hK (he.fr) ?_;clear hK K;clear h he aj bx O
    iterate 2 refine tf ?_
    refine ao ?_;refine dP ?_;refine bw (λV=>Ext dL V/\aq V dL.heap.size 132 #[.string ⟨#[]⟩,.int .i64 0]) ⟨Ll.alloc _,Lm⟩ (λgS hV=>?_);have a7:=ah (aD.1.cO hV.1 λ_ _ h=>h) (aD.2.trans (hV.1.mono λ_ h=>h.elim));have g0:wr.heap.size<=dL.heap.size:=aD.2.size;have cr:=ae hV.2;have gT:=ae (bZ.ai hV.1);clear hV;have ag:=And.intro a7.1 (And.intro a7.2 (And.intro cr.o (And.intro (show bn<=dL.heap.size by omega) bi)));revert ag;generalize wr.heap.size=aW;generalize dL.heap.size=az;intro ag;exact key aW az j _ ag
   ·
    refine dP ?_;refine bw (λV=>Ext r1 V/\aq V r1.heap.size 132 #[.string ⟨#[]⟩,.int .i64 0]) ⟨Ll.alloc _,Lm⟩ (λgP hV=>?_);have bc:=ah (k.1.cO hV.1 λ_ _ h=>h) (k.2.trans (hV.1.mono λ_ h=>h.elim));have g1:wr.heap.size<=r1.heap.size:=k.2.size;have ct:=ae hV.2;have b4:=ae (X.ai hV.1);clear hV;refine ao ?_;refine aB rfl (λK hK=>?_) rfl;go_simp;refine(a2 _ (S.heap.size+1) A n c l 5 (bc.1.cO (M:=λ_=>False) Ll (λ_ _ h=>h)) ad ad).mono ?_;rintro e gQ ⟨bU,rfl,bx,O,h,he⟩;obtain⟨j,rfl⟩:=KI bx;have bi:j<5:=ad;have aj:Fr (λb=>b=S.heap.size+1) gP gQ:=he.fr;have bf:=ah h (bc.2.trans aj);have gU:=ae (b4.on aj ad);have cF:=ae (ct.on aj ad);refine dz hK (he.fr) ?_;clear hK K;clear h he aj bx O
    iterate 2 refine tf ?_
    have ag:=And.intro bf.1 (And.intro bf.2 (And.intro cF.o (And.intro (show bn<=r1.heap.size by omega) bi)));revert ag;generalize wr.heap.size=aW;generalize r1.heap.size=az;intro ag;exact key aW az j _ ag
  ·
   refine aB rfl (λK hK=>?_) rfl;go_simp;refine(a2 _ (S.heap.size+1) A n c l 5 (U.1.cO (M:=λ_=>False) (Ll.drew) (λ_ _ h=>h)) ad ad).mono ?_;rintro e cg ⟨bU,rfl,bx,O,h,he⟩;obtain⟨j,rfl⟩:=KI bx;have bi:j<5:=ad;have aj:Fr (λb=>b=S.heap.size+1) wr cg:=Fr.aF he.fr;have g:=ah h (U.2.trans aj);refine dz hK (he.fr) ?_;clear hK K;clear h he aj bx O;refine tf ?_;refine aY ?_ ?_
   ·
    refine dP ?_;refine bw (λV=>Ext cg V/\aq V cg.heap.size 5 #[.int .u8 bv]) ⟨Ll.alloc _,Lm⟩ (λbT hV=>?_);have aE:=ah (g.1.cO hV.1 λ_ _ h=>h) (g.2.trans (hV.1.mono λ_ h=>h.elim));have g3:wr.heap.size<=cg.heap.size:=g.2.size;have aR:=ae hV.2;clear hV;obtain⟨e0,a6,aP⟩:=aR.two;refine cw (v:=?_) rfl (by rfl) (λV hV=>?_) ?_;rotate_left
    .have bX:=fu V (cg.heap.size) bv ((hV.cell aP ad).trans (e0 0))
     (go_simp<;>with_reducible rfl)
    try simp only[PU]
    clear e0 a6 aP
    iterate 2 refine tf ?_
    refine ao ?_;refine dP ?_;refine bw (λV=>Ext bT V/\aq V bT.heap.size 132 #[.string ⟨#[]⟩,.int .i64 0]) ⟨Ll.alloc _,Lm⟩ (λha hV=>?_);have bh:=ah (aE.1.cO hV.1 λ_ _ h=>h) (aE.2.trans (hV.1.mono λ_ h=>h.elim));have g4:wr.heap.size<=bT.heap.size:=aE.2.size;have cJ:=ae hV.2;have gW:=ae (aR.ai hV.1);clear hV;have ag:=And.intro bh.1 (And.intro bh.2 (And.intro cJ.o (And.intro (show bn<=bT.heap.size by omega) bi)));revert ag;generalize cg.heap.size=aW;generalize bT.heap.size=az;intro ag;exact key aW az j _ ag
   ·
    refine dP ?_;refine bw (λV=>Ext cg V/\aq V cg.heap.size 132 #[.string ⟨#[]⟩,.int .i64 0]) ⟨Ll.alloc _,Lm⟩ (λbW hV=>?_);have aH:=ah (g.1.cO hV.1 λ_ _ h=>h) (g.2.trans (hV.1.mono λ_ h=>h.elim));have g5:wr.heap.size<=cg.heap.size:=g.2.size;have cK:=ae hV.2;clear hV;refine ao ?_;refine dP ?_;refine bw (λV=>Ext bW V/\aq V bW.heap.size 5 #[.int .u8 bv]) ⟨Ll.alloc _,Lm⟩ (λg7 hV=>?_);have al:=ah (aH.1.cO hV.1 λ_ _ h=>h) (aH.2.trans (hV.1.mono λ_ h=>h.elim));have f0:wr.heap.size<=bW.heap.size:=aH.2.size;have bk:=ae hV.2;have bq:=ae (cK.ai hV.1);clear hV;obtain⟨e0,a6,aP⟩:=bk.two;refine cw (v:=?_) rfl (by rfl) (λV hV=>?_) ?_;rotate_left
    .have bX:=fu V (bW.heap.size) bv ((hV.cell aP ad).trans (e0 0))
     (go_simp<;>with_reducible rfl)
    try simp only[PU]
    clear e0 a6 aP
    iterate 2 refine tf ?_
    have ag:=And.intro al.1 (And.intro al.2 (And.intro bq.o (And.intro (show bn<=cg.heap.size by omega) bi)));revert ag;generalize bW.heap.size=aW;generalize cg.heap.size=az;intro ag;exact key aW az j _ ag
  ·
   refine dP ?_;refine bw (λV=>Ext wr V/\aq V wr.heap.size 132 #[.string ⟨#[]⟩,.int .i64 0]) ⟨(Ll.alloc _).drew,Lm⟩ (λE hV=>?_);have d:=ah (U.1.cO hV.1 λ_ _ h=>h) (U.2.trans (hV.1.mono λ_ h=>h.elim));have gn:wr.heap.size<=wr.heap.size:=U.2.size;have aJ:=ae hV.2;clear hV;refine aY ?_ ?_
   ·
    refine dP ?_;refine bw (λV=>Ext E V/\aq V E.heap.size 5 #[.int .u8 bv]) ⟨Ll.alloc _,Lm⟩ (λgL hV=>?_);have au:=ah (d.1.cO hV.1 λ_ _ h=>h) (d.2.trans (hV.1.mono λ_ h=>h.elim));have gq:wr.heap.size<=E.heap.size:=d.2.size;have ac:=ae hV.2;have br:=ae (aJ.ai hV.1);clear hV;obtain⟨e0,a6,aP⟩:=ac.two;refine cw (v:=?_) rfl (by rfl) (λV hV=>?_) ?_;rotate_left
    .have bX:=fu V (E.heap.size) bv ((hV.cell aP ad).trans (e0 0))
     (go_simp<;>with_reducible rfl)
    try simp only[PU]
    clear e0 a6 aP;refine tf ?_;refine ao ?_;refine aB rfl (λK hK=>?_) rfl;go_simp;refine(a2 _ (S.heap.size+1) A n c l 5 (au.1.cO (M:=λ_=>False) Ll (λ_ _ h=>h)) ad ad).mono ?_;rintro e gR ⟨bU,rfl,bx,O,h,he⟩;obtain⟨j,rfl⟩:=KI bx;have bi:j<5:=ad;have aj:Fr (λb=>b=S.heap.size+1) gL gR:=he.fr;have aw:=ah h (au.2.trans aj);have fc:=ae (ac.on aj ad);have bC:=ae (br.on aj ad);refine dz hK (he.fr) ?_;clear hK K;clear h he aj bx O
    iterate 2 refine tf ?_
    have ag:=And.intro aw.1 (And.intro aw.2 (And.intro bC.o (And.intro (show bn<=wr.heap.size by omega) bi)));revert ag;generalize E.heap.size=aW;exact r4
   ·
    refine aB rfl (λK hK=>?_) rfl;go_simp;refine(a2 _ (S.heap.size+1) A n c l 5 (d.1.cO (M:=λ_=>False) Ll (λ_ _ h=>h)) ad ad).mono ?_;rintro e F ⟨bU,rfl,bx,O,h,he⟩;obtain⟨j,rfl⟩:=KI bx;have bi:j<5:=ad;have aj:Fr (λb=>b=S.heap.size+1) E F:=he.fr;have y:=ah h (d.2.trans aj);have bK:=ae (aJ.on aj ad);refine dz hK (he.fr) ?_;clear hK K;clear h he aj bx O;refine tf ?_;refine ao ?_;refine dP ?_;refine bw (λV=>Ext F V/\aq V F.heap.size 5 #[.int .u8 bv]) ⟨Ll.alloc _,Lm⟩ (λg8 hV=>?_);have aA:=ah (y.1.cO hV.1 λ_ _ h=>h) (y.2.trans (hV.1.mono λ_ h=>h.elim));have gs:wr.heap.size<=F.heap.size:=y.2.size;have bl:=ae hV.2;have bL:=ae (bK.ai hV.1);clear hV;obtain⟨e0,a6,aP⟩:=bl.two;refine cw (v:=?_) rfl (by rfl) (λV hV=>?_) ?_;rotate_left
    .have bX:=fu V (F.heap.size) bv ((hV.cell aP ad).trans (e0 0))
     (go_simp<;>with_reducible rfl)
    try simp only[PU]
    clear e0 a6 aP
    iterate 2 refine tf ?_
    have ag:=And.intro aA.1 (And.intro aA.2 (And.intro bL.o (And.intro (show bn<=wr.heap.size by omega) bi)));revert ag;generalize F.heap.size=aW;exact r4
 case vR=>
  exact A8
 ):p:=h
end Cz
open Cz in
theorem Jl(S:World)(gO:Value)(s:∀K,(∀a ab,Code.wp prog (nv 19) (bodyPost prog Tryz.f21 (kb S)) a ab->K a ab)->EI S gO (bodyPost prog Tryz.f21 (kb S)) K)
  (K:Act->World->Prop) (hK:∀a ab,Code.wp prog (nv 13) (bodyPost prog Tryz.f21 (kb S)) a ab->K a ab):EH S gO (bodyPost prog Tryz.f21 (kb S)) K:=by
 unfold EH;intro A n c l ar MA mn mc M hr hs gJ gN z u8 gK eO go gp cc bQ a4 u16 bR cq eR eS eT eU eV eW eY eZ e3 e6 e7 e8 e9 u32 fa fb fd fe ff fh fi fk fl fm fo fp fq fr fs ft fv fw fx fy fz fA fB fC fD fE fF fG fH fI fJ u64 fK fL fM fN fO fP fQ fR fS fT fU fV fW fX fY fZ f3 f4 f5 f6 f7 f8 f9 ga gb gd ge gf gg gh gi gj gk gl gm H I am aF aL aM aN aX a1 a8 bb bd bm bp bt bz bA bD bJ bV bY b1 b5 b8 b9 cb ce ch cj cl co cp cx cy cz cA cB cD cE cG cH cM cN cO cP cR cS cT cU cV cW cX cY cZ c4 c5 c6 c7 c8 c9 da db dc dd de df dg dh di dj dk dl dm dn dp dr dt du dv dw dx dy dA dC dD dE dF dG dI dJ dK dM dQ dR dS dT dV dW dX dY dZ d0 d1 d2 d3 d4 d5 d6 d7 d8 d9 ea eb ec ed ee ef eg eh ei ej ek el em en eo ep eq er es et eu ev ew ex ey ez eA eB eC eD eE eF eG eH eI eJ eL eM gt gu gv gw gx gy gz gA gB gC gD gE gF gH gI w dH aZ;have bg:=ae (aZ.Jl dH);have gX:=ae s;obtain⟨u,g9⟩:∃u,u=w.heap.size:=⟨_,rfl⟩
 rw[<-g9] at bg;clear aZ s g9;conv=>arg 2;whnf
 conv at hK=>enter [a,w,1,2];whnf
 obtain⟨a0,ai,af⟩:=bg.blk.two;go_wp2_with(fail);refine(a2 w (S.heap.size+1) A n c l 3 bg.src ad ad).mono ?_;rintro e aS ⟨cv,rfl,a3,bS,h,he⟩;obtain⟨N,rfl⟩:=KI a3;have hh:N<3:=ad;have gY:=ae (bg.next h he.fr);clear h he a0 ai af bg a3 bS;go_wp2_with(fail);go_loopw [7,8] (λe4 cu wr=>∃(i:Nat) (GA:Lp) (gc:Nat) (G:List (ByteArray×Int)) (av:Lp) (ba:Nat),cu=.int .i64 i/\e4=.slice av i ba/\i<=N/\w2 S u wr A n c l ar MA mn mc M GA i gc G av ba) (λ_ cu _=>N - (intOf cu).toNat)
 case atStart=>exact⟨0,none,0,[],none,0,rfl,rfl,ad,gY.o⟩
 case round=>
  obtain⟨i,GA,gc,G,av,ba,rfl,rfl,an,aZ⟩:=hrel;clear gY;have cn:=ae aZ;obtain⟨a0,ai,af⟩:=aZ.blk.two;have ck:G.length=i:=by have:=aZ.rows.one.len;simpa using this
  have hD:=aZ.hD;clear aZ;by_cases ak:i<N
  .have gM:(i:Int)<(N:Int):=ad;have c0:i<=1:=ad;have c3:¬S.heap.size+1+1=S.heap.size+1:=ad;have cf:S.heap.size+1+1<wr.heap.size:=cn.blk.lt;go_upto_region 17 with(fail);exact zO
  .have gM:¬(i:Int)<(N:Int):=ad;go_upto_region 19 with(fail);have ci:=gX.o _ (by assumption);unfold EI at ci;exact ci u A n c l ar MA mn mc M GA i gc G av ba wr cn.o
theorem G5:ch prog 25 136 (.agg #[.string ⟨#[]⟩,.slice none 0 0,.slice none 0 0]) 3 64:=ch.mk' Tryz.underlying25 (by kernel_rfl) rfl ad
theorem Ha:ch prog 133 138 (.agg #[.string ⟨#[]⟩,.bool false]) 2 24:=ch.mk' Tryz.underlying133 (by kernel_rfl) rfl ad
def qM(F:List aJ):Prop:=∀i f,F[i]?=some f->f.name=jx i/\(∃n,n<=2/\f.params.map (·.1)=eX n)/\(i=0->f.params=[])/\f.body=.nil
theorem qM.snoc{F:List aJ}(h:qM F)(an:F.length=i){n:Nat}(hn:n<=2)(hp:ps.map (·.1)=eX n)(h0:i=0->ps=[]):qM (F++[⟨jx i,ps,.nil⟩]):=by
 intro k m hm;by_cases ap:k<F.length
 .rw[List.getElem?_append_left ap] at hm;exact h k m hm
 .rw[List.getElem?_append_right ad] at hm;have cN:k - F.length=0:=by
   exact uY
  rw[cN] at hm;simp at hm;subst hm;have:k=i:=ad;subst this;exact⟨rfl,⟨n,hn,hp⟩,h0,rfl⟩
theorem Fy{w:World}{P:Nat->Prop}{nm:ByteArray}{PA:Lp}{pn pc:Nat}(hc:pn<=pc)(h:Sl w P PA pn (ps.map ds)):(dr ⟨nm,ps,.nil⟩).rep w P [.string nm,.slice PA pn pc,.slice none 0 0]:=by
 unfold dr;rw[bI];exact cp.2 ⟨_,rfl,aN.2 ⟨PA,pn,pc,_,rfl,hc,h,aN.2 ⟨none,0,0,[],rfl,KD _,Sl.bN _,aP.2 rfl⟩⟩⟩
structure yV(S:World)(u:Nat)(w:World)(A:Lp)(n c:Nat)(l:List Int)(ar:Bool)(MA:Lp)(mn mc:Nat)(M:List bG)(GA:Lp)(gn gc:Nat)(G:List (ByteArray×Int))(av:Lp)(ba:Nat)(FA:Lp)(fn fc:Nat)(F:List aJ):Prop where
 src:cm w (S.heap.size+1) A n c l
 blk:aq w (S.heap.size+1+1) 125 #[.pointer (some ⟨S.heap.size+1,0,none⟩),.slice GA gn gc,.slice MA mn mc,.slice FA fn fc,.int .i64 24,.bool ar]
 res:aq w S.heap.size 27 #[.slice none 0 0,.slice none 0 0,.slice none 0 0]
 ms:Sl w (λb=>S.heap.size+1+1+1<=b/\b<u) MA mn (M.map ey)
 gs:Sl w (λb=>S.heap.size+1+1+1<=b/\b<u) GA gn (G.map iz)
 vs:Sl w (λb=>S.heap.size+1+1+1<=b/\b<u) av gn ((G.map (·.1)).map D.s)
 fs:Gr (λb=>u<=b) u 136 3 w FA fn fc (F.map dr)
 mc:mn<=mc
 gc:gn<=gc
 nm:1<=mn/\mn<=4
 ok:m2 M
 ng:gn<=2
 yM:rU G
 nf:fn<=4
 I7:qM F
 ext:Ext S w
 hD:S.heap.size+1+1+1<=u/\u<=w.heap.size
section
variable {S w ab:World} {u ip:Nat} {A:Lp} {n c:Nat} {l:List Int} {ar:Bool} {MA:Lp} {mn mc:Nat} {M:List bG} {GA:Lp} {gn gc:Nat} {G:List (ByteArray×Int)} {av:Lp} {ba:Nat} {FA:Lp} {fn fc:Nat} {F:List aJ}
theorem w2.Jm(h:w2 S ip w A n c l ar MA mn mc M GA gn gc G av ba):yV S w.heap.size w A n c l ar MA mn mc M GA gn gc G av ba none 0 0 []:=by
 have hD:=h.hD;exact⟨h.src,h.blk,h.res,h.ms.mono λb hp=>⟨hp.1,by have:=hp.2;omega⟩,h.rows.one.sl (λb O hp=>⟨by have:=hp.1;omega,O⟩) (λb O aR=>⟨ad,O⟩),h.rows.two.sl (λb O hp=>⟨by have:=hp.1;omega,O⟩) (λb O aR=>⟨ad,O⟩),Gr.nil _ _ _ _ _,h.mc,h.rows.one.cap.1,h.nm,h.ok,h.ng,h.yM,ad,(λi f h=>by cases h),h.ext,ad,KD _⟩
theorem yV.next(h:yV S u w A n c l ar MA mn mc M GA gn gc G av ba FA fn fc F)(hs:cm ab (S.heap.size+1) A n c l)(O:Fr (λb=>b=S.heap.size+1) w ab):yV S u ab A n c l ar MA mn mc M GA gn gc G av ba FA fn fc F:=by
 have hD:=h.hD;have ap:∀b,(S.heap.size+1+1+1<=b/\b<u)->ab.heap[b]?=w.heap[b]?:=λb hp=>O.block b (aC hp.2) (aC hp.1);exact⟨hs,h.blk.on O ad,h.res.on O ad,h.ms.ak ap,h.gs.ak ap,h.vs.ak ap,h.fs.c8 O (λb O _=>⟨ad,ad⟩),h.mc,h.gc,h.nm,h.ok,h.ng,h.yM,h.nf,h.I7,Fr.low (M:=λb=>b=S.heap.size+1) ((h.ext.mono λ_ h=>h.elim).trans O) λk ap=>ad,hD.1,by have:=O.size;omega⟩
theorem yV.add(h:yV S u w A n c l ar MA mn mc M GA gn gc G av ba FA fn fc F){cR:Lp}{co:Nat}{f:aJ}(a2:Gr (λb=>u<=b) u 136 3 ab cR (fn+1) co (F.map dr++[dr f]))(J:Fr (λb=>(Value.slice FA fn fc).ownBlock=some b) w ab)
  (hn:fn+1<=4) (bY:qM (F++[f])):yV S u (ab.setCell ⟨S.heap.size+1+1,3,none⟩ (.slice cR (fn+1) co)) A n c l ar MA mn mc M GA gn gc G av ba cR (fn+1) co (F++[f]):=by
 have hD:=h.hD;have bn:∀b,(Value.slice FA fn fc).ownBlock=some b->u<=b:=λb O=>(h.fs.lt O).1;have az:Fr (λb=>b=S.heap.size+1+1) ab (ab.setCell ⟨S.heap.size+1+1,3,none⟩ (.slice cR (fn+1) co)):=(Fr.refl (λb=>b=S.heap.size+1+1) ab).setCell (.inl rfl) _;have hs:=J.size;have bN:=az.size;have ap:∀b,(S.heap.size+1+1+1<=b/\b<u)->(ab.setCell ⟨S.heap.size+1+1,3,none⟩ (.slice cR (fn+1) co)).heap[b]?=w.heap[b]?:=λb hp=>(az.block b (aC hp.2) (aC hp.1)).trans (J.block b (aC hp.2) λag=>by have:=bn b ag;have:=hp.2;omega);refine⟨(h.src.cO J λb O ag=>by have:=bn b ag;omega).cO az (λb O ag=>ad),(h.blk.on J λag=>by have:=bn _ ag;omega).aM 3 _,(h.res.on J λag=>by have:=bn _ ag;omega).on az ad,h.ms.ak ap,h.gs.ak ap,h.vs.ak ap,?_,h.mc,h.gc,h.nm,h.ok,h.ng,h.yM,hn,bY,?_,hD.1,ad⟩
 .rw[KK,KJ,Lb];exact a2.c8 az (λb O _=>⟨ad,ad⟩)
 .have ac:Ext S ab:=Fr.low (M:=λb=>(Value.slice FA fn fc).ownBlock=some b) ((h.ext.mono λ_ h=>h.elim).trans J) λk ap=>by have:=bn k ap;omega
  exact zl
end
def EJ(S:World)(gO:Value)(Q:Exit->Act->World->Prop)(K:Act->World->Prop):Prop:=∀(u:Nat) (A:Lp) (n c:Nat) (l:List Int) (ar:Bool) (MA:Lp) (mn mc:Nat) (M:List bG) (GA:Lp) (gn gc:Nat) (G:List (ByteArray×Int)) (av:Lp) (ba:Nat) (FA:Lp) (fn fc:Nat) (F:List aJ) {hr hs gJ gN u8 gK eO go gp cc bQ a4 u16 bR cq eR eS eT eU eV eW eY eZ e3 e6 e7 e8 e9 u32 fa fb fd fe ff fh fi fk fl fm fo fp fq fr fs ft fv fw fx fy fz fA fB fC fD fE fF fG fH fI fJ u64 fK fL fM fN fO fP fQ fR fS fT fU fV fW fX fY fZ f3 f4 f5 f6 f7 f8 f9 ga gb gd ge gf gg gh gi gj gk gl gm H I am aF aL aM aN aX a1 a8 bb bd bm bp bt bz bA bD bJ bV bY b1 b5 b8 b9 cb ce ch cj cl co cp cx cy cz cA cB cD cE cG cH cM cN cO cP cR cS cT cU cV cW cX cY cZ c4 c5 c6 c7 c8 c9 da db dc dd de df dg dh di dj dk dl dm dn dp dr dt du dv dw dx dy dA dC dD dE dF dG dI dJ dK dM dQ dR dS dT dV dW dX dY dZ d0 d1 d2 d3 d4 d5 d6 d7 d8 d9 ea eb ec ed ee ef eg eh ei ej ek el em en eo ep eq er es et eu ev ew ex ey ez eA eB eC eD eE eF eG eH eI eJ eL eM gt gu gv gw gx gy gz gA gB gC gD gE gF gH gI:Value} (w:World),1<=fn->yV S u w A n c l ar MA mn mc M GA gn gc G av ba FA fn fc F->
 Code.wp prog (wi 32) (Exit.then K Q) ⟨#[gO,hr,.pointer (some ⟨S.heap.size,0,none⟩),.pointer (some ⟨S.heap.size+1+1,0,none⟩),hs,gJ,gN,.slice av gn ba,u8,gK,eO,go,gp,cc,bQ,a4,u16,bR,cq,eR,eS,eT,eU,eV,eW,eY,eZ,e3,e6,e7,e8,e9,u32,fa,fb,fd,fe,ff,fh,fi,fk,fl,fm,fo,fp,fq,fr,fs,ft,fv,fw,fx,fy,fz,fA,fB,fC,fD,fE,fF,fG,fH,fI,fJ,u64,fK,fL,fM,fN,fO,fP,fQ,fR,fS,fT,fU,fV,fW,fX,fY,fZ,f3,f4,f5,f6,f7,f8,f9,ga,gb,gd,ge,gf,gg,gh,gi,gj,gk,gl,gm,H,I,am,aF,aL,aM,aN,aX,a1,a8,bb,bd,bm,bp,bt,bz,bA,bD,bJ,bV,bY,b1,b5,b8,b9,cb,ce,ch,cj,cl,co,cp,cx,cy,cz,cA,cB,cD,cE,cG,cH,cM,cN,cO,cP,cR,cS,cT,cU,cV,cW,cX,cY,cZ,c4,c5,c6,c7,c8,c9,da,db,dc,dd,de,df,dg,dh,di,dj,dk,dl,dm,dn,dp,dr,dt,du,dv,dw,dx,dy,dA,dC,dD,dE,dF,dG,dI,dJ,dK,dM,dQ,dR,dS,dT,dV,dW,dX,dY,dZ,d0,d1,d2,d3,d4,d5,d6,d7,d8,d9,ea,eb,ec,ed,ee,ef,eg,eh,ei,ej,ek,el,em,en,eo,ep,eq,er,es,et,eu,ev,ew,ex,ey,ez,eA,eB,eC,eD,eE,eF,eG,eH,eI,eJ,eL,eM,gt,gu,gv,gw,gx,gy,gz,gA,gB,gC,gD,gE,gF,gH,gI],[]⟩ w
theorem Dv(an:i<4)(h0:i≠0)(O:bv=48+(i:Int)):(⟨#[102]⟩++strOf [byteOf bv]:ByteArray)=jx i:=by
 subst O;have h:∀k:Fin 4,k.val≠0->(⟨#[102]⟩++strOf [byteOf (48+((k.val:Nat):Int))]:ByteArray)=jx k.val:=by decide
 exact h ⟨i,an⟩ h0
theorem D0(an:i<3)(O:IntKind.u8.wrap (IntKind.i64.wrap (48+(i:Int)))=bv):(⟨#[112]⟩++strOf [byteOf bv]:ByteArray)=tZ i:=by
 subst O;have h:∀k:Fin 3,(⟨#[112]⟩++strOf [byteOf (IntKind.u8.wrap (IntKind.i64.wrap (48+((k.val:Nat):Int))))]:ByteArray)=tZ k.val:=by decide
 exact h ⟨i,an⟩
end Go.Proofs.YtglbpimocmhojaaGreat

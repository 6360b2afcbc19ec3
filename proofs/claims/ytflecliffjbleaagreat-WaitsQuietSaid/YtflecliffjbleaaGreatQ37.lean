/- Part 37 of the proof. No condition of its own. -/
import Derived.Test.YtflecliffjbleaaGreatQ36
namespace Go.Proofs.YtflecliffjbleaaGreat
open Go.RowKit Go.Proofs.Tryz
set_option maxRecDepth 1000000
set_option maxHeartbeats 25600000
set_option linter.unusedVariables false
variable{G:List (ByteArray×Int)}{F:List aA}{M:List bF}{i:Nat}{p:Prop}{f:aA}
namespace Ct
theorem gA(h:p:=by
 refine cB ?_;generalize bD:World.setCell _ _ _=Y;have hd:wr.heap.size<=bF:=ab;obtain⟨bz,bA,bj⟩:=dR (M:=λb=>b=S.heap.size+1) [.string (⟨#[103]⟩++strOf [byteOf bv]),.int .i64 (IntKind.i64.wrap ((j:Int) - 2))] (by rfl) eJ ag hd bD;obtain⟨y,bH⟩:∃y:Int,y=IntKind.i64.wrap ((j:Int) - 2):=⟨_,rfl⟩
 rw[<-bH] at bz;rw[IntWalk.i64_in _ ab] at bH;rw[Dx ab aO.o] at bz;have F:=cb.next (av.cM bj λb O h=>ab) bA;have bg:-2<=y/\y<=2:=ab;have bP:=ah F bz;have cg:=ad bg;clear bD bz bA bj F bH bg av ag eJ bs a7 bS bd;obtain⟨a0,ap,aj⟩:=bP.1.blk.two;obtain⟨bs,a7,bS⟩:=bP.2.two;have m:∀b,(Value.slice GA i gc).ownBlock=some b->u<=b/\b<wr.heap.size:=λb O=>cb.rows.one.lt O;have aM:∀b,(Value.slice au i a8).ownBlock=some b->u<=b/\b<wr.heap.size:=λb O=>cb.rows.two.lt O;have b0:¬(Value.slice GA i gc).ownBlock=some (S.heap.size+1+1):=λh=>by have:=(m _ h).1;omega
 have bR:¬(Value.slice GA i gc).ownBlock=some bF:=λh=>by have:=(m _ h).2;omega
 have g4:u<=Y.heap.size:=bP.1.hD.2;have g5:wr.heap.size<=Y.heap.size:=by have:=bP.2.lt;omega
 have bl:=ah m aM;clear m aM;go_upto_region 18 with(fail);refine uP (λb=>(Value.slice GA i gc).ownBlock=some b) [13,17] (.free 0 (.free 1 (.free 2 (.free 3 (.free 4 (.held 5 (.held 6 (.free 9 (.free 10 (.held 11 (.pick [7,12] (λi=>bif i == 7 then .pick [8,12] (λi=>bif i == 8 then .pick [12] (λ_=>.pick [13] (λ_=>.free 14 (.free 15 (.free 16 (.pick [17] (λ_=>.free 18 (.stop))))))) else .pick [8] (λ_=>.pick [13] (λ_=>.free 14 (.free 15 (.free 16 (.pick [17] (λ_=>.free 18 (.stop)))))))) else .pick [7] (λ_=>.pick [8] (λ_=>.pick [13] (λ_=>.free 14 (.free 15 (.free 16 (.pick [17] (λ_=>.free 18 (.stop)))))))))))))))))))) ?_
 iterate 5 refine tf ?_
 iterate 2 refine oJ ?_
 iterate 2 refine tf ?_
 refine oJ ?_;clear a0 ap aj bs a7 bS;refine iL (P:=?KL) (ops:=?KR) (Q:=?KW) (R:=?KY) (tails:=?K1) (rest:=.pick [13] (λ_=>.free 14 (.free 15 (.free 16 (.pick [17] (λ_=>.free 18 (.stop))))))) (aa:=?KQ)
  (C:=λ(_:Nat) bE A2 bJ V=>True/\∃q1 cp,Ext Y q1/\Gr (λb=>u<=b/\(Value.slice au i a8).ownBlock≠some b) u 128 2 cp A2 (i+1) bJ (G.map ix++[ix (dL i,y)])/\Fr (λb=>(Value.slice GA i gc).ownBlock=some b) q1 cp/\dp q1 GA i gc A2 (i+1) bJ/\Ext cp V/\an V bE 9 #[.string (dL i)]) (λkey=>?Ku) ?Kt
 case Ku=>
  refine bt ?_ ?_
  ·
   refine fj ?_;generalize hV:World.drew (World.alloc _ _)=c3;have e1:=gX hV;have dD:an c3 Y.heap.size 128 #[.string (dL i),.int .i64 y]:=hV▸LM;clear hV;refine bt ?_ ?_
   ·
    refine aG rfl (λK hK=>?_) rfl;rw[if_pos (by rfl)];refine eX vR (.tmp 108) (.tmp 110) (by rfl) (bP.1.rows.aj e1).one dD (tk.2 rfl:(ix (dL i,y)).rep c3 _ _) (by rfl) (by rfl) (by rfl) ab ab (aC e1.size) ?_;intro A2 bJ aV b9 f1 o1 c1;refine ei hK (f1) ?_;clear hK K;refine ao ?_;refine fj ?_;have aE:True/\∃q1 cp,Ext Y q1/\Gr (λb=>u<=b/\(Value.slice au i a8).ownBlock≠some b) u 128 2 cp A2 (i+1) bJ (G.map ix++[ix (dL i,y)])/\Fr (λb=>(Value.slice GA i gc).ownBlock=some b) q1 cp/\dp q1 GA i gc A2 (i+1) bJ/\Ext cp (aV.alloc (.cells #[.string (dL i)] 9))/\an (aV.alloc (.cells #[.string (dL i)] 9)) aV.heap.size 9 #[.string (dL i)]:=⟨trivial,c3,aV,e1,b9,f1,o1,LL.alloc _,LM⟩
    clear b9 o1;revert aE;generalize aV.heap.size=bE;generalize Y.heap.size=eT;intro aE;exact key eT bE A2 bJ _ aE
   ·
    refine fj ?_;generalize hV:World.alloc _ _=J;have b7:an J c3.heap.size 9 #[.string (dL i)]:=hV▸LM;have aU:=by have:=dD.alloc (.cells #[.string (dL i)] 9);rw[hV] at this;exact this
    have e2:Ext Y J:=hV▸e1.alloc _;clear hV dD;refine ao ?_;refine aG rfl (λK hK=>?_) rfl;rw[if_pos (by rfl)];refine eX vR (.tmp 108) (.tmp 110) (by rfl) (bP.1.rows.aj e2).one aU (tk.2 rfl:(ix (dL i,y)).rep J _ _) (by rfl) (by rfl) (by rfl) ab ab (aC e2.size) ?_;intro A2 bJ aV b9 f1 o1 c1;refine ei hK (f1) ?_;clear hK K;have a6:¬(Value.slice GA i gc).ownBlock=some c3.heap.size:=λO=>by have:=(bl.1 _ O).2;have:=e1.size;omega
    have aE:True/\∃q1 cp,Ext Y q1/\Gr (λb=>u<=b/\(Value.slice au i a8).ownBlock≠some b) u 128 2 cp A2 (i+1) bJ (G.map ix++[ix (dL i,y)])/\Fr (λb=>(Value.slice GA i gc).ownBlock=some b) q1 cp/\dp q1 GA i gc A2 (i+1) bJ/\Ext cp aV/\an aV c3.heap.size 9 #[.string (dL i)]:=⟨trivial,J,aV,e2,b9,f1,o1,LL,b7.on f1 a6⟩
    clear b9 o1;revert aE;generalize c3.heap.size=bE;generalize Y.heap.size=eT;intro aE;exact key eT bE A2 bJ _ aE
  ·
   refine fj ?_;generalize hV:World.drew (World.alloc _ _)=c3;have b7:an c3 Y.heap.size 9 #[.string (dL i)]:=hV▸LM;have e1:=gX hV;clear hV;refine ao ?_;refine fj ?_;generalize hV:World.alloc _ _=J;have e2:Ext Y J:=hV▸e1.alloc _;have dD:=aT hV;have a4:an J Y.heap.size 9 #[.string (dL i)]:=hV▸b7.alloc _;clear hV;refine ao ?_;refine aG rfl (λK hK=>?_) rfl;rw[if_pos (by rfl)];refine eX vR (.tmp 108) (.tmp 110) (by rfl) (bP.1.rows.aj e2).one dD (tk.2 rfl:(ix (dL i,y)).rep J _ _) (by rfl) (by rfl) (by rfl) ab ab (aC e2.size) ?_;intro A2 bJ aV b9 f1 o1 c1;refine ei hK (f1) ?_;clear hK K;have a6:¬(Value.slice GA i gc).ownBlock=some Y.heap.size:=λO=>by have:=(bl.1 _ O).2;omega
   have aE:True/\∃q1 cp,Ext Y q1/\Gr (λb=>u<=b/\(Value.slice au i a8).ownBlock≠some b) u 128 2 cp A2 (i+1) bJ (G.map ix++[ix (dL i,y)])/\Fr (λb=>(Value.slice GA i gc).ownBlock=some b) q1 cp/\dp q1 GA i gc A2 (i+1) bJ/\Ext cp aV/\an aV Y.heap.size 9 #[.string (dL i)]:=⟨trivial,J,aV,e2,b9,f1,o1,LL,a4.on f1 a6⟩
   clear b9 o1;revert aE;generalize Y.heap.size=bE;generalize c3.heap.size=eT;intro aE;exact key eT bE A2 bJ _ aE
 case Kt=>
  rintro eT bE A2 bJ V ⟨_,aP,aV,e1,b9,f1,o1,e2,b7⟩;have s1:=e1.size;have s2:=f1.size;have ai:=e2.size;obtain⟨m,aM⟩:=bl.o;have L:=((bP.1.rows.aj e1).grow b9 f1 o1).aj e2;have bV:an V (S.heap.size+1+1) _ _:=((bP.1.blk.aj e1).on f1 b0).aj e2;have fV:¬(Value.slice au i a8).ownBlock=some (S.heap.size+1+1):=λh=>by have:=(aM _ h).1;omega
  refine ao ?_;refine cj rfl (λK hK=>?_) rfl;rw[if_pos (by rfl)];refine eX kB (.tmp 112) (.tmp 115) (by rfl) L.two b7 (uN.2 rfl:(D.s (dL i)).rep V _ _) (by rfl) (by rfl) (by rfl) ab ab ab ?_;intro dj fc cz g2 f2 fg c2;have z:=(L.swap.grow g2 f2 fg).swap;have bK:=bV.on f2 fV;have I:Fr (λb=>(Value.slice GA i gc).ownBlock=some b\/(Value.slice au i a8).ownBlock=some b) Y cz:=((((e1.mono λ_ h=>h.elim).trans (f1.mono λ_ h=>.inl h)).trans (e2.mono λ_ h=>h.elim)).trans (f2.mono λ_ h=>.inr h))
  have r:=ah z I;clear b9 f1 o1 e1 e2 b7 L bV g2 f2 fg c2 z I;obtain⟨a0,ap,aj⟩:=bK.two;clear bK;refine eL hK ?_;clear hK K
  iterate 3 refine tf ?_
  refine ao ?_;refine cj rfl (λK hK=>?_) rfl;go_simp;refine eL hK ?_;clear hK K;refine tf ?_;refine cB ?_;generalize hX:World.setCell _ _ _=gR;have eU:lG u 128 2 9 1 cz A2 (i+1) bJ ((G++[(dL i,y)]).map ix) dj (i+1) fc (((G++[(dL i,y)]).map (·.1)).map D.s):=by
   simp only[Li,Lh,Ly];exact r.1
  have f:=bP.1.add eU r.2 ab (cb.zp.snoc b8 cg.1 cg.2);rw[hX] at f;have bx:=ad f;clear hX f eU a0 ap aj;go_wp2_with(fail);go_roundw
  case rel=>exact⟨i+1,A2,bJ,G++[(dL i,y)],dj,fc,by go_num,rfl,ab,bx.o⟩
  case measure=>exact az
 ):p:=h
theorem Ag(h:p:=by
 generalize hc:IntKind.u8.wrap (IntKind.i64.wrap (48+(i:Int)))=bv;obtain⟨bT,hO⟩:∃bT,bT=wr.heap.size:=⟨_,rfl⟩
 have aO:=ad hc;clear hc;have ho:(strOf [byteOf bv]).size=1:=aH _;have U:=ah cb.src (Fr.refl (λb=>b=S.heap.size+1) wr);refine iK (P:=?pw) (ops:=?H2) (Q:=?H4) (R:=?H6) (tails:=?H9) (rest:=.pick [14] (λ_=>.stop)) (aa:=?H0)
  (C:=λ(aZ bF j:Nat) dG=>cc dG (S.heap.size+1) A n c l/\Fr (λb=>b=S.heap.size+1) wr dG/\an dG bF 128 #[.string ⟨#[]⟩,.int .i64 0]/\bT<=bF/\j<5) (λkey=>?yV) ?yO
 case yV=>
  refine qX ?_ ?_ ?_
  ·
   refine fj ?_;refine bm (λV=>Ext wr V/\an V wr.heap.size 5 #[.int .u8 bv]) ⟨(LL.alloc _).drew,LM⟩ (λr1 hV=>?_);have k:=ah (U.1.cM hV.1 λ_ _ h=>h) (U.2.trans (hV.1.mono λ_ h=>h.elim));have gU:wr.heap.size<=wr.heap.size:=U.2.size;have ae:=ad hV.2;clear hV;obtain⟨e0,bk,a5⟩:=ae.two;refine b3 (v:=?_) rfl (by rfl) (λV hV=>?_) ?_;rotate_left
   .have bU:=fk V (wr.heap.size) bv ((hV.cell a5 ab).trans (e0 0))
    (go_simp<;>with_reducible rfl)
   try simp only[PU]
   clear e0 bk a5;refine tf ?_;refine bt ?_ ?_
   ·
    refine aG rfl (λK hK=>?_) rfl;go_simp;refine(aX _ (S.heap.size+1) A n c l 5 (k.1.cM (M:=λ_=>False) LL (λ_ _ h=>h)) ab ab).mono ?_;rintro e gG ⟨gK,rfl,aW,O,h,he⟩;obtain⟨j,rfl⟩:=Lg aW;have bd:j<5:=ab;have ag:Fr (λb=>b=S.heap.size+1) r1 gG:=he.fr;have aA:=ah h (k.2.trans ag);have b4:=ad (ae.on ag ab);refine ei hK (he.fr) ?_;clear hK K;clear h he ag aW O
    iterate 2 refine tf ?_
    refine ao ?_;refine fj ?_;refine bm (λV=>Ext gG V/\an V gG.heap.size 128 #[.string ⟨#[]⟩,.int .i64 0]) ⟨LL.alloc _,LM⟩ (λgP hV=>?_);have aQ:=ah (aA.1.cM hV.1 λ_ _ h=>h) (aA.2.trans (hV.1.mono λ_ h=>h.elim));have gV:wr.heap.size<=gG.heap.size:=aA.2.size;have ck:=ad hV.2;have gQ:=ad (b4.aj hV.1);clear hV;have aE:=And.intro aQ.1 (And.intro aQ.2 (And.intro ck.o (And.intro (show bT<=gG.heap.size by omega) bd)));revert aE;generalize wr.heap.size=aZ;generalize gG.heap.size=bF;intro aE;exact key aZ bF j _ aE
   ·
    refine fj ?_;refine bm (λV=>Ext r1 V/\an V r1.heap.size 128 #[.string ⟨#[]⟩,.int .i64 0]) ⟨LL.alloc _,LM⟩ (λf0 hV=>?_);have aR:=ah (k.1.cM hV.1 λ_ _ h=>h) (k.2.trans (hV.1.mono λ_ h=>h.elim));have gZ:wr.heap.size<=r1.heap.size:=k.2.size;have cn:=ad hV.2;have cf:=ad (ae.aj hV.1);clear hV;refine ao ?_;refine aG rfl (λK hK=>?_) rfl;go_simp;refine(aX _ (S.heap.size+1) A n c l 5 (aR.1.cM (M:=λ_=>False) LL (λ_ _ h=>h)) ab ab).mono ?_;rintro e gL ⟨gK,rfl,aW,O,h,he⟩;obtain⟨j,rfl⟩:=Lg aW;have bd:j<5:=ab;have ag:Fr (λb=>b=S.heap.size+1) f0 gL:=he.fr;have ba:=ah h (aR.2.trans ag);have gS:=ad (cf.on ag ab);have ct:=ad (cn.on ag ab);refine ei hK (he.fr) ?_;clear hK K;clear h he ag aW O
    iterate 2 refine tf ?_
    have aE:=And.intro ba.1 (And.intro ba.2 (And.intro ct.o (And.intro (show bT<=r1.heap.size by omega) bd)));revert aE;generalize wr.heap.size=aZ;generalize r1.heap.size=bF;intro aE;exact key aZ bF j _ aE
  ·
   refine aG rfl (λK hK=>?_) rfl;go_simp;refine(aX _ (S.heap.size+1) A n c l 5 (U.1.cM (M:=λ_=>False) (LL.drew) (λ_ _ h=>h)) ab ab).mono ?_;rintro e dq ⟨gK,rfl,aW,O,h,he⟩;obtain⟨j,rfl⟩:=Lg aW;have bd:j<5:=ab;have ag:Fr (λb=>b=S.heap.size+1) wr dq:=Fr.aQ he.fr;have g:=ah h (U.2.trans ag);refine ei hK (he.fr) ?_;clear hK K;clear h he ag aW O;refine tf ?_;refine bt ?_ ?_
   ·
    refine fj ?_;refine bm (λV=>Ext dq V/\an V dq.heap.size 5 #[.int .u8 bv]) ⟨LL.alloc _,LM⟩ (λbI hV=>?_);have aB:=ah (g.1.cM hV.1 λ_ _ h=>h) (g.2.trans (hV.1.mono λ_ h=>h.elim));have g0:wr.heap.size<=dq.heap.size:=g.2.size;have aN:=ad hV.2;clear hV;obtain⟨e0,bk,a5⟩:=aN.two;refine b3 (v:=?_) rfl (by rfl) (λV hV=>?_) ?_;rotate_left
    .have bU:=fk V (dq.heap.size) bv ((hV.cell a5 ab).trans (e0 0))
     (go_simp<;>with_reducible rfl)
    try simp only[PU]
    clear e0 bk a5
    iterate 2 refine tf ?_
    refine ao ?_;refine fj ?_;refine bm (λV=>Ext bI V/\an V bI.heap.size 128 #[.string ⟨#[]⟩,.int .i64 0]) ⟨LL.alloc _,LM⟩ (λg8 hV=>?_);have bf:=ah (aB.1.cM hV.1 λ_ _ h=>h) (aB.2.trans (hV.1.mono λ_ h=>h.elim));have g1:wr.heap.size<=bI.heap.size:=aB.2.size;have cJ:=ad hV.2;have gT:=ad (aN.aj hV.1);clear hV;have aE:=And.intro bf.1 (And.intro bf.2 (And.intro cJ.o (And.intro (show bT<=bI.heap.size by omega) bd)));revert aE;generalize dq.heap.size=aZ;generalize bI.heap.size=bF;intro aE;exact key aZ bF j _ aE
   ·
    refine fj ?_;refine bm (λV=>Ext dq V/\an V dq.heap.size 128 #[.string ⟨#[]⟩,.int .i64 0]) ⟨LL.alloc _,LM⟩ (λbY hV=>?_);have aD:=ah (g.1.cM hV.1 λ_ _ h=>h) (g.2.trans (hV.1.mono λ_ h=>h.elim));have g3:wr.heap.size<=dq.heap.size:=g.2.size;have c0:=ad hV.2;clear hV;refine ao ?_;refine fj ?_;refine bm (λV=>Ext bY V/\an V bY.heap.size 5 #[.int .u8 bv]) ⟨LL.alloc _,LM⟩ (λg6 hV=>?_);have al:=ah (aD.1.cM hV.1 λ_ _ h=>h) (aD.2.trans (hV.1.mono λ_ h=>h.elim));have gm:wr.heap.size<=bY.heap.size:=aD.2.size;have bh:=ad hV.2;have bn:=ad (c0.aj hV.1);clear hV;obtain⟨e0,bk,a5⟩:=bh.two;refine b3 (v:=?_) rfl (by rfl) (λV hV=>?_) ?_;rotate_left
    .have bU:=fk V (bY.heap.size) bv ((hV.cell a5 ab).trans (e0 0))
     (go_simp<;>with_reducible rfl)
    try simp only[PU]
    clear e0 bk a5
    iterate 2 refine tf ?_
    have aE:=And.intro al.1 (And.intro al.2 (And.intro bn.o (And.intro (show bT<=dq.heap.size by omega) bd)));revert aE;generalize bY.heap.size=aZ;generalize dq.heap.size=bF;intro aE;exact key aZ bF j _ aE
  ·
   refine fj ?_;refine bm (λV=>Ext wr V/\an V wr.heap.size 128 #[.string ⟨#[]⟩,.int .i64 0]) ⟨(LL.alloc _).drew,LM⟩ (λX hV=>?_);have d:=ah (U.1.cM hV.1 λ_ _ h=>h) (U.2.trans (hV.1.mono λ_ h=>h.elim));have gn:wr.heap.size<=wr.heap.size:=U.2.size;have aL:=ad hV.2;clear hV;refine bt ?_ ?_
   ·
    refine fj ?_;refine bm (λV=>Ext X V/\an V X.heap.size 5 #[.int .u8 bv]) ⟨LL.alloc _,LM⟩ (λgN hV=>?_);have aq:=ah (d.1.cM hV.1 λ_ _ h=>h) (d.2.trans (hV.1.mono λ_ h=>h.elim));have gH:wr.heap.size<=X.heap.size:=d.2.size;have af:=ad hV.2;have bp:=ad (aL.aj hV.1);clear hV;obtain⟨e0,bk,a5⟩:=af.two;refine b3 (v:=?_) rfl (by rfl) (λV hV=>?_) ?_;rotate_left
    .have bU:=fk V (X.heap.size) bv ((hV.cell a5 ab).trans (e0 0))
     (go_simp<;>with_reducible rfl)
    try simp only[PU]
    clear e0 bk a5;refine tf ?_;refine ao ?_;refine aG rfl (λK hK=>?_) rfl;go_simp;refine(aX _ (S.heap.size+1) A n c l 5 (aq.1.cM (M:=λ_=>False) LL (λ_ _ h=>h)) ab ab).mono ?_;rintro e gO ⟨gK,rfl,aW,O,h,he⟩;obtain⟨j,rfl⟩:=Lg aW;have bd:j<5:=ab;have ag:Fr (λb=>b=S.heap.size+1) gN gO:=he.fr;have ax:=ah h (aq.2.trans ag);have fn:=ad (af.on ag ab);have bu:=ad (bp.on ag ab);refine ei hK (he.fr) ?_;clear hK K;clear h he ag aW O
    iterate 2 refine tf ?_
    have aE:=And.intro ax.1 (And.intro ax.2 (And.intro bu.o (And.intro (show bT<=wr.heap.size by omega) bd)));revert aE;generalize X.heap.size=aZ;exact xF
   ·
    refine aG rfl (λK hK=>?_) rfl;go_simp;refine(aX _ (S.heap.size+1) A n c l 5 (d.1.cM (M:=λ_=>False) LL (λ_ _ h=>h)) ab ab).mono ?_;rintro e Z ⟨gK,rfl,aW,O,h,he⟩;obtain⟨j,rfl⟩:=Lg aW;have bd:j<5:=ab;have ag:Fr (λb=>b=S.heap.size+1) X Z:=he.fr;have E:=ah h (d.2.trans ag);have bB:=ad (aL.on ag ab);refine ei hK (he.fr) ?_;clear hK K;clear h he ag aW O;refine tf ?_;refine ao ?_;refine fj ?_;refine bm (λV=>Ext Z V/\an V Z.heap.size 5 #[.int .u8 bv]) ⟨LL.alloc _,LM⟩ (λg7 hV=>?_);have ay:=ah (E.1.cM hV.1 λ_ _ h=>h) (E.2.trans (hV.1.mono λ_ h=>h.elim));have gI:wr.heap.size<=Z.heap.size:=E.2.size;have bi:=ad hV.2;have bG:=ad (bB.aj hV.1);clear hV;obtain⟨e0,bk,a5⟩:=bi.two;refine b3 (v:=?_) rfl (by rfl) (λV hV=>?_) ?_;rotate_left
    .have bU:=fk V (Z.heap.size) bv ((hV.cell a5 ab).trans (e0 0))
     (go_simp<;>with_reducible rfl)
    try simp only[PU]
    clear e0 bk a5
    iterate 2 refine tf ?_
    have aE:=And.intro ay.1 (And.intro ay.2 (And.intro bG.o (And.intro (show bT<=wr.heap.size by omega) bd)));revert aE;generalize Z.heap.size=aZ;exact xF
 case yO=>
  exact Bh
 ):p:=h
end Ct
open Ct in
theorem JF(S:World)(gM:Value)(s:∀K,(∀a ac,Code.wp prog (nM 19) (bodyPost prog Tryz.f56 (kj S)) a ac->K a ac)->EP S gM (bodyPost prog Tryz.f56 (kj S)) K)
  (K:Act->World->Prop) (hK:∀a ac,Code.wp prog (nM 13) (bodyPost prog Tryz.f56 (kj S)) a ac->K a ac):EO S gM (bodyPost prog Tryz.f56 (kj S)) K:=by
 unfold EO;intro A n c l ar MA mn mc M hr hs gD gJ o u8 gF eK br gl ch aK a1 u16 bo bM eN eO eP eQ eR eS eV eW eY eZ e3 e4 e5 u32 e6 e7 e8 e9 fa fb fd fe ff fh fi fl fm fo fp fq fr fs ft fu fv fw fx fy fz fA fB fC fD fE fF u64 fG fH fI fJ fK fL fM fN fO fP fQ fR fS fT fU fX fY fZ f3 f4 f5 f6 f7 f8 f9 ga gb gd ge gf gg gh gi gj gk H am aF aI aJ aS a3 bb be bq bw bC bN bO bW bX b1 b2 b5 b6 ca ci cl cm co cq cr cu cv cw cx cA cC cD cE cF cG cH cI cK cL cM cN cO cP cQ cR cS cT cU cV cW cX cY cZ c4 c5 c6 c7 c8 c9 da db dc dd de df dg dh di dk dl dm dn dr ds dt du dv dw dx dy dz dA dB dC dE dF dH dI dJ dK dM dN dO dP dQ dS dT dU dV dW dX dY dZ d0 d1 d2 d3 d4 d5 d6 d7 d8 d9 ea eb ec ed ee ef eg eh ej ek el em en eo ep eq er es et eu ev ew ex ey ez eA eB eC eD eE eF eG eH eI bQ go gp gq gr gs gt gu gv gw gx gy gz gB gC w eM aY;have a9:=ad (aY.JF eM);have gW:=ad s;obtain⟨u,ha⟩:∃u,u=w.heap.size:=⟨_,rfl⟩
 rw[<-ha] at a9;clear aY s ha;conv=>arg 2;whnf
 conv at hK=>enter [a,w,1,2];whnf
 obtain⟨a0,ap,aj⟩:=a9.blk.two;go_wp2_with(fail);refine(aX w (S.heap.size+1) A n c l 3 a9.src ab ab).mono ?_;rintro e aP ⟨cd,rfl,a2,bL,h,he⟩;obtain⟨N,rfl⟩:=Lg a2;have hh:N<3:=ab;have gY:=ad (a9.next h he.fr);clear h he a0 ap aj a9 a2 bL;go_wp2_with(fail);go_loopw [7,8] (λfW ce wr=>∃(i:Nat) (GA:LP) (gc:Nat) (G:List (ByteArray×Int)) (au:LP) (a8:Nat),ce=.int .i64 i/\fW=.slice au i a8/\i<=N/\xp S u wr A n c l ar MA mn mc M GA i gc G au a8) (λ_ ce _=>N - (intOf ce).toNat)
 case atStart=>exact⟨0,none,0,[],none,0,rfl,rfl,ab,gY.o⟩
 case round=>
  obtain⟨i,GA,gc,G,au,a8,rfl,rfl,ak,aY⟩:=hrel;clear gY;have cb:=ad aY;obtain⟨a0,ap,aj⟩:=aY.blk.two;have b8:G.length=i:=by have:=aY.rows.one.len;simpa using this
  have hD:=aY.hD;clear aY;by_cases aw:i<N
  .have T:(i:Int)<(N:Int):=ab;have bc:i<=1:=ab;have cy:¬S.heap.size+1+1=S.heap.size+1:=ab;have bZ:S.heap.size+1+1<wr.heap.size:=cb.blk.lt;go_upto_region 17 with(fail);exact Af
  .have T:¬(i:Int)<(N:Int):=ab;go_upto_region 19 with(fail);have bR:=gW.o _ (by assumption);unfold EP at bR;exact bR u A n c l ar MA mn mc M GA i gc G au a8 wr cb.o
namespace Cu
theorem gA(h:p:=by
 refine cB ?_;generalize bD:World.setCell _ _ _=hM;have hd:wr.heap.size<=bF:=ab;obtain⟨bz,bA,bj⟩:=dR (M:=λb=>b=S.heap.size+1) [.string ((⟨#[112]⟩:ByteArray)++strOf [byteOf bv]),.bool _] (by rfl) eJ ag hd bD;obtain⟨hp,bz⟩:∃hp,an hM bF 173 #[.string ((⟨#[112]⟩:ByteArray)++strOf [byteOf bv]),.bool hp]:=⟨_,bz⟩
 rw[DW ab aO.o] at bz;have iy:=cb.blk.lt;have iq:=b0.2.2.1.lt;have bi:=dq (av.cM bj λb O h=>ab) (b0.2.1.trans bA) (b0.2.2.1.on bA ab) (b0.2.2.2.cS bA (λb O _=>⟨λh=>h,ab⟩)) bz;have b4:a6.heap.size+1+1<=hM.heap.size:=by have:=bA.size;omega
 clear bD bz bA bj av ag eJ bs a7 bS;obtain⟨f0,cJ,dD⟩:=bi.2.2.1.two;obtain⟨bs,a7,bS⟩:=bi.2.2.2.2.two;go_wp2_with(at_builtin;refine bI CZ rfl (.tmp 167) (.tmp 169) rfl bi.2.2.2.1 (tp.2 rfl:(ct (uB m,hp)).rep hM _ _) rfl rfl rfl ab ab b4 ?_;intro ip hT hW hQ c2 h5 h4;have gm:=bi.2.2.1.on c2 (λO=>by have:=(bi.2.2.2.1.lt O).1;omega);have gV:=ah hQ c2;clear f0 cJ dD hQ c2 h5 h4 bs a7 bS;obtain⟨f0,cJ,dD⟩:=gm.two;clear gm);generalize hX:World.setCell _ _ _=hU;have bf:∀b,(Value.slice PA pn pc).ownBlock=some b->a6.heap.size+1+1<=b:=λb O=>(bi.2.2.2.1.lt O).1;have e1:=dj hX;have cz:an hU (a6.heap.size+1) 137 #[.string (jD i),.slice ip (pn+1) hT,.slice none 0 0]:=hX▸(bi.2.2.1.on gV.2 (λO=>by have:=bf _ O;omega)).aD 1 _;have gG:=(bi.1.cM gV.2 λb O h=>by have:=bf b h;omega).cM e1 λb O h=>ab;have L:Fr (λb=>b=S.heap.size+1) a6 hU:=(bi.2.1.eI (gV.2.below bi.2.1.size λk ai h=>by have:=bf k h;omega)).eI (e1.below (pF bi.2.1.size gV.2.size) λk ai h=>ab);have hi:=gV.1.cS e1 λb O _=>⟨λh=>h,ab⟩
 have hg:=bG gG L cz hi;clear hX e1 cz gG L hi f0 cJ dD bf;obtain⟨fV,aR⟩:∃fV,m=fV+1:=⟨m - 1,ab⟩
 have b9:(m:Int) - 1=((fV:Nat):Int):=ab;go_roundw
 case rel=>
  refine⟨fV,ip,pn+1,hT,ps++[(uB m,hp)],by first|(rw[b9])|(congr 1)|go_num,ab,ab,λh=>ab,λh=>?_,hg.1,hg.2.1,hg.2.2.1,by rw[Li];exact hg.2.2.2⟩;have ae:=gH.2 h;rw[aR] at ae;rw[aR,<-ae];simp[eT]
 case measure=>exact az
 ):p:=h
theorem Ag(h:p:=by
 generalize hc:IntKind.u8.wrap (IntKind.i64.wrap (48+(m:Int)))=bv;obtain⟨bT,hO⟩:∃bT,bT=wr.heap.size:=⟨_,rfl⟩
 have aO:=ad hc;clear hc;have ho:(strOf [byteOf bv]).size=1:=aH _;have U:=ah b0.1 (Fr.refl (λb=>b=S.heap.size+1) wr);refine iK (P:=?_) (ops:=?_) (Q:=?_) (R:=?_) (tails:=?_) (rest:=.pick [14] (λ_=>.stop)) (aa:=?_)
  (C:=λ(aZ bF j:Nat) dG=>cc dG (S.heap.size+1) A n c l/\Fr (λb=>b=S.heap.size+1) wr dG/\an dG bF 173 #[.string ⟨#[]⟩,.bool false]/\bT<=bF/\j<3) (λkey=>?_) ?_
 rotate_left 6
 ·
  refine qX ?_ ?_ ?_
  ·
   refine fj ?_;refine bm (λV=>Ext wr V/\an V wr.heap.size 5 #[.int .u8 bv]) ⟨(LL.alloc _).drew,LM⟩ (λcg hV=>?_);have aV:=ah (U.1.cM hV.1 λ_ _ h=>h) (U.2.trans (hV.1.mono λ_ h=>h.elim));have h6:wr.heap.size<=wr.heap.size:=U.2.size;have bE:=ad hV.2;clear hV;obtain⟨e0,bk,a5⟩:=bE.two;refine b3 (v:=?_) rfl (by rfl) (λV hV=>?_) ?_;rotate_left
   .have bU:=fk V (wr.heap.size) bv ((hV.cell a5 ab).trans (e0 0))
    (go_simp<;>with_reducible rfl)
   try simp only[PU]
   clear e0 bk a5;refine tf ?_;refine bt ?_ ?_
   ·
    refine aG rfl (λK hK=>?_) rfl;go_simp;refine(aX _ (S.heap.size+1) A n c l 3 (aV.1.cM (M:=λ_=>False) LL (λ_ _ h=>h)) ab ab).mono ?_;rintro e c1 ⟨gK,rfl,aW,O,h,he⟩;obtain⟨j,rfl⟩:=Lg aW;have bd:j<3:=ab;have ag:Fr (λb=>b=S.heap.size+1) cg c1:=he.fr;have bP:=ah h (aV.2.trans ag);have ht:=ad (bE.on ag ab);refine ei hK (he.fr) ?_;clear hK K;clear h he ag aW O
    iterate 2 refine tf ?_
    refine ao ?_;refine fj ?_;refine bm (λV=>Ext c1 V/\an V c1.heap.size 173 #[.string ⟨#[]⟩,.bool false]) ⟨LL.alloc _,LM⟩ (λiz hV=>?_);have gZ:=ah (bP.1.cM hV.1 λ_ _ h=>h) (bP.2.trans (hV.1.mono λ_ h=>h.elim));have h7:wr.heap.size<=c1.heap.size:=bP.2.size;have hy:=ad hV.2;have hZ:=ad (ht.aj hV.1);clear hV;have aE:=And.intro gZ.1 (And.intro gZ.2 (And.intro hy.o (And.intro (show bT<=c1.heap.size by omega) bd)));revert aE;generalize wr.heap.size=aZ;generalize c1.heap.size=bF;intro aE;exact key aZ bF j _ aE
   ·
    refine fj ?_;refine bm (λV=>Ext cg V/\an V cg.heap.size 173 #[.string ⟨#[]⟩,.bool false]) ⟨LL.alloc _,LM⟩ (λii hV=>?_);have g0:=ah (aV.1.cM hV.1 λ_ _ h=>h) (aV.2.trans (hV.1.mono λ_ h=>h.elim));have h8:wr.heap.size<=cg.heap.size:=aV.2.size;have hz:=ad hV.2;have hu:=ad (bE.aj hV.1);clear hV;refine ao ?_;refine aG rfl (λK hK=>?_) rfl;go_simp;refine(aX _ (S.heap.size+1) A n c l 3 (g0.1.cM (M:=λ_=>False) LL (λ_ _ h=>h)) ab ab).mono ?_;rintro e ij ⟨gK,rfl,aW,O,h,he⟩;obtain⟨j,rfl⟩:=Lg aW;have bd:j<3:=ab;have ag:Fr (λb=>b=S.heap.size+1) ii ij:=he.fr;have g1:=ah h (g0.2.trans ag);have h0:=ad (hu.on ag ab);have hA:=ad (hz.on ag ab);refine ei hK (he.fr) ?_;clear hK K;clear h he ag aW O
    iterate 2 refine tf ?_
    have aE:=And.intro g1.1 (And.intro g1.2 (And.intro hA.o (And.intro (show bT<=cg.heap.size by omega) bd)));revert aE;generalize wr.heap.size=aZ;generalize cg.heap.size=bF;intro aE;exact key aZ bF j _ aE
  ·
   refine aG rfl (λK hK=>?_) rfl;go_simp;refine(aX _ (S.heap.size+1) A n c l 3 (U.1.cM (M:=λ_=>False) (LL.drew) (λ_ _ h=>h)) ab ab).mono ?_;rintro e aT ⟨gK,rfl,aW,O,h,he⟩;obtain⟨j,rfl⟩:=Lg aW;have bd:j<3:=ab;have ag:Fr (λb=>b=S.heap.size+1) wr aT:=Fr.aQ he.fr;have al:=ah h (U.2.trans ag);refine ei hK (he.fr) ?_;clear hK K;clear h he ag aW O;refine tf ?_;refine bt ?_ ?_
   ·
    refine fj ?_;refine bm (λV=>Ext aT V/\an V aT.heap.size 5 #[.int .u8 bv]) ⟨LL.alloc _,LM⟩ (λgP hV=>?_);have bY:=ah (al.1.cM hV.1 λ_ _ h=>h) (al.2.trans (hV.1.mono λ_ h=>h.elim));have h9:wr.heap.size<=aT.heap.size:=al.2.size;have gS:=ad hV.2;clear hV;obtain⟨e0,bk,a5⟩:=gS.two;refine b3 (v:=?_) rfl (by rfl) (λV hV=>?_) ?_;rotate_left
    .have bU:=fk V (aT.heap.size) bv ((hV.cell a5 ab).trans (e0 0))
     (go_simp<;>with_reducible rfl)
    try simp only[PU]
    clear e0 bk a5
    iterate 2 refine tf ?_
    refine ao ?_;refine fj ?_;refine bm (λV=>Ext gP V/\an V gP.heap.size 173 #[.string ⟨#[]⟩,.bool false]) ⟨LL.alloc _,LM⟩ (λiA hV=>?_);have g2:=ah (bY.1.cM hV.1 λ_ _ h=>h) (bY.2.trans (hV.1.mono λ_ h=>h.elim));have ia:wr.heap.size<=gP.heap.size:=bY.2.size;have hB:=ad hV.2;have h1:=ad (gS.aj hV.1);clear hV;have aE:=And.intro g2.1 (And.intro g2.2 (And.intro hB.o (And.intro (show bT<=gP.heap.size by omega) bd)));revert aE;generalize aT.heap.size=aZ;generalize gP.heap.size=bF;intro aE;exact key aZ bF j _ aE
   ·
    refine fj ?_;refine bm (λV=>Ext aT V/\an V aT.heap.size 173 #[.string ⟨#[]⟩,.bool false]) ⟨LL.alloc _,LM⟩ (λgQ hV=>?_);have b7:=ah (al.1.cM hV.1 λ_ _ h=>h) (al.2.trans (hV.1.mono λ_ h=>h.elim));have ib:wr.heap.size<=aT.heap.size:=al.2.size;have hC:=ad hV.2;clear hV;refine ao ?_;refine fj ?_;refine bm (λV=>Ext gQ V/\an V gQ.heap.size 5 #[.int .u8 bv]) ⟨LL.alloc _,LM⟩ (λiB hV=>?_);have g3:=ah (b7.1.cM hV.1 λ_ _ h=>h) (b7.2.trans (hV.1.mono λ_ h=>h.elim));have ic:wr.heap.size<=gQ.heap.size:=b7.2.size;have hv:=ad hV.2;have hE:=ad (hC.aj hV.1);clear hV;obtain⟨e0,bk,a5⟩:=hv.two;refine b3 (v:=?_) rfl (by rfl) (λV hV=>?_) ?_;rotate_left
    .have bU:=fk V (gQ.heap.size) bv ((hV.cell a5 ab).trans (e0 0))
     (go_simp<;>with_reducible rfl)
    try simp only[PU]
    clear e0 bk a5
    iterate 2 refine tf ?_
    have aE:=And.intro g3.1 (And.intro g3.2 (And.intro hE.o (And.intro (show bT<=aT.heap.size by omega) bd)));revert aE;generalize gQ.heap.size=aZ;generalize aT.heap.size=bF;intro aE;exact key aZ bF j _ aE
  ·
   refine fj ?_;refine bm (λV=>Ext wr V/\an V wr.heap.size 173 #[.string ⟨#[]⟩,.bool false]) ⟨(LL.alloc _).drew,LM⟩ (λc3 hV=>?_);have bg:=ah (U.1.cM hV.1 λ_ _ h=>h) (U.2.trans (hV.1.mono λ_ h=>h.elim));have ie:wr.heap.size<=wr.heap.size:=U.2.size;have g7:=ad hV.2;clear hV;refine bt ?_ ?_
   ·
    refine fj ?_;refine bm (λV=>Ext c3 V/\an V c3.heap.size 5 #[.int .u8 bv]) ⟨LL.alloc _,LM⟩ (λik hV=>?_);have g4:=ah (bg.1.cM hV.1 λ_ _ h=>h) (bg.2.trans (hV.1.mono λ_ h=>h.elim));have ig:wr.heap.size<=c3.heap.size:=bg.2.size;have gT:=ad hV.2;have hG:=ad (g7.aj hV.1);clear hV;obtain⟨e0,bk,a5⟩:=gT.two;refine b3 (v:=?_) rfl (by rfl) (λV hV=>?_) ?_;rotate_left
    .have bU:=fk V (c3.heap.size) bv ((hV.cell a5 ab).trans (e0 0))
     (go_simp<;>with_reducible rfl)
    try simp only[PU]
    clear e0 bk a5;refine tf ?_;refine ao ?_;refine aG rfl (λK hK=>?_) rfl;go_simp;refine(aX _ (S.heap.size+1) A n c l 3 (g4.1.cM (M:=λ_=>False) LL (λ_ _ h=>h)) ab ab).mono ?_;rintro e il ⟨gK,rfl,aW,O,h,he⟩;obtain⟨j,rfl⟩:=Lg aW;have bd:j<3:=ab;have ag:Fr (λb=>b=S.heap.size+1) ik il:=he.fr;have g5:=ah h (g4.2.trans ag);have h2:=ad (gT.on ag ab);have hH:=ad (hG.on ag ab);refine ei hK (he.fr) ?_;clear hK K;clear h he ag aW O
    iterate 2 refine tf ?_
    have aE:=And.intro g5.1 (And.intro g5.2 (And.intro hH.o (And.intro (show bT<=wr.heap.size by omega) bd)));revert aE;generalize c3.heap.size=aZ;exact xF
   ·
    refine aG rfl (λK hK=>?_) rfl;go_simp;refine(aX _ (S.heap.size+1) A n c l 3 (bg.1.cM (M:=λ_=>False) LL (λ_ _ h=>h)) ab ab).mono ?_;rintro e eM ⟨gK,rfl,aW,O,h,he⟩;obtain⟨j,rfl⟩:=Lg aW;have bd:j<3:=ab;have ag:Fr (λb=>b=S.heap.size+1) c3 eM:=he.fr;have b8:=ah h (bg.2.trans ag);have hJ:=ad (g7.on ag ab);refine ei hK (he.fr) ?_;clear hK K;clear h he ag aW O;refine tf ?_;refine ao ?_;refine fj ?_;refine bm (λV=>Ext eM V/\an V eM.heap.size 5 #[.int .u8 bv]) ⟨LL.alloc _,LM⟩ (λiC hV=>?_);have g6:=ah (b8.1.cM hV.1 λ_ _ h=>h) (b8.2.trans (hV.1.mono λ_ h=>h.elim));have ih:wr.heap.size<=eM.heap.size:=b8.2.size;have hw:=ad hV.2;have hL:=ad (hJ.aj hV.1);clear hV;obtain⟨e0,bk,a5⟩:=hw.two;refine b3 (v:=?_) rfl (by rfl) (λV hV=>?_) ?_;rotate_left
    .have bU:=fk V (eM.heap.size) bv ((hV.cell a5 ab).trans (e0 0))
     (go_simp<;>with_reducible rfl)
    try simp only[PU]
    clear e0 bk a5
    iterate 2 refine tf ?_
    have aE:=And.intro g6.1 (And.intro g6.2 (And.intro hL.o (And.intro (show bT<=wr.heap.size by omega) bd)));revert aE;generalize eM.heap.size=aZ;exact xF
 ·
  exact Bh
 ):p:=h
end Cu
open Cu in
theorem JG(S:World)(gM:Value)(Q:Exit->Act->World->Prop)(hQ0:∀c a d v w,Q (.panic c) (a.put d v) w->Q (.panic c) a w)
  (s:∀ax af,(∀a ac,Code.wp prog (nM 32) (Exit.then af Q) a ac->ax a ac)->(∀a ac,Code.wp prog (GX 42) Q a ac->af a ac)->ER S gM (Exit.then af Q) ax)
  (K:Act->World->Prop) (hK:∀a ac,Code.wp prog (nM 19) Q a ac->K a ac):EP S gM Q K:=by
 unfold EP;intro io A n c l ar MA mn mc M GA gn gc G au a8 hr hs gD gJ u8 gF eK br gl ch aK a1 u16 bo bM eN eO eP eQ eR eS eV eW eY eZ e3 e4 e5 u32 e6 e7 e8 e9 fa fb fd fe ff fh fi fl fm fo fp fq fr fs ft fu fv fw fx fy fz fA fB fC fD fE fF u64 fG fH fI fJ fK fL fM fN fO fP fQ fR fS fT fU fX fY fZ f3 f4 f5 f6 f7 f8 f9 ga gb gd ge gf gg gh gi gj gk H am aF aI aJ aS a3 bb be bq bw bC bN bO bW bX b1 b2 b5 b6 ca ci cl cm co cq cr cu cv cw cx cA cC cD cE cF cG cH cI cK cL cM cN cO cP cQ cR cS cT cU cV cW cX cY cZ c4 c5 c6 c7 c8 c9 da db dc dd de df dg dh di dk dl dm dn dr ds dt du dv dw dx dy dz dA dB dC dE dF dH dI dJ dK dM dN dO dP dQ dS dT dU dV dW dX dY dZ d0 d1 d2 d3 d4 d5 d6 d7 d8 d9 ea eb ec ed ee ef eg eh ej ek el em en eo ep eq er es et eu ev ew ex ey ez eA eB eC eD eE eF eG eH eI bQ go gp gq gr gs gt gu gv gw gx gy gz gB gC w aY;obtain⟨a9,gW⟩:=aM aY.JG s;obtain⟨u,ha⟩:∃u,u=w.heap.size:=⟨_,rfl⟩
 rw[<-ha] at a9;clear aY s ha;conv=>arg 2;whnf
 conv at hK=>enter [a,w,1,2];whnf
 obtain⟨a0,ap,aj⟩:=a9.blk.two;go_wp2_with(fail);refine(aX w (S.heap.size+1) A n c l 4 a9.src ab ab).mono ?_;rintro e aP ⟨cd,rfl,a2,bL,h,he⟩;obtain⟨N,rfl⟩:=Lg a2;have hh:N<4:=ab;have gY:=ad (a9.next h he.fr);clear h he a0 ap aj a9 a2 bL;go_wp2_with(fail);go_loopw [12] (λce wr=>∃(i:Nat) (FA:LP) (fc:Nat) (F:List aA),ce=.int .i64 i/\i<=N+1/\zv S u wr A n c l ar MA mn mc M GA gn gc G au a8 FA i fc F) (λce _=>N+1 - (intOf ce).toNat)
 case atStart=>exact⟨0,none,0,[],rfl,ab,gY.o⟩
 case round=>
  obtain⟨i,FA,fc,F,rfl,ak,aY⟩:=hrel;obtain⟨a6,rfl⟩:∃a6,a6=wr:=⟨wr,rfl⟩
  clear gY;have cb:=ad aY;obtain⟨a0,ap,aj⟩:=aY.blk.two;have cn:F.length=i:=by have:=aY.fs.len;simpa using this
  have hD:=aY.hD;clear aY;by_cases aw:i<=N
  .have T:(i:Int)<=(N:Int):=ab;have e2:i<=3:=ab;have bU:=λ(W:World) (v:Int)=>k7 W v;have hS:∀v,(strOf [byteOf v]).size=1:=λv=>aH _;go_upto_region 24 with(fail);clear hS;generalize hX:World.alloc _ _=g8;have a4:=im hX;have hb:an g8 (a6.heap.size+1) 137 #[.string (⟨#[102]⟩++strOf [byteOf (48+(i:Int))]),.slice none 0 0,.slice none 0 0]:=by
    rw[<-hX];exact an.hY _ _ _ (by simp)
   have f2:=cb.src.cM a4 λ_ _ h=>h;have bV:=aL f2 a4 hb;clear hX a4 hb f2 a0 ap aj;by_cases f1:i=0
   case' pos=>
    have hf:((i:Int) == 0)=true:=by simp;omega
    obtain⟨f0,cJ,dD⟩:=bV.2.2.two;have dL:=ad f1;clear f1;go_upto_region 26 with(fail);generalize hX:World.setCell _ _ _=Y;have J:=dj hX;have ix:=cb.blk.lt;have hF:cc Y (S.heap.size+1) A n c l/\Fr (λb=>b=S.heap.size+1) a6 Y/\an Y (a6.heap.size+1) 137 #[.string (jD i),.slice none 0 0,.slice none 0 0]:=by
     refine⟨bV.1.cM J (λb O h=>ab),(bV.2.1.mono λ_ h=>h.elim).eI (J.below bV.2.1.size λk ai h=>ab),?_⟩;rw[<-hX,dL.o];exact bV.2.2.aD 0 _
    clear hX J f0 cJ dD bV
   case' neg=>
    have hf:((i:Int) == 0)=false:=by simp;omega
    have dL:=ad f1;clear f1;go_upto_region 26 with(fail);have hF:cc g8 (S.heap.size+1) A n c l/\Fr (λb=>b=S.heap.size+1) a6 g8/\an g8 (a6.heap.size+1) 137 #[.string (jD i),.slice none 0 0,.slice none 0 0]:=⟨bV.1,bV.2.1.mono λ_ h=>h.elim,by have:=bV.2.2;rw[Dr ab dL.o rfl] at this;exact this⟩
    clear bV;revert hF;generalize g8=Y;intro hF
   all_goals
    clear bU;have b0:=ad hF;obtain⟨a0,ap,aj⟩:=(cb.next b0.1 b0.2.1).blk.two;clear hF;go_wp2_with(fail);refine(aX Y (S.heap.size+1) A n c l 3 b0.1 ab ab).mono ?_;rintro e g9 ⟨bJ,rfl,a2,bL,h,he⟩;obtain⟨hq,rfl⟩:=Lg a2;have fW:hq<=2:=ab;have cf:=aL h (b0.2.1.trans he.fr) (b0.2.2.on he.fr (aC cb.blk.lt));clear h he a0 ap aj b0 a2 bL;go_wp2_with(fail);go_loopw [14] (λgO bh=>∃(m:Nat) (PA:LP) (pn pc:Nat) (ps:List (ByteArray×Bool)),gO=.int .i64 m/\m<=2/\pn+m<=2/\(i=0->ps=[])/\(i≠0->ps.map (·.1)++eT m=eT hq)/\cc bh (S.heap.size+1) A n c l/\Fr (λb=>b=S.heap.size+1) a6 bh/\an bh (a6.heap.size+1) 137 #[.string (jD i),.slice PA pn pc,.slice none 0 0]/\Gr (λ_=>False) (a6.heap.size+1+1) 173 2 bh PA pn pc (ps.map ct)) (λgO _=>(intOf gO).toNat)
    case atStart=>exact⟨hq,none,0,0,[],rfl,fW,ab,λ_=>rfl,λ_=>rfl,cf.1,cf.2.1,cf.2.2,Gr.nil _ _ _ _ _⟩
    case round=>
     obtain⟨m,PA,pn,pc,ps,rfl,ay,gN,hl,hm,hF⟩:=hrel;clear cf;have b0:=ad hF;have gH:=ah hl hm;have hN:=cb.next hF.1 hF.2.1;obtain⟨a0,ap,aj⟩:=hN.blk.two;obtain⟨f0,cJ,dD⟩:=hF.2.2.1.two;have hx:=ad hN;clear hF hl hm hN;by_cases aw:0<m/\0<i
     .obtain⟨hj,I⟩:=aw;have q1:decide ((m:Int) > 0)=true:=by simp;omega
      have cp:decide ((i:Int) > 0)=true:=by simp;omega
      have iv:(m:Int)<=2:=ab;have cy:¬S.heap.size+1+1=S.heap.size+1:=ab;have bZ:S.heap.size+1+1<wr.heap.size:=hx.blk.lt;clear f0 cJ dD;go_upto_region 29 with(fail);exact Af
     .have dp:(¬0<m)\/((0<m)/\¬0<i):=by
       by_cases ae:0<m
       .exact .inr ⟨ae,λh=>aw ⟨ae,h⟩⟩
       .exact .inl ae
      have hn:∃bl,bl<=2/\ps.map (·.1)=eT bl:=by
       by_cases ae:i=0
       .exact⟨0,ab,by rw[gH.1 ae];rfl⟩
       .have aD:m=0:=by
         by_cases aU:0<m
         .exact absurd ⟨aU,ab⟩ aw
         .omega
        have aU:=gH.2 ae;rw[aD] at aU;exact⟨hq,fW,by simpa[eT] using aU⟩
      have h3:=ad hn;clear aw hn;rcases dp with q1|⟨q1,cp⟩
      ·
       exact Ga
      ·
       exact Ga
  .have T:¬(i:Int)<=(N:Int):=ab;go_upto_region 32 with(fail);have bR:=gW.o _ _ (by assumption) (by assumption);unfold ER at bR;exact bR u A n c l ar MA mn mc M GA gn gc G au a8 FA i fc F a6 ab cb.o
theorem rh.lP(aK:sq G)(b8:G.length<=2)(hm:nr M)(cf:1<=M.length/\M.length<=4)(J:∀i f,F[i]?=some f->f.name=jD i/\(∃n,n<=2/\f.params.map (·.1)=eT n)/\(i=0->f.params=[]))(cn:1<=F.length/\F.length<=4):gv ⟨G,M,F⟩:=
 ⟨b8,cf,cn,aK,hm,J⟩
theorem D8(J:F[i]?=some f)(b:ak):(F.set i {f with body:=b}).map (λf=>(f.name,f.params))=F.map λf=>(f.name,f.params):=by
 exact GC
theorem ze(J:F[i]?=some f)(b:ak):(F.set i {f with body:=b}).map (·.name)=F.map (·.name):=by
 exact GC
structure vp(G:List (ByteArray×Int))(M:List bF)(F:List aA)(k L:Nat):Prop where
 lP:∀i f,F[i]?=some f->f.name=jD i/\(∃n,n<=2/\f.params.map (·.1)=eT n)/\(i=0->f.params=[])
 made:∀i f,F[i]?=some f->i<k->eM (fo ⟨G,M,F⟩ f) 2 (fF ⟨G,M,F⟩++cy f.params) (ba ⟨G,M,F⟩++f.params.map (·.1)) f.body
 bN:∀i f,F[i]?=some f->k<=i->f.body=.nil
 num:(F.map λf=>f.body.num).sum+2*L<=48
theorem rh.start(h:rh F):vp G M F 0 24:=by
 refine⟨λi f J=>⟨(h i f J).1,(h i f J).2.1,(h i f J).2.2.1⟩,λi f _ ak=>ab,λi f J _=>(h i f J).2.2.2,?_⟩;have h0:(F.map λf=>f.body.num).sum=0:=by
  have ae:F.map (λf=>f.body.num)=F.map λ_=>0:=List.map_congr_left λf J=>by
   obtain⟨i,ak⟩:=List.getElem?_of_mem J;rw[(h i f ak).2.2.2];rfl
  rw[ae];clear ae h
  induction F with
  | nil=>rfl
  | cons f F ao=>simpa using ao
 omega
theorem FV{b:ak}:∀{i:Nat} {f:aA},F[i]?=some f->f.body=.nil->((F.set i {f with body:=b}).map λf=>f.body.num).sum=(F.map λf=>f.body.num).sum+b.num:=by
 induction F with
 | nil=>intro i f J;simp at J
 | cons g F ao=>
  intro i f J hn
  cases i with
  | zero=>
   simp at J;subst J;simp[hn,ak.num]
   omega
  | succ i=>
   simp at J;have:=ao (i:=i) J hn;simp only[List.set_cons_succ,Lh,List.sum_cons,this];omega
theorem vp.next{k L R:Nat}(h:vp G M F k L)(J:F[k]?=some f){ls:List ax}(hm:Made (fo ⟨G,M,F⟩ f) 2 (fF ⟨G,M,F⟩++cy f.params) (ba ⟨G,M,F⟩++f.params.map (·.1)) L R ls):
  vp G M (F.set k {f with body:=.eH ls}) (k+1) R:=by
 have hs:=D8 J (.eH ls);have hn:=ze J (.eH ls);have aw:=(List.getElem?_eq_some_iff.1 J).1;have hG:∀g,fo ⟨G,M,F.set k {f with body:=.eH ls}⟩ g=fo ⟨G,M,F⟩ g:=λg=>by simp only[fo,sigs,hs]
 have hT:ba ⟨G,M,F.set k {f with body:=.eH ls}⟩=ba ⟨G,M,F⟩:=by simp only[ba,fF,hn]
 have E:∀i g,(F.set k {f with body:=.eH ls})[i]?=some g->(i=k/\g={f with body:=.eH ls})\/(i≠k/\F[i]?=some g):=λi g aK=>by
  by_cases ak:k=i
  .subst ak;rw[List.getElem?_set_self aw] at aK;injection aK with aK;exact .inl ⟨rfl,aK.symm⟩
  .rw[List.getElem?_set_ne ak] at aK;exact .inr ⟨λh=>ak h.symm,aK⟩
 refine⟨λi g aK=>?_,λi g aK ak=>?_,λi g aK ak=>?_,?_⟩
 .rcases E i g aK with⟨rfl,rfl⟩|⟨_,aD⟩
  .exact h.lP _ f J
  .exact h.lP _ _ aD
 .rw[hG,hT];rcases E i g aK with⟨rfl,rfl⟩|⟨ae,aD⟩
  .exact hm.wf
  .exact h.made i g aD ab
 .rcases E i g aK with⟨rfl,rfl⟩|⟨ae,aD⟩
  .omega
  .exact h.bN i g aD ab
 .rw[FV J (h.bN k f J (Lb _))];have ae:=hm.num;have aD:=hm.le;have aU:=h.num;omega
theorem vp.wf{G:List (ByteArray×Int)}{M:List bF}{F:List aA}{L:Nat}(h:vp G M F F.length L)(aK:sq G)(b8:G.length<=2)(hm:nr M)(cf:1<=M.length/\M.length<=4)(cn:1<=F.length/\F.length<=4):oK ⟨G,M,F⟩:=by
 refine(rh.lP aK b8 hm cf h.lP cn).wf (λf J=>?_) (by have:=h.num;simp only;omega);obtain⟨i,ak⟩:=List.getElem?_of_mem J;have aw:=(List.getElem?_eq_some_iff.1 ak).1;exact dc _ 2 4 _ _ _ _ (λ_ h=>h) (λ_ _ h=>h) ab (h.made i f ak aw)
end Go.Proofs.YtflecliffjbleaaGreat

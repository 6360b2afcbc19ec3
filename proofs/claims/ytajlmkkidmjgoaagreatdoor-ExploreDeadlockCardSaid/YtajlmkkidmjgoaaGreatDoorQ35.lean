/- Part 35 of the proof. No condition of its own. -/
import Derived.Test.YtajlmkkidmjgoaaGreatDoorQ25
import Derived.Test.YtajlmkkidmjgoaaGreatDoorQ32
namespace Go.Proofs.YtajlmkkidmjgoaaGreatDoor
open Go.RowKit Go.Proofs.Tryz
set_option maxRecDepth 1000000
set_option maxHeartbeats 25600000
set_option linter.unusedVariables false
variable{T:List Tok}{xs:List Value}{k:Nat}{P:Nat->Prop}{p:Prop}{s:ah}
namespace zF
theorem gj(h:p:=by
 refine cr ?_;generalize cl:World.setCell _ _ _=Y;have hb:wr.heap.size<=a4:=ad;obtain⟨bk,bt,bj⟩:=dG (M:=λb=>b=S.heap.size+1) [.string (⟨#[103]⟩++strOf [byteOf bv]),.int .i64 (IntKind.i64.wrap ((j:Int) - 2))] (by rfl) b5 ag hb cl;obtain⟨ap,bS⟩:∃ap:Int,ap=IntKind.i64.wrap ((j:Int) - 2):=⟨_,rfl⟩
 rw[<-bS] at bk;rw[IntWalk.i64_in _ ad] at bS;rw[Bd ad aJ.o] at bk;have Z:=b9.next (ao.cz bj λb O h=>ad) bt;have bs:-2<=ap/\ap<=2:=ad;have bY:=ai Z bk;have au:=ae bs;clear cl bk bt bj Z bS bs ao ag b5 bU aW bx a1;obtain⟨aI,aj,af⟩:=bY.1.blk.two;obtain⟨bU,aW,bx⟩:=bY.2.two;have m:∀b,(Value.slice GA i gc).ownBlock=some b->u<=b/\b<wr.heap.size:=λb O=>b9.rows.one.lt O;have aS:∀b,(Value.slice av i ax).ownBlock=some b->u<=b/\b<wr.heap.size:=λb O=>b9.rows.two.lt O;have bV:¬(Value.slice GA i gc).ownBlock=some (S.heap.size+1+1):=λh=>by have:=(m _ h).1;omega
 have bb:¬(Value.slice GA i gc).ownBlock=some a4:=λh=>by have:=(m _ h).2;omega
 have g5:u<=Y.heap.size:=bY.1.hD.2;have aM:wr.heap.size<=Y.heap.size:=by have:=bY.2.lt;omega
 have bB:=ai m aS;clear m aS;go_upto_region 18 with(fail);refine sU (λb=>(Value.slice GA i gc).ownBlock=some b) [13,17] (.free 0 (.free 1 (.free 2 (.free 3 (.free 4 (.held 5 (.held 6 (.free 9 (.free 10 (.held 11 (.pick [7,12] (λi=>bif i == 7 then .pick [8,12] (λi=>bif i == 8 then .pick [12] (λ_=>.pick [13] (λ_=>.free 14 (.free 15 (.free 16 (.pick [17] (λ_=>.free 18 (.stop))))))) else .pick [8] (λ_=>.pick [13] (λ_=>.free 14 (.free 15 (.free 16 (.pick [17] (λ_=>.free 18 (.stop)))))))) else .pick [7] (λ_=>.pick [8] (λ_=>.pick [13] (λ_=>.free 14 (.free 15 (.free 16 (.pick [17] (λ_=>.free 18 (.stop)))))))))))))))))))) ?_
 iterate 5 refine tf ?_
 iterate 2 refine rL ?_
 iterate 2 refine tf ?_
 refine rL ?_;clear aI aj af bU aW bx;refine h8 (P:=?Hq) (ops:=?Ht) (Q:=?Hu) (R:=?Hv) (tails:=?Hw) (rest:=.pick [13] (λ_=>.free 14 (.free 15 (.free 16 (.pick [17] (λ_=>.free 18 (.stop))))))) (aa:=?Hs)
  (C:=λ(_:Nat) b3 A2 bZ V=>True/\∃q1 dq,Ext Y q1/\Gr (λb=>u<=b/\(Value.slice av i ax).ownBlock≠some b) u 100 2 dq A2 (i+1) bZ (G.map hR++[hR (dz i,ap)])/\Fr (λb=>(Value.slice GA i gc).ownBlock=some b) q1 dq/\c6 q1 GA i gc A2 (i+1) bZ/\Ext dq V/\an V b3 9 #[.string (dz i)]) (λkey=>?Hk) ?Hj
 case Hk=>
  refine a5 ?_ ?_
  ·
   refine dS ?_;generalize hV:World.drew (World.alloc _ _)=cb;have e1:=gX hV;have cj:an cb Y.heap.size 100 #[.string (dz i),.int .i64 ap]:=hV▸IL;clear hV;refine a5 ?_ ?_
   ·
    refine aG rfl (λK hK=>?_) rfl;rw[if_pos (by rfl)];refine eK tP (.tmp 108) (.tmp 110) (by rfl) (bY.1.rows.aj e1).one cj (rC.2 rfl:(hR (dz i,ap)).rep cb _ _) (by rfl) (by rfl) (by rfl) ad ad (aC e1.size) ?_;intro A2 bZ aT b0 f1 o1 c1;refine dA hK (f1) ?_;clear hK K;refine aq ?_;refine dS ?_;have a9:True/\∃q1 dq,Ext Y q1/\Gr (λb=>u<=b/\(Value.slice av i ax).ownBlock≠some b) u 100 2 dq A2 (i+1) bZ (G.map hR++[hR (dz i,ap)])/\Fr (λb=>(Value.slice GA i gc).ownBlock=some b) q1 dq/\c6 q1 GA i gc A2 (i+1) bZ/\Ext dq (aT.alloc (.cells #[.string (dz i)] 9))/\an (aT.alloc (.cells #[.string (dz i)] 9)) aT.heap.size 9 #[.string (dz i)]:=⟨trivial,cb,aT,e1,b0,f1,o1,IK.alloc _,IL⟩
    clear b0 o1;revert a9;generalize aT.heap.size=b3;generalize Y.heap.size=ck;intro a9;exact key ck b3 A2 bZ _ a9
   ·
    refine dS ?_;generalize hV:World.alloc _ _=T;have bq:an T cb.heap.size 9 #[.string (dz i)]:=hV▸IL;have aR:=by have:=cj.alloc (.cells #[.string (dz i)] 9);rw[hV] at this;exact this
    have e2:Ext Y T:=hV▸e1.alloc _;clear hV cj;refine aq ?_;refine aG rfl (λK hK=>?_) rfl;rw[if_pos (by rfl)];refine eK tP (.tmp 108) (.tmp 110) (by rfl) (bY.1.rows.aj e2).one aR (rC.2 rfl:(hR (dz i,ap)).rep T _ _) (by rfl) (by rfl) (by rfl) ad ad (aC e2.size) ?_;intro A2 bZ aT b0 f1 o1 c1;refine dA hK (f1) ?_;clear hK K;have aZ:¬(Value.slice GA i gc).ownBlock=some cb.heap.size:=λO=>by have:=(bB.1 _ O).2;have:=e1.size;omega
    have a9:True/\∃q1 dq,Ext Y q1/\Gr (λb=>u<=b/\(Value.slice av i ax).ownBlock≠some b) u 100 2 dq A2 (i+1) bZ (G.map hR++[hR (dz i,ap)])/\Fr (λb=>(Value.slice GA i gc).ownBlock=some b) q1 dq/\c6 q1 GA i gc A2 (i+1) bZ/\Ext dq aT/\an aT cb.heap.size 9 #[.string (dz i)]:=⟨trivial,T,aT,e2,b0,f1,o1,IK,bq.on f1 aZ⟩
    clear b0 o1;revert a9;generalize cb.heap.size=b3;generalize Y.heap.size=ck;intro a9;exact key ck b3 A2 bZ _ a9
  ·
   refine dS ?_;generalize hV:World.drew (World.alloc _ _)=cb;have bq:an cb Y.heap.size 9 #[.string (dz i)]:=hV▸IL;have e1:=gX hV;clear hV;refine aq ?_;refine dS ?_;generalize hV:World.alloc _ _=T;have e2:Ext Y T:=hV▸e1.alloc _;have cj:=aU hV;have aY:an T Y.heap.size 9 #[.string (dz i)]:=hV▸bq.alloc _;clear hV;refine aq ?_;refine aG rfl (λK hK=>?_) rfl;rw[if_pos (by rfl)];refine eK tP (.tmp 108) (.tmp 110) (by rfl) (bY.1.rows.aj e2).one cj (rC.2 rfl:(hR (dz i,ap)).rep T _ _) (by rfl) (by rfl) (by rfl) ad ad (aC e2.size) ?_;intro A2 bZ aT b0 f1 o1 c1;refine dA hK (f1) ?_;clear hK K;have aZ:¬(Value.slice GA i gc).ownBlock=some Y.heap.size:=λO=>by have:=(bB.1 _ O).2;omega
   have a9:True/\∃q1 dq,Ext Y q1/\Gr (λb=>u<=b/\(Value.slice av i ax).ownBlock≠some b) u 100 2 dq A2 (i+1) bZ (G.map hR++[hR (dz i,ap)])/\Fr (λb=>(Value.slice GA i gc).ownBlock=some b) q1 dq/\c6 q1 GA i gc A2 (i+1) bZ/\Ext dq aT/\an aT Y.heap.size 9 #[.string (dz i)]:=⟨trivial,T,aT,e2,b0,f1,o1,IK,aY.on f1 aZ⟩
   clear b0 o1;revert a9;generalize Y.heap.size=b3;generalize cb.heap.size=ck;intro a9;exact key ck b3 A2 bZ _ a9
 case Hj=>
  rintro ck b3 A2 bZ V ⟨_,aO,aT,e1,b0,f1,o1,e2,bq⟩;have s1:=e1.size;have s2:=f1.size;have bl:=e2.size;obtain⟨m,aS⟩:=bB.o;have bI:=((bY.1.rows.aj e1).grow b0 f1 o1).aj e2;have bK:an V (S.heap.size+1+1) _ _:=((bY.1.blk.aj e1).on f1 bV).aj e2;have fP:¬(Value.slice av i ax).ownBlock=some (S.heap.size+1+1):=λh=>by have:=(aS _ h).1;omega
  refine aq ?_;refine bA rfl (λK hK=>?_) rfl;rw[if_pos (by rfl)];refine eK j2 (.tmp 112) (.tmp 115) (by rfl) bI.two bq (sT.2 rfl:(D.s (dz i)).rep V _ _) (by rfl) (by rfl) (by rfl) ad ad ad ?_;intro eB fc eG g2 f2 fg c2;have z:=(bI.swap.grow g2 f2 fg).swap;have bH:=bK.on f2 fP;have L:Fr (λb=>(Value.slice GA i gc).ownBlock=some b\/(Value.slice av i ax).ownBlock=some b) Y eG:=((((e1.mono λ_ h=>h.elim).trans (f1.mono λ_ h=>.inl h)).trans (e2.mono λ_ h=>h.elim)).trans (f2.mono λ_ h=>.inr h))
  have r:=ai z L;clear b0 f1 o1 e1 e2 bq bI bK g2 f2 fg c2 z L;obtain⟨aI,aj,af⟩:=bH.two;clear bH;refine dW hK ?_;clear hK K
  iterate 3 refine tf ?_
  refine aq ?_;refine bA rfl (λK hK=>?_) rfl;go_simp;refine dW hK ?_;clear hK K;refine tf ?_;refine cr ?_;generalize hX:World.setCell _ _ _=hf;have eJ:kV u 100 2 9 1 eG A2 (i+1) bZ ((G++[(dz i,ap)]).map hR) eB (i+1) fc (((G++[(dz i,ap)]).map (·.1)).map D.s):=by
   simp only[Ig,Ie,Iy];exact r.1
  have f:=bY.1.add eJ r.2 ad (b9.xQ.snoc cg au.1 au.2);rw[hX] at f;have bR:=ae f;clear hX f eJ aI aj af;go_wp2_with(fail);go_roundw
  case rel=>exact⟨i+1,A2,bZ,G++[(dz i,ap)],eB,fc,by go_num,rfl,ad,bR.o⟩
  case measure=>exact aF
 ):p:=h
theorem yy(h:p:=by
 generalize g9:IntKind.u8.wrap (IntKind.i64.wrap (48+(i:Int)))=bv;obtain⟨bJ,hM⟩:∃bJ,bJ=wr.heap.size:=⟨_,rfl⟩
 have aJ:=ae g9;clear g9;have ho:(strOf [byteOf bv]).size=1:=aK _;have aD:=ai b9.src (Fr.refl (λb=>b=S.heap.size+1) wr);refine jH (P:=?pO) (ops:=?F9) (Q:=?Gb) (R:=?Gc) (tails:=?Gh) (rest:=.pick [14] (λ_=>.stop)) (aa:=?FM)
  (C:=λ(a8 a4 j:Nat) gm=>b1 gm (S.heap.size+1) A n c l/\Fr (λb=>b=S.heap.size+1) wr gm/\an gm a4 100 #[.string ⟨#[]⟩,.int .i64 0]/\bJ<=a4/\j<5) (λkey=>?Bx) ?Bm
 case Bx=>
  refine pG ?_ ?_ ?_
  ·
   refine dS ?_;refine bh (λV=>Ext wr V/\an V wr.heap.size 5 #[.int .u8 bv]) ⟨(IK.alloc _).drew,IL⟩ (λr1 hV=>?_);have k:=ai (aD.1.cz hV.1 λ_ _ h=>h) (aD.2.trans (hV.1.mono λ_ h=>h.elim));have gW:wr.heap.size<=wr.heap.size:=aD.2.size;have J:=ae hV.2;clear hV;obtain⟨e0,bn,a0⟩:=J.two;refine cd (v:=?_) rfl (by rfl) (λV hV=>?_) ?_;rotate_left
   .have bG:=eV V (wr.heap.size) bv ((hV.cell a0 ad).trans (e0 0))
    (go_simp<;>with_reducible rfl)
   try simp only[PU]
   clear e0 bn a0;refine tf ?_;refine a5 ?_ ?_
   ·
    refine aG rfl (λK hK=>?_) rfl;go_simp;refine(aX _ (S.heap.size+1) A n c l 5 (k.1.cz (M:=λ_=>False) IK (λ_ _ h=>h)) ad ad).mono ?_;rintro e fZ ⟨ca,rfl,I,O,h,he⟩;obtain⟨j,rfl⟩:=Ic I;have a1:j<5:=ad;have ag:Fr (λb=>b=S.heap.size+1) r1 fZ:=he.fr;have aB:=ai h (k.2.trans ag);have b7:=ae (J.on ag ad);refine dA hK (he.fr) ?_;clear hK K;clear h he ag I O
    iterate 2 refine tf ?_
    refine aq ?_;refine dS ?_;refine bh (λV=>Ext fZ V/\an V fZ.heap.size 100 #[.string ⟨#[]⟩,.int .i64 0]) ⟨IK.alloc _,IL⟩ (λgQ hV=>?_);have a2:=ai (aB.1.cz hV.1 λ_ _ h=>h) (aB.2.trans (hV.1.mono λ_ h=>h.elim));have gZ:wr.heap.size<=fZ.heap.size:=aB.2.size;have cf:=ae hV.2;have gR:=ae (b7.aj hV.1);clear hV;have a9:=And.intro a2.1 (And.intro a2.2 (And.intro cf.o (And.intro (show bJ<=fZ.heap.size by omega) a1)));revert a9;generalize wr.heap.size=a8;generalize fZ.heap.size=a4;intro a9;exact key a8 a4 j _ a9
   ·
    refine dS ?_;refine bh (λV=>Ext r1 V/\an V r1.heap.size 100 #[.string ⟨#[]⟩,.int .i64 0]) ⟨IK.alloc _,IL⟩ (λf0 hV=>?_);have a6:=ai (k.1.cz hV.1 λ_ _ h=>h) (k.2.trans (hV.1.mono λ_ h=>h.elim));have g0:wr.heap.size<=r1.heap.size:=k.2.size;have ch:=ae hV.2;have cc:=ae (J.aj hV.1);clear hV;refine aq ?_;refine aG rfl (λK hK=>?_) rfl;go_simp;refine(aX _ (S.heap.size+1) A n c l 5 (a6.1.cz (M:=λ_=>False) IK (λ_ _ h=>h)) ad ad).mono ?_;rintro e gK ⟨ca,rfl,I,O,h,he⟩;obtain⟨j,rfl⟩:=Ic I;have a1:j<5:=ad;have ag:Fr (λb=>b=S.heap.size+1) f0 gK:=he.fr;have bc:=ai h (a6.2.trans ag);have gS:=ae (cc.on ag ad);have ct:=ae (ch.on ag ad);refine dA hK (he.fr) ?_;clear hK K;clear h he ag I O
    iterate 2 refine tf ?_
    have a9:=And.intro bc.1 (And.intro bc.2 (And.intro ct.o (And.intro (show bJ<=r1.heap.size by omega) a1)));revert a9;generalize wr.heap.size=a8;generalize r1.heap.size=a4;intro a9;exact key a8 a4 j _ a9
  ·
   refine aG rfl (λK hK=>?_) rfl;go_simp;refine(aX _ (S.heap.size+1) A n c l 5 (aD.1.cz (M:=λ_=>False) (IK.drew) (λ_ _ h=>h)) ad ad).mono ?_;rintro e c3 ⟨ca,rfl,I,O,h,he⟩;obtain⟨j,rfl⟩:=Ic I;have a1:j<5:=ad;have ag:Fr (λb=>b=S.heap.size+1) wr c3:=Fr.aJ he.fr;have g:=ai h (aD.2.trans ag);refine dA hK (he.fr) ?_;clear hK K;clear h he ag I O;refine tf ?_;refine a5 ?_ ?_
   ·
    refine dS ?_;refine bh (λV=>Ext c3 V/\an V c3.heap.size 5 #[.int .u8 bv]) ⟨IK.alloc _,IL⟩ (λb2 hV=>?_);have aE:=ai (g.1.cz hV.1 λ_ _ h=>h) (g.2.trans (hV.1.mono λ_ h=>h.elim));have g1:wr.heap.size<=c3.heap.size:=g.2.size;have aV:=ae hV.2;clear hV;obtain⟨e0,bn,a0⟩:=aV.two;refine cd (v:=?_) rfl (by rfl) (λV hV=>?_) ?_;rotate_left
    .have bG:=eV V (c3.heap.size) bv ((hV.cell a0 ad).trans (e0 0))
     (go_simp<;>with_reducible rfl)
    try simp only[PU]
    clear e0 bn a0
    iterate 2 refine tf ?_
    refine aq ?_;refine dS ?_;refine bh (λV=>Ext b2 V/\an V b2.heap.size 100 #[.string ⟨#[]⟩,.int .i64 0]) ⟨IK.alloc _,IL⟩ (λha hV=>?_);have bd:=ai (aE.1.cz hV.1 λ_ _ h=>h) (aE.2.trans (hV.1.mono λ_ h=>h.elim));have g3:wr.heap.size<=b2.heap.size:=aE.2.size;have cK:=ae hV.2;have gV:=ae (aV.aj hV.1);clear hV;have a9:=And.intro bd.1 (And.intro bd.2 (And.intro cK.o (And.intro (show bJ<=b2.heap.size by omega) a1)));revert a9;generalize c3.heap.size=a8;generalize b2.heap.size=a4;intro a9;exact key a8 a4 j _ a9
   ·
    refine dS ?_;refine bh (λV=>Ext c3 V/\an V c3.heap.size 100 #[.string ⟨#[]⟩,.int .i64 0]) ⟨IK.alloc _,IL⟩ (λb4 hV=>?_);have aL:=ai (g.1.cz hV.1 λ_ _ h=>h) (g.2.trans (hV.1.mono λ_ h=>h.elim));have g4:wr.heap.size<=c3.heap.size:=g.2.size;have cT:=ae hV.2;clear hV;refine aq ?_;refine dS ?_;refine bh (λV=>Ext b4 V/\an V b4.heap.size 5 #[.int .u8 bv]) ⟨IK.alloc _,IL⟩ (λg6 hV=>?_);have ac:=ai (aL.1.cz hV.1 λ_ _ h=>h) (aL.2.trans (hV.1.mono λ_ h=>h.elim));have gn:wr.heap.size<=b4.heap.size:=aL.2.size;have bw:=ae hV.2;have bD:=ae (cT.aj hV.1);clear hV;obtain⟨e0,bn,a0⟩:=bw.two;refine cd (v:=?_) rfl (by rfl) (λV hV=>?_) ?_;rotate_left
    .have bG:=eV V (b4.heap.size) bv ((hV.cell a0 ad).trans (e0 0))
     (go_simp<;>with_reducible rfl)
    try simp only[PU]
    clear e0 bn a0
    iterate 2 refine tf ?_
    have a9:=And.intro ac.1 (And.intro ac.2 (And.intro bD.o (And.intro (show bJ<=c3.heap.size by omega) a1)));revert a9;generalize b4.heap.size=a8;generalize c3.heap.size=a4;intro a9;exact key a8 a4 j _ a9
  ·
   refine dS ?_;refine bh (λV=>Ext wr V/\an V wr.heap.size 100 #[.string ⟨#[]⟩,.int .i64 0]) ⟨(IK.alloc _).drew,IL⟩ (λE hV=>?_);have d:=ai (aD.1.cz hV.1 λ_ _ h=>h) (aD.2.trans (hV.1.mono λ_ h=>h.elim));have gq:wr.heap.size<=wr.heap.size:=aD.2.size;have aN:=ae hV.2;clear hV;refine a5 ?_ ?_
   ·
    refine dS ?_;refine bh (λV=>Ext E V/\an V E.heap.size 5 #[.int .u8 bv]) ⟨IK.alloc _,IL⟩ (λgO hV=>?_);have aw:=ai (d.1.cz hV.1 λ_ _ h=>h) (d.2.trans (hV.1.mono λ_ h=>h.elim));have gH:wr.heap.size<=E.heap.size:=d.2.size;have X:=ae hV.2;have bE:=ae (aN.aj hV.1);clear hV;obtain⟨e0,bn,a0⟩:=X.two;refine cd (v:=?_) rfl (by rfl) (λV hV=>?_) ?_;rotate_left
    .have bG:=eV V (E.heap.size) bv ((hV.cell a0 ad).trans (e0 0))
     (go_simp<;>with_reducible rfl)
    try simp only[PU]
    clear e0 bn a0;refine tf ?_;refine aq ?_;refine aG rfl (λK hK=>?_) rfl;go_simp;refine(aX _ (S.heap.size+1) A n c l 5 (aw.1.cz (M:=λ_=>False) IK (λ_ _ h=>h)) ad ad).mono ?_;rintro e gP ⟨ca,rfl,I,O,h,he⟩;obtain⟨j,rfl⟩:=Ic I;have a1:j<5:=ad;have ag:Fr (λb=>b=S.heap.size+1) gO gP:=he.fr;have az:=ai h (aw.2.trans ag);have fn:=ae (X.on ag ad);have bF:=ae (bE.on ag ad);refine dA hK (he.fr) ?_;clear hK K;clear h he ag I O
    iterate 2 refine tf ?_
    have a9:=And.intro az.1 (And.intro az.2 (And.intro bF.o (And.intro (show bJ<=wr.heap.size by omega) a1)));revert a9;generalize E.heap.size=a8;exact vM
   ·
    refine aG rfl (λK hK=>?_) rfl;go_simp;refine(aX _ (S.heap.size+1) A n c l 5 (d.1.cz (M:=λ_=>False) IK (λ_ _ h=>h)) ad ad).mono ?_;rintro e F ⟨ca,rfl,I,O,h,he⟩;obtain⟨j,rfl⟩:=Ic I;have a1:j<5:=ad;have ag:Fr (λb=>b=S.heap.size+1) E F:=he.fr;have y:=ai h (d.2.trans ag);have bL:=ae (aN.on ag ad);refine dA hK (he.fr) ?_;clear hK K;clear h he ag I O;refine tf ?_;refine aq ?_;refine dS ?_;refine bh (λV=>Ext F V/\an V F.heap.size 5 #[.int .u8 bv]) ⟨IK.alloc _,IL⟩ (λg8 hV=>?_);have aA:=ai (y.1.cz hV.1 λ_ _ h=>h) (y.2.trans (hV.1.mono λ_ h=>h.elim));have gI:wr.heap.size<=F.heap.size:=y.2.size;have bz:=ae hV.2;have bN:=ae (bL.aj hV.1);clear hV;obtain⟨e0,bn,a0⟩:=bz.two;refine cd (v:=?_) rfl (by rfl) (λV hV=>?_) ?_;rotate_left
    .have bG:=eV V (F.heap.size) bv ((hV.cell a0 ad).trans (e0 0))
     (go_simp<;>with_reducible rfl)
    try simp only[PU]
    clear e0 bn a0
    iterate 2 refine tf ?_
    have a9:=And.intro aA.1 (And.intro aA.2 (And.intro bN.o (And.intro (show bJ<=wr.heap.size by omega) a1)));revert a9;generalize F.heap.size=a8;exact vM
 case Bm=>
  exact zh
 ):p:=h
end zF
open zF in
theorem GO(S:World)(gN:Value)(s:∀K,(∀a ab,Code.wp prog (mZ 19) (bodyPost prog Tryz.f16 (jO S)) a ab->K a ab)->Cz S gN (bodyPost prog Tryz.f16 (jO S)) K)
  (K:Act->World->Prop) (hK:∀a ab,Code.wp prog (mZ 13) (bodyPost prog Tryz.f16 (jO S)) a ab->K a ab):Cy S gN (bodyPost prog Tryz.f16 (jO S)) K:=by
 unfold Cy;intro A n c l ar MA mn mc M hp hq gF gL o u8 gG eP go gp ay ce ah u16 br cw eQ eR eS eT eU eW eX eY eZ e3 e4 e5 e6 u32 e7 e8 e9 fa fb fd fe ff fh fi fj fk fl fm fo fp fq fr fs ft fu fv fw fx fy fz fA fB fC fD fE u64 fF fG fH fI fJ fK fL fM fN fQ fR fS fT fU fV fW fX fY f3 f4 f5 f6 f7 f8 f9 ga gb gd ge gf gg gh gi gk gl H am aH aP aQ a7 ba be bf bi bm bu bC bM bO bQ bT bW bX b6 cn co cp cq cu cv cx cy cz cA cB cC cD cE cF cG cH cI cJ cL cM cN cO cP cQ cR cS cU cV cW cX cY cZ c4 c5 c7 c8 c9 da db dc dd de df dg dh di dj dk dl dm dn dp dr ds dt dv dw dx dy dB dC dD dE dF dH dI dJ dK dL dM dN dO dP dQ dR dT dU dV dX dY dZ d0 d1 d2 d3 d4 d5 d6 d7 d8 d9 ea eb ec ed ee ef eg eh ei ej ek el em en eo ep eq er es et eu ev ew ex ey ez eA eC eD eE eF eH eI eL eM eN eO bp gr gs gt gu gv gw gx gy gz gA gB gC gD gE w du U;have a3:=ae (U.GO du);have gT:=ae s;obtain⟨u,g7⟩:∃u,u=w.heap.size:=⟨_,rfl⟩
 rw[<-g7] at a3;clear U s g7;conv=>arg 2;whnf
 conv at hK=>enter [a,w,1,2];whnf
 obtain⟨aI,aj,af⟩:=a3.blk.two;go_wp2_with(fail);refine(aX w (S.heap.size+1) A n c l 3 a3.src ad ad).mono ?_;rintro e aO ⟨cm,rfl,bg,bo,h,he⟩;obtain⟨N,rfl⟩:=Ic bg;have hh:N<3:=ad;have gU:=ae (a3.next h he.fr);clear h he aI aj af a3 bg bo;go_wp2_with(fail);go_loopw [7,8] (λfO ci wr=>∃(i:Nat) (GA:IP) (gc:Nat) (G:List (ByteArray×Int)) (av:IP) (ax:Nat),ci=.int .i64 i/\fO=.slice av i ax/\i<=N/\vy S u wr A n c l ar MA mn mc M GA i gc G av ax) (λ_ ci _=>N - (intOf ci).toNat)
 case atStart=>exact⟨0,none,0,[],none,0,rfl,rfl,ad,gU.o⟩
 case round=>
  obtain⟨i,GA,gc,G,av,ax,rfl,rfl,ak,U⟩:=hrel;clear gU;have b9:=ae U;obtain⟨aI,aj,af⟩:=U.blk.two;have cg:G.length=i:=by have:=U.rows.one.len;simpa using this
  have hD:=U.hD;clear U;by_cases al:i<N
  .have bP:(i:Int)<(N:Int):=ad;have c0:i<=1:=ad;have gM:¬S.heap.size+1+1=S.heap.size+1:=ad;have b8:S.heap.size+1+1<wr.heap.size:=b9.blk.lt;go_upto_region 17 with(fail);exact yw
  .have bP:¬(i:Int)<(N:Int):=ad;go_upto_region 19 with(fail);have bb:=gT.o _ (by assumption);unfold Cz at bb;exact bb u A n c l ar MA mn mc M GA i gc G av ax wr b9.o
theorem EI:b2 prog 31 122 (.agg #[.int .i64 0,.slice none 0 0]) 2 32:=b2.mk' Tryz.underlying31 (by kernel_rfl) rfl ad
theorem EM:b2 prog 32 22 (.slice none 0 0) 1 24:=b2.mk' Tryz.underlying32 (by kernel_rfl) rfl ad
theorem iv{w ab:World}{B:Nat}{e:TypeId}{z:Nat}{v:Value}{n:Nat}(h:w.ownsRow B e z v n xs)(ap:∀b,v.ownBlock=some b->ab.heap[b]?=w.heap[b]?):ab.ownsRow B e z v n xs:=by
 refine⟨h.1,?_⟩;rcases h.2 with aR|⟨g,cap,cur,bC,j,a2,rest⟩
 .exact .inl aR
 .exact .inr ⟨g,cap,cur,bC,j,(ap g (by rw[bC];rfl)).trans a2,rest⟩
structure gT(u:ax)(g B:Nat)(K:Nat->Prop)(w:World)(IA:IP)(n ic:Nat)(S:IP)(aZ bR:Nat)(ce:IP)(bO rc:Nat)(L:List g7)(b7:List Int):Prop where
 blk:an w g 34 #[.slice IA n ic,.slice S aZ bR,.slice ce bO rc]
 ins:Gr (λb=>b≠g/\(Value.slice S aZ bR).ownBlock≠some b/\¬K b) B 122 2 w IA n ic (L.map e7)
 ok:∀x∈L,lA u x
 EO:∃xs,w.ownsRow B 22 1 (.slice S aZ bR) aZ xs
 E9:Sl w (λb=>b<w.heap.size/\b≠g/\(Value.slice IA n ic).ownBlock≠some b/\(Value.slice S aZ bR).ownBlock≠some b/\¬K b) ce bO (b7.map .i)
 uR:0<bO
 xv:bO<=rc
 ig:∀b,(Value.slice IA n ic).ownBlock=some b->b≠g/\(Value.slice S aZ bR).ownBlock≠some b/\¬K b
 cg:∀b,(Value.slice S aZ bR).ownBlock=some b->b≠g/\¬K b
 kg:¬K g
 kl:∀b,K b->b<w.heap.size
section
variable {u:ax} {g B:Nat} {K:Nat->Prop} {w ab:World} {IA S ce E Y c:IP} {n ic aZ bR bO rc F aF a d:Nat} {L:List g7} {b7 f:List Int}
theorem gT.cl(h:gT u g B K w IA n ic S aZ bR ce bO rc L b7):∀b,(Value.slice S aZ bR).ownBlock=some b->B<=b/\b<w.heap.size:=λb O=>by
 obtain⟨xs,hx⟩:=h.EO;exact hx.lt b O
theorem gT.on(h:gT u g B K w IA n ic S aZ bR ce bO rc L b7)(O:Fr K w ab):gT u g B K ab IA n ic S aZ bR ce bO rc L b7:=by
 refine⟨h.blk.on O h.kg,h.ins.cU O.size λb al hp=>O.block b al ?_,h.ok,?_,(h.E9.al λb hp=>O.block b hp.1 hp.2.2.2.2).mono λb hp=>⟨Hy hp.1 O.size,hp.2⟩,h.uR,h.xv,h.ig,h.cg,h.kg,λb ap=>Hy (h.kl b ap) O.size⟩
 .rcases hp with hp|hp
  .exact hp.2.2
  .exact(h.ig b hp).2.2
 .obtain⟨xs,hx⟩:=h.EO;exact⟨xs,iv hx λb hp=>O.block b (hx.lt b hp).2 (h.cg b hp).2⟩
theorem gT.apart(h:gT u g B K w IA n ic S aZ bR ce bO rc L b7)(O:Ext w ab)(ap:w.heap.size<=k)(bM:k<ab.heap.size):gT u g B (λb=>b=k) ab IA n ic S aZ bR ce bO rc L b7:=by
 have ac:=h.on (O.mono λ_ h=>h.elim);have m:=h.blk.lt;refine⟨ac.blk,(h.ins.mono λb al hp=>⟨hp.1,hp.2.1,ad⟩).aj O,h.ok,ac.EO,
  (h.E9.al λb hp=>O.block b hp.1 λh=>h).mono λb hp=>⟨Hy hp.1 O.size,hp.2.1,hp.2.2.1,hp.2.2.2.1,by have:=hp.1;omega⟩,
  h.uR,h.xv,λb hp=>⟨(h.ig b hp).1,(h.ig b hp).2.1,?_⟩,λb hp=>⟨(h.cg b hp).1,?_⟩,ad,λb O=>ad⟩
 .have:=(h.ins.lt hp).2;omega
 .have:=(h.cl b hp).2;omega
theorem gT.free(h:gT u g B K w IA n ic S aZ bR ce bO rc L b7):gT u g B (λ_=>False) w IA n ic S aZ bR ce bO rc L b7:=
 ⟨h.blk,h.ins.mono λb _ hp=>⟨hp.1,hp.2.1,λh=>h⟩,h.ok,h.EO,h.E9.mono λb hp=>⟨hp.1,hp.2.1,hp.2.2.1,hp.2.2.2.1,λh=>h⟩,h.uR,h.xv,λb hp=>⟨(h.ig b hp).1,(h.ig b hp).2.1,λh=>h⟩,λb hp=>⟨(h.cg b hp).1,λh=>h⟩,λh=>h,λ_ h=>h.elim⟩
theorem gT.Gz(h:gT u g B K w IA n ic S aZ bR ce bO rc L b7){x:g7}(hx:lA u x)
  (aM:Gr (λb=>b≠g/\(Value.slice S aZ bR).ownBlock≠some b/\¬K b) B 122 2 ab E (n+1) F (L.map e7++[e7 x])) (aA:Fr (λb=>(Value.slice IA n ic).ownBlock=some b) w ab) (bu:c6 w IA n ic E (n+1) F) :
  gT u g B K (ab.setCell ⟨g,0,none⟩ (.slice E (n+1) F)) E (n+1) F S aZ bR ce bO rc (L++[x]) b7:=by
 have m:=h.blk.lt;have hs:=aA.size;have dz:∀b,(Value.slice E (n+1) F).ownBlock=some b->b≠g/\(Value.slice S aZ bR).ownBlock≠some b/\¬K b:=λb hp=>by
  rcases bu b hp with ac|ac
  .exact h.ig b ac
  .exact⟨ad,λhc=>by have:=(h.cl b hc).2;omega,λap=>by have:=h.kl b ap;omega⟩
 have bZ:Fr (λb=>b=g) ab (ab.setCell ⟨g,0,none⟩ (.slice E (n+1) F)):=(Fr.refl (λb=>b=g) ab).setCell (.inl rfl) _;refine⟨(h.blk.on aA λO=>(h.ig g O).1 rfl).aI 0 _,?_,?_,?_,?_,h.uR,h.xv,dz,h.cg,h.kg,λb ap=>by have:=h.kl b ap;simp;omega⟩
 .rw[Ig,Ie,Iy];exact aM.cU bZ.size λb al hp=>bZ.block b al λO=>by
   subst O;rcases hp with hp|hp
   .exact hp.1 rfl
   .exact(dz b hp).1 rfl
 .intro y a4;rcases Ii.1 a4 with a4|a4
  .exact h.ok y a4
  .simp at a4;subst a4;exact hx
 .obtain⟨xs,hx⟩:=h.EO;exact⟨xs,iv hx λb hp=>(bZ.block b (by have:=(hx.lt b hp).2;omega) (h.cg b hp).1).trans (aA.block b (hx.lt b hp).2 λO=>(h.ig b O).2.1 hp)⟩
 .refine(h.E9.al λb hp=>(bZ.block b (aC hp.1) hp.2.1).trans (aA.block b hp.1 hp.2.2.1)).mono λb hp=>⟨by have:=hp.1;simp;omega,hp.2.1,λO=>?_,hp.2.2.2⟩
  rcases bu b O with ac|ac
  .exact hp.2.2.1 ac
  .have:=hp.1;omega
theorem gT.Gy(h:gT u g B K w IA n ic S aZ bR ce bO rc L b7)(aM:ab.ownsRow B 22 1 (.slice Y (aZ+1) aF) (aZ+1) xs)(aA:Fr (λb=>(Value.slice S aZ bR).ownBlock=some b) w ab)(bu:c6 w S aZ bR Y (aZ+1) aF):
  gT u g B K (ab.setCell ⟨g,1,none⟩ (.slice Y (aZ+1) aF)) IA n ic Y (aZ+1) aF ce bO rc L b7:=by
 have m:=h.blk.lt;have hs:=aA.size;have e:∀b,(Value.slice Y (aZ+1) aF).ownBlock=some b->b≠g/\¬K b:=λb hp=>by
  rcases bu b hp with ac|ac
  .exact h.cg b ac
  .exact⟨ad,λap=>by have:=h.kl b ap;omega⟩
 have bZ:Fr (λb=>b=g) ab (ab.setCell ⟨g,1,none⟩ (.slice Y (aZ+1) aF)):=(Fr.refl (λb=>b=g) ab).setCell (.inl rfl) _;refine⟨(h.blk.on aA λO=>(h.cg g O).1 rfl).aI 1 _,?_,h.ok,?_,?_,h.uR,h.xv,λb hp=>⟨(h.ig b hp).1,λO=>?_,(h.ig b hp).2.2⟩,e,h.kg,λb ap=>by have:=h.kl b ap;simp;omega⟩
 .have ac:Gr (λb=>b≠g/\(Value.slice Y (aZ+1) aF).ownBlock≠some b/\¬K b/\(Value.slice S aZ bR).ownBlock≠some b) B 122 2 w IA n ic (L.map e7):=h.ins.mono λb al hp=>⟨hp.1,λO=>by
   rcases bu b O with ac|ac
   .exact hp.2.1 ac
   .omega,hp.2.2,hp.2.1⟩
  have J:=ac.cU (ab:=ab.setCell ⟨g,1,none⟩ (.slice Y (aZ+1) aF)) (by simp;omega) λb al hp=>(bZ.block b ad (by
    rcases hp with hp|hp
    .exact hp.1
    .exact(h.ig b hp).1)).trans (aA.block b al (by
    rcases hp with hp|hp
    .exact hp.2.2.2
    .exact(h.ig b hp).2.1))
  exact J.mono λb _ hp=>⟨hp.1,hp.2.1,hp.2.2.1⟩
 .exact⟨xs,iv aM λb hp=>bZ.block b (aM.lt b hp).2 (e b hp).1⟩
 .refine(h.E9.al λb hp=>(bZ.block b (aC hp.1) hp.2.1).trans (aA.block b hp.1 hp.2.2.2.1)).mono λb hp=>⟨by have:=hp.1;simp;omega,hp.2.1,hp.2.2.1,λO=>?_,hp.2.2.2.2⟩
  rcases bu b O with ac|ac
  .exact hp.2.2.2.1 ac
  .have:=hp.1;omega
 .rcases bu b O with ac|ac
  .exact(h.ig b hp).2.1 ac
  .have:=(h.ins.lt hp).2;omega
theorem gT.GV(h:gT u g B K w IA n ic S aZ bR ce bO rc L b7)(U:P=λb=>b<w.heap.size/\b≠g/\(Value.slice IA n ic).ownBlock≠some b/\(Value.slice S aZ bR).ownBlock≠some b/\¬K b)
  (aY:Sl ab (λb=>P b\/fresh w ab b) c a (f.map .i)) (aw:Ext w ab) (h0:0<a) (hc:a<=d) :
  gT u g B K (ab.setCell ⟨g,2,none⟩ (.slice c a d)) IA n ic S aZ bR c a d L f:=by
 subst U;have m:=h.blk.lt;have hs:=aw.size;have ac:=h.on (aw.mono λ_ h=>h.elim);have bZ:Fr (λb=>b=g) ab (ab.setCell ⟨g,2,none⟩ (.slice c a d)):=(Fr.refl (λb=>b=g) ab).setCell (.inl rfl) _;refine⟨ac.blk.aI 2 _,ac.ins.cU bZ.size λb al hp=>bZ.block b al ?_,h.ok,?_,?_,h0,hc,h.ig,h.cg,h.kg,λb ap=>by have:=h.kl b ap;simp;omega⟩
 .rcases hp with hp|hp
  .exact hp.1
  .exact(h.ig b hp).1
 .obtain⟨xs,hx⟩:=ac.EO;exact⟨xs,iv hx λb hp=>bZ.block b (hx.lt b hp).2 (h.cg b hp).1⟩
 .have bp:∀b,((b<w.heap.size/\b≠g/\(Value.slice IA n ic).ownBlock≠some b/\(Value.slice S aZ bR).ownBlock≠some b/\¬K b)\/fresh w ab b)->(b<ab.heap.size/\b≠g/\(Value.slice IA n ic).ownBlock≠some b/\(Value.slice S aZ bR).ownBlock≠some b/\¬K b):=λb hp=>by
   rcases hp with hp|hp
   .exact⟨by have:=hp.1;omega,hp.2⟩
   .have ac:=hp.1;exact⟨hp.2,ad,λO=>by have:=(h.ins.lt O).2;omega,λO=>by have:=(h.cl b O).2;omega,λap=>by have:=h.kl b ap;omega⟩
  exact((aY.mono bp).al λb hp=>bZ.block b hp.1 hp.2.1).mono λb hp=>⟨by have:=hp.1;simp;omega,hp.2⟩
end
def CB(w:World)(r:Option (Int×Int))(e:Ending)(ab:World):Prop:=
 e=.returned (.tuple #[.int .i64 ((r.map Prod.fst).getD 0),.int .i64 ((r.map Prod.snd).getD 0),.bool r.isSome])/\Ext w ab
structure qV(u:ax)(s:ah)(N:Nat)(w:World)(p:UV)(q:SV):Prop where
 hU:x0 u
 hS:aV u N s
 hN:N<=100000
 u:p.Ok w u
 s:q.Ok w s
theorem qV.on{u:ax}{s:ah}{N:Nat}{w ab:World}{p:UV}{q:SV}(h:qV u s N w p q)(he:Ext w ab):qV u s N ab p q:=⟨h.hU,h.hS,h.hN,h.u.on he,h.s.on he⟩
theorem Cm{u:ax}{t:Int}{f:ao}{x:az}(ht:dt s t=some f)(hx:dx u s t=some x):
  (x.op≠4->e6 u s t=none)/\(x.op=4->(bj u s f x.place).2≠0->e6 u s t=none)/\
  (x.op=4->(bj u s f x.place).2=0->free u.af s.table (bj u s f x.place).1 t=true->e6 u s t=none)/\
  (x.op=4->(bj u s f x.place).2=0->free u.af s.table (bj u s f x.place).1 t=false->e6 u s t=some ((bj u s f x.place).1,(iW s.table (bj u s f x.place).1).owner - 1)):=by
 unfold e6;rw[ht,hx];refine⟨λh=>?_,λac J=>?_,λac J aR=>?_,λac J aR=>?_⟩
 .simp[h]
 .simp[ac,J]
 .simp[ac,J,aR]
 .simp[ac,J,aR]
namespace Ad
theorem y1(h:p:=by
 have cE:=ay.2.2.1.lt;have cG:=H.2.size;have aE:=ae bg;have aq:=ae (H.1.on r).place;have aA:=ae G;obtain⟨aI,aj,af⟩:=(ay.2.1.aj bg).two;obtain⟨be,am,aH⟩:=(ay.2.2.1.aj bg).two;obtain⟨d0,aP,aQ⟩:=G.two;clear hV bg r G H;by_cases ch:x.op=4
 case neg=>
  have q1:(x.op != 4)=true:=by simpa using ch
  have bV:=ae (g.1 ch);clear ch g;go_wp2_with(fail)
  go_ret3
  exact⟨by rw[bV.o];rfl,ay.1.trans aE.o⟩
 have q1:(x.op != 4)=false:=by simpa using ch
 have b3:cP (bk u) ck.locals ck.aw x.place:=by
  obtain⟨len,_,ak⟩:=i.ok;exact Ec
 have K:=i.hS.xE;obtain⟨bx,cR,cr,_⟩:=i.th;have cj:t<=1000:=ad;have b2:=iP (s:=s) (nl:=ck.locals) (nk:=f.aw.length) i.hU.ok i.hF (Int.le_refl _) (by rw[i.hF.rn i.hp];exact b3);have Q:=aL b2.2 b3 (i.hS.tok aD.hN);have y:=aL (g.2.1 ch) (g.2.2.1 ch) (g.2.2.2 ch);clear ch g b3 b2 K bx cR cr;go_wp2_with(fail);refine(lD u s t f x.place N V ⟨GA,gn,gc,MA,mn,mc,PA,pn,pc⟩ ⟨bE,bM,br,TA,tn,tc,HA,hn,hc⟩ QA qm qc ⟨i.hU.ok,i.hS,i.sm,i.ht,⟨ck,i.hp,Q.2.1⟩,ay.2.2.2.u.on aE.o,ay.2.2.2.s.on aE.o,aq.o⟩).mono ?_;rintro e aT ⟨rfl,bw⟩;rw[js i.ht];have aJ:Ext V aT:=Fr.of bw;have bL:=ai Q.1 y.o;generalize bj u s f x.place=R at *;obtain⟨aa,z⟩:=R;have m:=(ay.1.trans aE.o).trans aJ;have l:=bF m ((ay.2.2.2.on aE.o).on aJ) ((ay.2.1.aj aE.o).aj aJ) ((ay.2.2.1.aj aE.o).aj aJ);clear aI aj af be am aH d0 aP aQ bw y;obtain⟨aI,aj,af⟩:=l.2.2.1.two;obtain⟨be,am,aH⟩:=l.2.2.2.two;clear aJ m;by_cases bi:z=0
 case neg=>
  have dq:(z != 0)=true:=by simpa using bi
  have bV:=ae (bL.2.1 bi);clear bi bL;go_wp2_with(fail)
  go_ret3
  exact⟨by rw[bV.o];rfl,l.1⟩
 have dq:(z != 0)=false:=by simpa using bi
 have U:=bL.1 bi;simp only at U;have au:=lv i.hU.ok;have aC:aa<=5000:=ad;have n:=U.1;have o:=ae U;have P:=ai (bL.2.2.1 bi) (bL.2.2.2 bi);clear bi U au bL;go_wp2_with(fail);refine(su MA TA mn mc tn tc u.af s.table aa t aT l.2.1.u.at_.m.uA i.hU.ok.Ej l.2.1.s.at_.t.holds Q.2.2 ad ad).mono ?_;rintro e b4 ⟨rfl,bq⟩;have aG:Ext aT b4:=Fr.of bq;have bl:=ai (l.1.trans aG) (l.2.1.on aG);have bO:=l.2.2.2.aj aG;clear aI aj af be am aH bq aG;obtain⟨be,am,aH⟩:=bO.two;clear bO
 cases a1:free u.af s.table aa t with
 | true=>
  have bV:=ae (P.1 a1);clear a1 P;go_wp2_with(fail)
  go_ret3
  exact⟨by rw[bV.o];rfl,bl.1⟩
 | false=>
  have hF:=P.2 a1;obtain⟨k,rfl⟩:=Ic n;have ap:k<tn:=by
   have ac:=bl.2.s.at_.t.1;have J:=bl.2.hS.table;have aR:=fv u.af;have bv:=o.o;simp only[Ib] at ac;omega
  obtain⟨v,to,hd,rfl,ao,hx,c0,c1⟩:=bl.2.s.at_.t.holds.hold ap;have bB:=(bl.2.hS.holds k hd hx).owner;have K:=bl.2.hS.xE;have I:IntKind.i64.wrap (hd.owner - 1)=hd.owner - 1:=IntWalk.i64_in _ ad;have E:(iW s.table (k:Int)).owner=hd.owner:=by simp[iW,hx]
  rw[E] at hF;have bV:=ae hF;have cI:=ai ap I;have b7:(k:Int)<(tn:Int):=ad;have bK:(0:Int)<=(k:Int):=ad;clear a1 P hF bB K E hx ap I;go_upto_region 7 with(fail);refine eB (λ_=>False) [(0,3),(1,3),(2,0),(3,3),(4,3),(5,3),(6,0),(7,3),(8,3),(9,3),(10,3)] ?_
  iterate 2 refine pf ?_
  refine ph ?_
  iterate 3 refine pf ?_
  refine ph ?_
  iterate 4 refine pf ?_
  refine aB ?_;go_wp2_with(fail)
  go_ret3
  exact⟨by rw[bV.o];simp[cI.2],bl.1.drew⟩
 ):p:=h
theorem jr(h:p:=by
 have aD:=ae h;clear h;dsimp only[UV.val,SV.val];go_enter func46,ntmps46;go_upto_region 1 with(fail);generalize ba:World.alloc _ _=W;have aw:=hJ ba;have bH:=fA ba;have bJ:=fB ba;have ay:=bF aw bH bJ (aD.on aw);obtain⟨aI,aj,af⟩:=bH.two;obtain⟨be,am,aH⟩:=bJ.two;clear ba aw bH bJ
 cases htop:dt s t with
 | none=>
  have bV:=ae (vo (u:=u) htop);have bX:=ae htop;clear htop;go_wp2_with(fail);refine(nB u s t W ⟨GA,gn,gc,MA,mn,mc,PA,pn,pc⟩ ⟨bE,bM,br,TA,tn,tc,HA,hn,hc⟩ ay.2.2.2.s bX.o).mono ?_;rintro e aO ⟨rfl,ag⟩;have bh:=ae (ay.1.trans ag);clear aI aj af be am aH ag;go_wp2_with(fail)
  go_ret3
  exact⟨by rw[bV.o];rfl,bh.alloc _⟩
 | some f=>
  obtain⟨ck,x,al,av⟩:=lS.of aD.hU aD.hS aD.hN htop;have g:=ae (Cm htop av);have i:=ae al;clear htop av al;go_wp2_with(fail);refine(nC u s t f ck x W ⟨GA,gn,gc,MA,mn,mc,PA,pn,pc⟩ ⟨bE,bM,br,TA,tn,tc,HA,hn,hc⟩ ⟨i.sm,i.ht,i.hp,i.hx,i.hF.proc,i.pc.1,i.il,i.kl,ay.2.2.2.u,ay.2.2.2.s⟩).mono ?_;exact y0
 ):p:=h
end Ad
open Ad in
theorem tm(_:Bool)(u:ax)(s:ah)(t:Int)(N:Nat)(w:World)(p:UV)(q:SV)(h:qV u s N w p q) :
  Calls prog 46 #[.agg (p.val u),.agg (q.val s),.int .i64 t] w (CB w (e6 u s t)):=by
 exact jq
theorem qV.len{u:ax}{N:Nat}{w:World}{p:UV}{q:SV}(h:qV u s N w p q):s.threads.length=q.hn/\1<=q.hn/\q.hn<=32:=by
 have ac:=h.s.at_.h.1;have J:=h.hS.xE;simp only[Ib] at ac;omega
theorem ri{u:ax}(h:k<s.threads.length):((da u s).take (k+1)).flatMap cD=((da u s).take k).flatMap cD++[.int .i64 (kd (e6 u s (k:Int)))]:=by
 have hx:(da u s)[k]?=some (kd (e6 u s (k:Int))):=by
  unfold da;rw[List.getElem?_map,List.getElem?_range h];rfl
 rw[a0 hx,iD]
namespace Ae
theorem jr(h:p:=by
 obtain⟨hlen,cM,z⟩:=h.len;have aD:=ai h hlen;clear h hlen;simp only at cM z;dsimp only[UV.val,SV.val];go_enter func27,ntmps27;go_upto_region 1 with(fail);generalize ba:World.alloc _ _=W;have aw:=hJ ba;have bH:=fA ba;have bJ:=fB ba;have ay:=bF aw bH bJ (aD.1.on aw);have cE:=bJ.lt;obtain⟨aI,aj,af⟩:=bH.two;obtain⟨be,am,aH⟩:=bJ.two;clear ba aw bH bJ;go_wp2_with(fail);clear aI aj af be am aH;go_loopw [5,13] (λv ci wr=>∃k:Nat,ci=.int .i64 k/\k<=hn/\wr.ownsRow W.heap.size 3 1 v k (((da u s).take k).flatMap cD)/\Below W.heap.size W wr) (λ_ ci _=>hn - (intOf ci).toNat)
 case atStart=>exact⟨0,rfl,ad,World.ownsRow_nil _ _ _ _,Below.refl _ _⟩
 case round=>
  obtain⟨k,rfl,ap,I,O⟩:=hrel;have aw:Ext W wr:=Fr.of O;have cb:=O.size;obtain⟨aI,aj,af⟩:=(ay.2.1.aj aw).two;obtain⟨be,am,aH⟩:=(ay.2.2.1.aj aw).two;have bf:=aL aw I O;clear aw I O;by_cases al:k<hn
  .have bP:(k:Int)<(hn:Int):=ad;have bs:=ae (ri (u:=u) (s:=s) (k:=k) (aC aD.2));go_wp2_with(fail);refine(tm false u s k N wr ⟨GA,gn,gc,MA,mn,mc,PA,pn,pc⟩ ⟨bE,bM,br,TA,tn,tc,HA,hn,hc⟩ (ay.2.2.2.on bf.1)).mono ?_;rintro e aO ⟨rfl,ag⟩;have bo:Below wr.heap.size wr aO:=Fr.ext ag;have az:=b5 bf.2.1 bo;have bw:Below W.heap.size W aO:=bf.2.2.trans (bo.mono cb);have f:=bw.size;generalize e6 u s (k:Int)=r at *;clear aI aj af be am aH ag bo;cases r
   all_goals
    go_wp2_with(at_builtin;refine cI _ dT (by rfl) (.tmp 26) (.tmp 28) (by rfl) W.heap.size _ _ _ _ (by rfl) az (by rfl) (by rfl) (mg _ _) ad ad f ?_;intro v1 aT E bT cm);go_roundw
    case rel=>exact⟨k+1,by go_num,ad,by rw[bs.o];exact E,eL bw az bT (Hx _) f⟩
    case measure=>exact aF
  .have bP:¬(k:Int)<(hn:Int):=ad;obtain rfl:k=hn:=ad;have hl:=aD.2;skip
   have c6:(da u s).take k=da u s:=Ih (by rw[ir];omega);obtain⟨cF,c1,rfl,a6,_,_,_⟩:=bI bf.2.1;have bV:=aL c6 a6 hl;clear c6 a6 hl;go_wp2_with(fail);go_ret;refine⟨cF,c1,rfl,bV.2.1,?_,ay.1.trans bf.1⟩;have:=bf.2.1;rw[bV.1] at this;exact jb this (me _) (by rw[ir,bV.2.2])
 ):p:=h
end Ae
open Ae in
theorem q5(u:ax)(s:ah)(N:Nat)(w:World)(p:UV)(q:SV)(h:qV u s N w p q) :
  Calls prog 27 #[.agg (p.val u),.agg (q.val s)] w λe ab=>∃A c,e=.returned (.slice A q.hn c)/\q.hn<=c/\cJ (EF cD) 1 ab ab.heap.size A q.hn (da u s)/\Ext w ab:=by
 exact jq
theorem eO{a b:List UInt8}(h:bR a T k=true)(hn:strOf a≠strOf b):bR b T k=false:=by
 unfold bR at h ⊢
 cases a5:T[k]? with
 | none=>rfl
 | some t=>
  rw[a5] at h;simp only[Il,IG] at h;simp only[Bool.and_eq_false_iff,decide_eq_false_iff_not];exact .inr λO=>hn (h.2.symm.trans O)
def Bn:Value->Nat
 | .slice _ n _=>n
 | _=>0
structure Cx(T:List Tok)(k:Nat)(r:List Tok):Prop where
 pos:0<r.length
 hW:r.length<=6
 mu:∀j,j<r.length->bR [109,117,116,101,120] T (k+3*j)=true
 nm:∀j t,r[j]?=some t->T[k+3*j+1]?=some t/\t.kind=1
 co:∀j,j<r.length->bR [44] T (k+3*j+2)=decide (j+1<r.length)
 cl:∀j,j+1=r.length->bR [41] T (k+3*j+2)=true
def jT(t:Tok):ByteArray×Bool:=(strOf t.text,true)
theorem w3{w:World}(s:ByteArray)(b:Bool):(ch (s,b)).rep w P [.string s,.bool b]:=by
 unfold ch;simp only[D.rep,D.aO]
 first|exact⟨_,rfl,_,rfl,rfl⟩|(simp;done)|skip
theorem Fr.cut{M:Nat->Prop}{w ab:World}(h:Fr (λb=>M b\/w.heap.size<=b) w ab):Fr M w ab:=⟨h.os,h.tape,h.output,h.size,λk ap hn=>h.block k ap λhm=>hm.elim hn λh=>ad⟩
namespace Aj
theorem yG(h:p:=by
 have hd:(ch (jT t)).rep Y (kJ (λb=>w.heap.size<=b) Y (.slice D j L)) (#[.string (strOf t.text),.bool true]:Array Value).toList:=w3 _ _;obtain⟨eK,a7⟩:=aN hd bq;clear ca bj bk I bq y Z bU aW bx hd;go_wp2_with(at_builtin;refine bN AG rfl (.tmp 33) (.tmp 35) rfl bY.2.2.1 (d:=ch (jT t)) (cs:=#[.string (strOf t.text),.bool true]) eK.o rfl rfl rfl ad ad ad ?_;intro cl c3 cG b0 g2 cB cQ;have b2:=aL b0 g2 cQ;clear b0 g2 cB cQ);have K:bu cG g A n c T (k+1+3*j+2) deep:=bY.1.on b2.2.1 λb O=>by have:=(a7.o b O).1;omega
 have s:Fr (λb=>b=g) w cG:=Fr.cut (Fr.trans bY.2.1 (b2.2.1.mono λb O=>.inr (a7.o b O).1));have x:Gr (λb=>w.heap.size<=b) w.heap.size 106 2 cG cl (j+1) c3 (((r.take (j+1)).map jT).map ch):=by
  exact yo
 exact DH
 ):p:=h
theorem yR(h:p:=by
 have dh:((j:Int) == 6)=false:=by simp;omega
 clear U hF bS ht bq;go_wp2_with(fail);refine(show Calls prog 62 #[.pointer (some ⟨g,0,none⟩),.string ⟨#[109,117,116,101,120]⟩] wr _ from cp [109,117,116,101,120] g A n c T (k+1+3*j) deep wr a8.1 true (bG.2.2.mu j ad) (λ_=>ad)).mono ?_;rintro e b4 ⟨rfl,U,R⟩;have bI:=ai (show bu b4 g A n c T (k+1+3*j+1) deep from by simpa using U) R;have cx:=R.size;clear U R cR f G;go_upto_region 9 with(fail);generalize hX:World.alloc _ _=X;have bW:=bm hX;have bQ:=aU hX;have aV:=aL (bI.1.aj bW) bW bQ;have Q:=bQ.lt;clear hX bW bQ;go_wp2_with(fail);refine(mo g A n c T (k+1+3*j+1) deep X t aV.1 (bG.2.2.nm j t a8.2.2.2.1).1 (bG.2.2.nm j t a8.2.2.2.1).2 ad).mono ?_;rintro e eG ⟨rfl,U,z⟩;have bH:=aV.2.2.on z ad;have cq:=aL (show bu eG g A n c T (k+1+3*j+2) deep from U) z bH;have cY:=z.size;obtain⟨bU,aW,bx⟩:=bH.two;clear U z bH;go_upto_region 10 with(fail);generalize ca:World.setCell _ _ _=Y;have bj:=cT ca;have bk:an Y b4.heap.size 106 #[.string (strOf t.text),.bool true]:=ca▸cq.2.2.aI 0 _;have cu:=bj.size;have I:Fr (λb=>b=g\/b=b4.heap.size) wr Y:=Fr.trans (Fr.trans (Fr.trans (bI.2.mono λ_ h=>.inl h) (aV.2.1.mono λ_ h=>h.elim)) (cq.2.1.mono λ_ h=>.inl h)) (bj.mono λ_ h=>.inr h);exact yF
 ):p:=h
theorem yE(h:p:=by
 go_loopw [3] (λaR wr=>∃(j:Nat) (D:IP) (L:Nat),aR=.slice D j L/\j<N/\bu wr g A n c T (k+1+3*j) deep/\Fr (λb=>b=g) w wr/\Gr (λb=>w.heap.size<=b) w.heap.size 106 2 wr D j L (((r.take j).map jT).map ch)) (λaR _=>N - Bn aR)
 case atStart=>exact⟨0,none,0,rfl,l,bi.1,bi.2,Gr.nil _ _ _ _ _⟩
 case round=>
  exact yQ
 ):p:=h
end Aj
open Aj in
theorem uN(g:Nat)(A:IP)(n c:Nat)(T:List Tok)(k deep:Nat)(r:List Tok)(w:World)(h:bu w g A n c T k deep)(ac:bR [40] T k=true)(J:bR [41] T (k+1)=false)(br:Cx T (k+1) r)(ap:k+1+3*r.length<n) :
  Calls prog 66 #[.pointer (some ⟨g,0,none⟩)] w λe ab=>∃D m L,e=.returned (.slice D m L)/\m<=L/\bu ab g A n c T (k+1+3*r.length) deep/\Fr (λb=>b=g) w ab/\Sl ab (fresh w ab) D m ((r.map jT).map ch):=by
 have H:=ae h;have cg:=h.blk.lt;have l:=br.pos;have F:=br.hW;have bG:=aL ac J br;clear h ac J br;go_enter func66,ntmps66;exact yD
def jP(t:Tok):cW:=.mx ⟨strOf t.text,none⟩
theorem wS{w:World}(t:Tok):(ep (jP t)).rep w P [.bool true,.string (strOf t.text),.slice none 0 0,.int .i64 0,.int .i64 0,.string ⟨#[]⟩,.slice none 0 0]:=by
 have h:=wx (w:=w) (P:=P) (r:=⟨strOf t.text,none⟩) (IA:=none) (i:=0) (ic:=0) (Sl.bH _) (Hx _);exact h
namespace Ak
theorem yG(h:p:=by
 have hd:(ep (jP t)).rep Y (kJ (λb=>w.heap.size<=b) Y (.slice D j L)) (#[.bool true,.string (strOf t.text),.slice none 0 0,.int .i64 0,.int .i64 0,.string ⟨#[]⟩,.slice none 0 0]:Array Value).toList:=wS t;obtain⟨eK,a7⟩:=aN hd bq;clear ca bj bk I bq y Z bU aW bx hd;go_wp2_with(at_builtin;refine bN q0 rfl (.tmp 23) (.tmp 25) rfl bY.2.2.1 (d:=ep (jP t)) (cs:=#[.bool true,.string (strOf t.text),.slice none 0 0,.int .i64 0,.int .i64 0,.string ⟨#[]⟩,.slice none 0 0]) eK.o rfl rfl rfl ad ad ad ?_;intro cl c3 cG b0 g2 cB cQ;have b2:=aL b0 g2 cQ;clear b0 g2 cB cQ);have K:bu cG g A n c T (k+1+3*j+2) deep:=bY.1.on b2.2.1 λb O=>by have:=(a7.o b O).1;omega
 have s:Fr (λb=>b=g) w cG:=Fr.cut (Fr.trans bY.2.1 (b2.2.1.mono λb O=>.inr (a7.o b O).1));have x:Gr (λb=>w.heap.size<=b) w.heap.size 195 7 cG cl (j+1) c3 (((r.take (j+1)).map jP).map ep):=by
  exact yo
 exact DH
 ):p:=h
theorem yR(h:p:=by
 have ct:bR [91] T (k+1+3*j+1+1)=false:=by
  by_cases f0:j+1<N
  .exact eO (by rw[bG.2.2.co j ad];exact decide_eq_true ad) (by decide)
  .exact eO (bG.2.2.cl j ad) (by decide)
 have ah:=ae ct;clear U hF bS ht bq ct;go_upto_region 7 with(fail);generalize hX:World.alloc _ _=X;have bW:=bm hX;have bQ:=aU hX;have aV:=aL (a8.1.aj bW) bW bQ;have Q:=bQ.lt;clear hX bW bQ cR f G;go_wp2_with(fail);refine(show Calls prog 62 #[.pointer (some ⟨g,0,none⟩),.string ⟨#[109,117,116,101,120]⟩] X _ from cp [109,117,116,101,120] g A n c T (k+1+3*j) deep X aV.1 true (bG.2.2.mu j ad) (λ_=>ad)).mono ?_;rintro e b4 ⟨rfl,U,R⟩;have bI:=aL (show bu b4 g A n c T (k+1+3*j+1) deep from by simpa using U) R (aV.2.2.on R ad);have cx:=R.size;clear U R;go_wp2_with(fail);refine(uO g A n c T (k+1+3*j+1) deep b4 t bI.1 (bG.2.2.nm j t a8.2.2.2.1).1 (bG.2.2.nm j t a8.2.2.2.1).2 ah.o ad).mono ?_;rintro e eG ⟨rfl,U,z⟩;have bH:=bI.2.2.on z ad;have cq:=aL (show bu eG g A n c T (k+1+3*j+2) deep from U) z bH;have cY:=z.size;obtain⟨bU,aW,bx⟩:=bH.two;clear U z bH;go_upto_region 10 with(fail);generalize ca:World.setCell _ _ _=Y;obtain⟨bk,bj⟩:=jR 0 [.bool true,.string (strOf t.text),.slice none 0 0,.int .i64 0,.int .i64 0,.string ⟨#[]⟩,.slice none 0 0] cq.2.2 ca;have bk:an Y wr.heap.size 195 #[.bool true,.string (strOf t.text),.slice none 0 0,.int .i64 0,.int .i64 0,.string ⟨#[]⟩,.slice none 0 0]:=bk;have cu:=bj.size;have I:Fr (λb=>b=g\/b=wr.heap.size) wr Y:=Fr.trans (Fr.trans (Fr.trans (aV.2.1.mono λ_ h=>h.elim) (bI.2.1.mono λ_ h=>.inl h)) (cq.2.1.mono λ_ h=>.inl h)) (bj.mono λ_ h=>.inr h);exact yF
 ):p:=h
theorem yE(h:p:=by
 go_loopw [3] (λaR wr=>∃(j:Nat) (D:IP) (L:Nat),aR=.slice D j L/\j<N/\bu wr g A n c T (k+1+3*j) deep/\Fr (λb=>b=g) w wr/\Gr (λb=>w.heap.size<=b) w.heap.size 195 7 wr D j L (((r.take j).map jP).map ep)) (λaR _=>N - Bn aR)
 case atStart=>exact⟨0,none,0,rfl,l,bi.1,bi.2,Gr.nil _ _ _ _ _⟩
 case round=>
  exact yQ
 ):p:=h
end Ak
open Ak in
theorem BN(g:Nat)(A:IP)(n c:Nat)(T:List Tok)(k deep:Nat)(r:List Tok)(w:World)(h:bu w g A n c T k deep)(ac:bR [40] T k=true)(J:bR [41] T (k+1)=false)(br:Cx T (k+1) r)(ap:k+1+3*r.length<n) :
  Calls prog 122 #[.pointer (some ⟨g,0,none⟩)] w λe ab=>∃D m L,e=.returned (.slice D m L)/\m<=L/\bu ab g A n c T (k+1+3*r.length) deep/\Fr (λb=>b=g) w ab/\Sl ab (fresh w ab) D m ((r.map jP).map ep):=by
 have H:=ae h;have cg:=h.blk.lt;have l:=br.pos;have F:=br.hW;have bG:=aL ac J br;clear h ac J br;go_enter func122,ntmps122;exact yD
def wO(T:List Tok)(k:Nat)(r:List Tok):Prop:=bR [40] T k=true/\((r=[]/\bR [41] T (k+1)=true)\/(bR [41] T (k+1)=false/\Cx T (k+1) r))
def eu(k:Nat)(r:List Tok):Nat:=if r.length=0 then k+2 else k+1+3*r.length
theorem BM(g:Nat)(A:IP)(n c:Nat)(T:List Tok)(k deep:Nat)(r:List Tok)(w:World)(h:bu w g A n c T k deep)(br:wO T k r)(ap:eu k r<n) :
  Calls prog 122 #[.pointer (some ⟨g,0,none⟩)] w λe ab=>∃D m L,e=.returned (.slice D m L)/\m<=L/\bu ab g A n c T (eu k r) deep/\Fr (λb=>b=g) w ab/\Sl ab (fresh w ab) D m ((r.map jP).map ep):=by
 obtain⟨h0,br|br⟩:=br
 .obtain⟨rfl,ac⟩:=br;refine(Db g A n c T k deep w h h0 ac ap).mono ?_;exact yb
 .have hp:r.length≠0:=by have:=br.2.pos;omega
  have he:eu k r=k+1+3*r.length:=by unfold eu;rw[if_neg hp]
  rw[he] at ap ⊢;exact BN g A n c T k deep r w h h0 br.1 br.2 ap
theorem uM(g:Nat)(A:IP)(n c:Nat)(T:List Tok)(k deep:Nat)(r:List Tok)(w:World)(h:bu w g A n c T k deep)(br:wO T k r)(ap:eu k r<n) :
  Calls prog 66 #[.pointer (some ⟨g,0,none⟩)] w λe ab=>∃D m L,e=.returned (.slice D m L)/\m<=L/\bu ab g A n c T (eu k r) deep/\Fr (λb=>b=g) w ab/\Sl ab (fresh w ab) D m ((r.map jT).map ch):=by
 obtain⟨h0,br|br⟩:=br
 .obtain⟨rfl,ac⟩:=br;refine(xt g A n c T k deep w h h0 ac ap).mono ?_;exact yb
 .have hp:r.length≠0:=by have:=br.2.pos;omega
  have he:eu k r=k+1+3*r.length:=by unfold eu;rw[if_neg hp]
  rw[he] at ap ⊢;exact uN g A n c T k deep r w h h0 br.1 br.2 ap
def Bu(T:List Tok):Nat->Nat->Option (List Tok)
 | 0,_=>none
 | f+1,k=>match T[k+1]? with
  | none=>none
  | some t=>
   if t.kind=1 then
    if bR [109,117,116,101,120] T k then
     if bR [44] T (k+2) then (Bu T f (k+3)).map (t::·) else if bR [41] T (k+2) then some [t] else none
    else none
   else none
def ux(T:List Tok)(k:Nat):Option (List Tok):=if bR [40] T k then (if bR [41] T (k+1) then some [] else Bu T 6 (k+1)) else none
theorem Bv:∀(f k:Nat) (r:List Tok),f<=6->Bu T f k=some r->Cx T k r/\r.length<=f:=by
 intro f
 induction f with
 | zero=>intro k r _ h;cases h
 | succ f aa=>
  intro k r aA h;simp only[Bu] at h;split at h
  .cases h
  .rename_i t ht;split at h
   .rename_i bp;split at h
    .rename_i hm;split at h
     .rename_i hc
      cases aY:Bu T f (k+3) with
      | none=>rw[aY] at h;cases h
      | some l=>
       rw[aY] at h;simp only[Option.map_some] at h;injection h with h;subst h;obtain⟨hl,hn⟩:=aa (k+3) l ad aY;have hp:=hl.pos;refine⟨⟨by simp,by simp;omega,?_,?_,?_,?_⟩,by simp;omega⟩
       .intro j a1
        cases j with
        | zero=>exact hm
        | succ j=>rw[show k+3*(j+1)=k+3+3*j by omega];exact hl.mu j (by simpa using a1)
       .intro j d i
        cases j with
        | zero=>injection i with i;subst i;exact⟨ht,bp⟩
        | succ j=>rw[show k+3*(j+1)=k+3+3*j by omega];exact hl.nm j d (by simpa using i)
       .intro j a1
        cases j with
        | zero=>rw[show k+3*0+2=k+2 by omega,hc];simp;omega
        | succ j=>rw[show k+3*(j+1)+2=k+3+3*j+2 by omega,hl.co j (by simpa using a1)];simp
       .intro j a1
        cases j with
        | zero=>simp only[Im] at a1;omega
        | succ j=>rw[show k+3*(j+1)+2=k+3+3*j+2 by omega];exact hl.cl j (by simpa using a1)
     .rename_i hc;split at h
      .rename_i aR;injection h with h;subst h;refine⟨⟨by simp,by simp,?_,?_,?_,?_⟩,by simp⟩
       .intro j a1;have:j=0:=by simp at a1;omega
        subst this;exact hm
       .intro j d i
        cases j with
        | zero=>injection i with i;subst i;exact⟨ht,bp⟩
        | succ j=>cases i
       .intro j a1;have:j=0:=by simp at a1;omega
        subst this;simpa using hc
       .intro j a1;have:j=0:=by simp at a1;omega
        subst this;exact aR
      .cases h
    .cases h
   .cases h
theorem sD{r:List Tok}(h:ux T k=some r):wO T k r:=by
 unfold ux at h;split at h
 .rename_i h0;split at h
  .rename_i ac;injection h with h;exact⟨h0,.inl ⟨h.symm,ac⟩⟩
  .rename_i ac;exact⟨h0,.inr ⟨by simpa using ac,(Bv 6 _ _ (Hx _) h).1⟩⟩
 .cases h
theorem wj(k:Nat)(r:List Tok):k+2<=eu k r:=by
 unfold eu;split<;>omega
end Go.Proofs.YtajlmkkidmjgoaaGreatDoor

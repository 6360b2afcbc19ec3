/- Part 36 of the proof (Pg2 PgD), without conditions of its own. -/
import Derived.Test.YtjhgbdckgkppnaaGreatQ35
namespace Go.Proofs.YtjhgbdckgkppnaaGreat
open Go.RowKit Go.Proofs.Tryz
set_option maxRecDepth 1000000
set_option maxHeartbeats 25600000
set_option linter.unusedVariables false
variable{bv:Int}{ps:List (ByteArray×Bool)}{i:Nat}{p:Prop}
namespace zK
theorem gz(h:p:=by
 refine bU ?_;generalize bo:World.setCell _ _ _=Y;have hH:wr.heap.size≤aj:=ad;obtain⟨bA,bw,bb⟩:=dA (M:=fun b=>b=S.heap.size+1) [.string (⟨#[103]⟩++strOf [byteOf bv]),.int .i64 (IntKind.i64.wrap ((j:Int) - 2))] (by rfl) aq t hH bo;obtain⟨an,bR⟩:∃an:Int,an=IntKind.i64.wrap ((j:Int) - 2):=⟨_,rfl⟩
 rw[←bR] at bA;rw[IntWalk.i64_in _ ad] at bR;rw[AB ad aZ.o] at bA;have fc:=b9.next (aC.ch bb fun b O h=>ad) bw;have bm:-2≤an∧an≤2:=ad;have bM:=ai fc bA;have aw:=ae bm;clear bo bA bw bb fc bR bm aC t aq bD bE b5 ba;obtain⟨a0,al,af⟩:=bM.1.blk.two;obtain⟨bD,bE,b5⟩:=bM.2.two;have F:∀b,(Value.slice GA i gc).ownBlock=some b→I≤b∧b<wr.heap.size:=fun b O=>b9.rows.one.lt O;have aU:∀b,(Value.slice o i u).ownBlock=some b→I≤b∧b<wr.heap.size:=fun b O=>b9.rows.two.lt O;have bW:¬(Value.slice GA i gc).ownBlock=some (S.heap.size+1+1):=fun h=>by have:=(F _ h).1;omega
 have ce:¬(Value.slice GA i gc).ownBlock=some aj:=fun h=>by have:=(F _ h).2;omega
 have hg:I≤Y.heap.size:=bM.1.hD.2;have cW:wr.heap.size≤Y.heap.size:=by have:=bM.2.lt;omega
 have bB:=ai F aU;clear F aU;go_upto_region 18 with(fail);refine o2 (fun b=>(Value.slice GA i gc).ownBlock=some b) [13,17] (.free 0 (.free 1 (.free 2 (.free 3 (.free 4 (.held 5 (.held 6 (.free 9 (.free 10 (.held 11 (.pick [7,12] (fun i=>bif i == 7 then .pick [8,12] (fun i=>bif i == 8 then .pick [12] (fun _=>.pick [13] (fun _=>.free 14 (.free 15 (.free 16 (.pick [17] (fun _=>.free 18 (.stop))))))) else .pick [8] (fun _=>.pick [13] (fun _=>.free 14 (.free 15 (.free 16 (.pick [17] (fun _=>.free 18 (.stop)))))))) else .pick [7] (fun _=>.pick [8] (fun _=>.pick [13] (fun _=>.free 14 (.free 15 (.free 16 (.pick [17] (fun _=>.free 18 (.stop)))))))))))))))))))) ?_
 iterate 5 refine tf ?_
 iterate 2 refine mE ?_
 iterate 2 refine tf ?_
 refine mE ?_;clear a0 al af bD bE b5;refine f5 (P:=?hd) (ops:=?hh) (Q:=?hj) (R:=?hm) (tails:=?hn) (rest:=.pick [13] (fun _=>.free 14 (.free 15 (.free 16 (.pick [17] (fun _=>.free 18 (.stop))))))) (aa:=?hf)
  (C:=fun(_:Nat) a9 A2 bZ V=>True∧∃co ej,Ext Y co∧Gr (fun b=>I≤b∧(Value.slice o i u).ownBlock≠some b) I 136 2 ej A2 (i+1) bZ (G.map hq++[hq (dr i,an)])∧Fr (fun b=>(Value.slice GA i gc).ownBlock=some b) co ej∧c4 co GA i gc A2 (i+1) bZ∧Ext ej V∧ag V a9 9 #[.string (dr i)]) (fun key=>?gZ) ?gY
 case gZ=>
  refine aR ?_ ?_
  ·
   refine ja ?_;generalize hV:World.drew (World.alloc _ _)=c3;have e1:Ext Y c3:=hV▸(GN.alloc _).drew;have cd:ag c3 Y.heap.size 136 #[.string (dr i),.int .i64 an]:=hV▸GO;clear hV;refine aR ?_ ?_
   ·
    refine az rfl (fun K hK=>?_) rfl;rw[if_pos (by rfl)];refine d8 sI (.tmp 108) (.tmp 110) (by rfl) (bM.1.rows.al e1).one cd (qv.2 rfl:(hq (dr i,an)).rep c3 _ _) (by rfl) (by rfl) (by rfl) ad ad (aB e1.size) ?_;intro A2 bZ aQ b4 aF dS c1;refine hK _ _ (aF) ?_;clear hK K
    try simp only[PU]
    refine ak ?_;refine dU ?_;have av:True∧∃co ej,Ext Y co∧Gr (fun b=>I≤b∧(Value.slice o i u).ownBlock≠some b) I 136 2 ej A2 (i+1) bZ (G.map hq++[hq (dr i,an)])∧Fr (fun b=>(Value.slice GA i gc).ownBlock=some b) co ej∧c4 co GA i gc A2 (i+1) bZ∧Ext ej (aQ.alloc (.cells #[.string (dr i)] 9))∧ag (aQ.alloc (.cells #[.string (dr i)] 9)) aQ.heap.size 9 #[.string (dr i)]:=⟨trivial,c3,aQ,e1,b4,aF,dS,GN.alloc _,GO⟩
    clear b4 dS;revert av;generalize aQ.heap.size=a9;generalize Y.heap.size=cb;intro av;exact key cb a9 A2 bZ _ av
   ·
    refine dU ?_;generalize hV:World.alloc _ _=y;have r:ag y c3.heap.size 9 #[.string (dr i)]:=hV▸GO;have aX:=by have:=cd.alloc (.cells #[.string (dr i)] 9);rw[hV] at this;exact this
    have e2:Ext Y y:=hV▸e1.alloc _;clear hV cd;refine ak ?_;refine az rfl (fun K hK=>?_) rfl;rw[if_pos (by rfl)];refine d8 sI (.tmp 108) (.tmp 110) (by rfl) (bM.1.rows.al e2).one aX (qv.2 rfl:(hq (dr i,an)).rep y _ _) (by rfl) (by rfl) (by rfl) ad ad (aB e2.size) ?_;intro A2 bZ aQ b4 aF dS c1;refine hK _ _ (aF) ?_;clear hK K
    try simp only[PU]
    have a2:¬(Value.slice GA i gc).ownBlock=some c3.heap.size:=fun O=>by have:=(bB.1 _ O).2;have:=e1.size;omega
    have av:True∧∃co ej,Ext Y co∧Gr (fun b=>I≤b∧(Value.slice o i u).ownBlock≠some b) I 136 2 ej A2 (i+1) bZ (G.map hq++[hq (dr i,an)])∧Fr (fun b=>(Value.slice GA i gc).ownBlock=some b) co ej∧c4 co GA i gc A2 (i+1) bZ∧Ext ej aQ∧ag aQ c3.heap.size 9 #[.string (dr i)]:=⟨trivial,y,aQ,e2,b4,aF,dS,GN,r.on aF a2⟩
    clear b4 dS;revert av;generalize c3.heap.size=a9;generalize Y.heap.size=cb;intro av;exact key cb a9 A2 bZ _ av
  ·
   refine ja ?_;generalize hV:World.drew (World.alloc _ _)=c3;have r:ag c3 Y.heap.size 9 #[.string (dr i)]:=hV▸GO;have e1:Ext Y c3:=hV▸(GN.alloc _).drew;clear hV;refine ak ?_;refine dU ?_;generalize hV:World.alloc _ _=y;have e2:Ext Y y:=hV▸e1.alloc _;have cd:ag y c3.heap.size 136 #[.string (dr i),.int .i64 an]:=hV▸GO;have bd:ag y Y.heap.size 9 #[.string (dr i)]:=hV▸r.alloc _;clear hV;refine ak ?_;refine az rfl (fun K hK=>?_) rfl;rw[if_pos (by rfl)];refine d8 sI (.tmp 108) (.tmp 110) (by rfl) (bM.1.rows.al e2).one cd (qv.2 rfl:(hq (dr i,an)).rep y _ _) (by rfl) (by rfl) (by rfl) ad ad (aB e2.size) ?_;intro A2 bZ aQ b4 aF dS c1;refine hK _ _ (aF) ?_;clear hK K
   try simp only[PU]
   have a2:¬(Value.slice GA i gc).ownBlock=some Y.heap.size:=fun O=>by have:=(bB.1 _ O).2;omega
   have av:True∧∃co ej,Ext Y co∧Gr (fun b=>I≤b∧(Value.slice o i u).ownBlock≠some b) I 136 2 ej A2 (i+1) bZ (G.map hq++[hq (dr i,an)])∧Fr (fun b=>(Value.slice GA i gc).ownBlock=some b) co ej∧c4 co GA i gc A2 (i+1) bZ∧Ext ej aQ∧ag aQ Y.heap.size 9 #[.string (dr i)]:=⟨trivial,y,aQ,e2,b4,aF,dS,GN,bd.on aF a2⟩
   clear b4 dS;revert av;generalize Y.heap.size=a9;generalize c3.heap.size=cb;intro av;exact key cb a9 A2 bZ _ av
 case gY=>
  rintro cb a9 A2 bZ V ⟨_,aH,aQ,e1,b4,aF,dS,e2,r⟩;have s1:=e1.size;have s2:=aF.size;have aW:=e2.size;obtain⟨F,aU⟩:=bB.o;have eN:=((bM.1.rows.al e1).grow b4 aF dS).al e2;have bP:ag V (S.heap.size+1+1) _ _:=((bM.1.blk.al e1).on aF bW).al e2;have gl:¬(Value.slice o i u).ownBlock=some (S.heap.size+1+1):=fun h=>by have:=(aU _ h).1;omega
  refine ak ?_;refine aY rfl (fun K hK=>?_) rfl;rw[if_pos (by rfl)];refine d8 jt (.tmp 112) (.tmp 115) (by rfl) eN.two r (rI.2 rfl:(D.s (dr i)).rep V _ _) (by rfl) (by rfl) (by rfl) ad ad ad ?_;intro eh fE cy g2 eL di c2;have m:=(eN.swap.grow g2 eL di).swap;have b1:=bP.on eL gl;have aG:Fr (fun b=>(Value.slice GA i gc).ownBlock=some b∨(Value.slice o i u).ownBlock=some b) Y cy:=((((e1.mono fun _ h=>h.elim).trans (aF.mono fun _ h=>.inl h)).trans (e2.mono fun _ h=>h.elim)).trans (eL.mono fun _ h=>.inr h))
  have z:=ai m aG;clear b4 aF dS e1 e2 r eN bP g2 eL di c2 m aG;obtain⟨a0,al,af⟩:=b1.two;clear b1;refine hK _ _ ?_;clear hK K
  try simp only[PU]
  iterate 3 refine tf ?_
  refine ak ?_;refine aY rfl (fun K hK=>?_) rfl;go_simp;refine hK _ _ ?_;clear hK K
  try simp only[PU]
  refine tf ?_;refine bU ?_;generalize ah:World.setCell _ _ _=gL;have fn:jO I 136 2 9 1 cy A2 (i+1) bZ ((G++[(dr i,an)]).map hq) eh (i+1) fE (((G++[(dr i,an)]).map (·.1)).map D.s):=by
   simp only[Gi,Gh,GC];exact z.1
  have f:=bM.1.add fn z.2 ad (b9.vW.snoc cc aw.1 aw.2);rw[ah] at f;have ch:=ae f;clear ah f fn a0 al af;go_wp2_with (fail);go_roundw
  case rel=>exact⟨i+1,A2,bZ,G++[(dr i,an)],eh,fE,by go_num,rfl,ad,ch.o⟩
  case measure=>simp[intOf];omega
 ):p:=h
theorem wV(h:p:=by
 generalize cl:IntKind.u8.wrap (IntKind.i64.wrap (48+(i:Int)))=bv;obtain⟨X,hT⟩:∃X,X=wr.heap.size:=⟨_,rfl⟩
 have aZ:=ae cl;clear cl;have hL:(strOf [byteOf bv]).size=1:=aI _;have H:=ai b9.src (Fr.refl (fun b=>b=S.heap.size+1) wr);refine f4 (P:=?mM) (ops:=?gQ) (Q:=?gR) (R:=?gS) (tails:=?gT) (rest:=.pick [14] (fun _=>.stop)) (aa:=?gP)
  (C:=fun(a1 aj j:Nat) bF=>bV bF (S.heap.size+1) A n c l∧Fr (fun b=>b=S.heap.size+1) wr bF∧ag bF aj 136 #[.string ⟨#[]⟩,.int .i64 0]∧X≤aj∧j<5) (fun key=>?gh) ?gg
 case gh=>
  refine hM ?_ ?_ ?_
  ·
   refine dU ?_;refine aO (fun V=>Ext wr V∧ag V wr.heap.size 5 #[.int .u8 bv]) ⟨(GN.alloc _).drew,GO⟩ (fun fg hV=>?_);have J:=ai (H.1.ch hV.1 fun _ _ h=>h) (H.2.trans (hV.1.mono fun _ h=>h.elim));have g7:wr.heap.size≤wr.heap.size:=H.2.size;have Z:=ae hV.2;clear hV;obtain⟨e0,bl,a5⟩:=Z.two;refine bx (v:=?_) rfl (by rfl) (fun V hV=>?_) ?_;rotate_left
   ·have bJ:=c6 V (wr.heap.size) bv ((hV.cell a5 ad).trans (e0 0))
    (go_simp<;>with_reducible rfl)
   try simp only[PU]
   clear e0 bl a5;refine tf ?_;refine aR ?_ ?_
   ·
    refine az rfl (fun K hK=>?_) rfl;go_simp;refine(aN _ (S.heap.size+1) A n c l 5 (J.1.ch (M:=fun _=>False) GN (fun _ _ h=>h)) ad ad).mono ?_;rintro e gN ⟨cr,rfl,aV,O,h,he⟩;obtain⟨j,rfl⟩:=Gg aV;have ba:j<5:=ad;have t:Fr (fun b=>b=S.heap.size+1) fg gN:=he.fr;have aD:=ai h (J.2.trans t);have b2:=ae (Z.on t ad);refine hK _ _ (he.fr) ?_;clear hK K
    try simp only[PU]
    clear h he t aV O
    iterate 2 refine tf ?_
    refine ak ?_;refine dU ?_;refine aO (fun V=>Ext gN V∧ag V gN.heap.size 136 #[.string ⟨#[]⟩,.int .i64 0]) ⟨GN.alloc _,GO⟩ (fun g3 hV=>?_);have bc:=ai (aD.1.ch hV.1 fun _ _ h=>h) (aD.2.trans (hV.1.mono fun _ h=>h.elim));have g8:wr.heap.size≤gN.heap.size:=aD.2.size;have cf:=ae hV.2;have g4:=ae (b2.al hV.1);clear hV;have av:=And.intro bc.1 (And.intro bc.2 (And.intro cf.o (And.intro (show X≤gN.heap.size by omega) ba)));revert av;generalize wr.heap.size=a1;generalize gN.heap.size=aj;intro av;exact key a1 aj j _ av
   ·
    refine dU ?_;refine aO (fun V=>Ext fg V∧ag V fg.heap.size 136 #[.string ⟨#[]⟩,.int .i64 0]) ⟨GN.alloc _,GO⟩ (fun gU hV=>?_);have be:=ai (J.1.ch hV.1 fun _ _ h=>h) (J.2.trans (hV.1.mono fun _ h=>h.elim));have g9:wr.heap.size≤fg.heap.size:=J.2.size;have cs:=ae hV.2;have b3:=ae (Z.al hV.1);clear hV;refine ak ?_;refine az rfl (fun K hK=>?_) rfl;go_simp;refine(aN _ (S.heap.size+1) A n c l 5 (be.1.ch (M:=fun _=>False) GN (fun _ _ h=>h)) ad ad).mono ?_;rintro e gV ⟨cr,rfl,aV,O,h,he⟩;obtain⟨j,rfl⟩:=Gg aV;have ba:j<5:=ad;have t:Fr (fun b=>b=S.heap.size+1) gU gV:=he.fr;have bf:=ai h (be.2.trans t);have g5:=ae (b3.on t ad);have cu:=ae (cs.on t ad);refine hK _ _ (he.fr) ?_;clear hK K
    try simp only[PU]
    clear h he t aV O
    iterate 2 refine tf ?_
    have av:=And.intro bf.1 (And.intro bf.2 (And.intro cu.o (And.intro (show X≤fg.heap.size by omega) ba)));revert av;generalize wr.heap.size=a1;generalize fg.heap.size=aj;intro av;exact key a1 aj j _ av
  ·
   refine az rfl (fun K hK=>?_) rfl;go_simp;refine(aN _ (S.heap.size+1) A n c l 5 (H.1.ch (M:=fun _=>False) (GN.drew) (fun _ _ h=>h)) ad ad).mono ?_;rintro e dw ⟨cr,rfl,aV,O,h,he⟩;obtain⟨j,rfl⟩:=Gg aV;have ba:j<5:=ad;have t:Fr (fun b=>b=S.heap.size+1) wr dw:=Fr.aE he.fr;have k:=ai h (H.2.trans t);refine hK _ _ (he.fr) ?_;clear hK K
   try simp only[PU]
   clear h he t aV O;refine tf ?_;refine aR ?_ ?_
   ·
    refine dU ?_;refine aO (fun V=>Ext dw V∧ag V dw.heap.size 5 #[.int .u8 bv]) ⟨GN.alloc _,GO⟩ (fun bS hV=>?_);have aK:=ai (k.1.ch hV.1 fun _ _ h=>h) (k.2.trans (hV.1.mono fun _ h=>h.elim));have ha:wr.heap.size≤dw.heap.size:=k.2.size;have a8:=ae hV.2;clear hV;obtain⟨e0,bl,a5⟩:=a8.two;refine bx (v:=?_) rfl (by rfl) (fun V hV=>?_) ?_;rotate_left
    ·have bJ:=c6 V (dw.heap.size) bv ((hV.cell a5 ad).trans (e0 0))
     (go_simp<;>with_reducible rfl)
    try simp only[PU]
    clear e0 bl a5
    iterate 2 refine tf ?_
    refine ak ?_;refine dU ?_;refine aO (fun V=>Ext bS V∧ag V bS.heap.size 136 #[.string ⟨#[]⟩,.int .i64 0]) ⟨GN.alloc _,GO⟩ (fun ho hV=>?_);have bj:=ai (aK.1.ch hV.1 fun _ _ h=>h) (aK.2.trans (hV.1.mono fun _ h=>h.elim));have hb:wr.heap.size≤bS.heap.size:=aK.2.size;have cA:=ae hV.2;have g6:=ae (a8.al hV.1);clear hV;have av:=And.intro bj.1 (And.intro bj.2 (And.intro cA.o (And.intro (show X≤bS.heap.size by omega) ba)));revert av;generalize dw.heap.size=a1;generalize bS.heap.size=aj;intro av;exact key a1 aj j _ av
   ·
    refine dU ?_;refine aO (fun V=>Ext dw V∧ag V dw.heap.size 136 #[.string ⟨#[]⟩,.int .i64 0]) ⟨GN.alloc _,GO⟩ (fun bT hV=>?_);have aS:=ai (k.1.ch hV.1 fun _ _ h=>h) (k.2.trans (hV.1.mono fun _ h=>h.elim));have hc:wr.heap.size≤dw.heap.size:=k.2.size;have dN:=ae hV.2;clear hV;refine ak ?_;refine dU ?_;refine aO (fun V=>Ext bT V∧ag V bT.heap.size 5 #[.int .u8 bv]) ⟨GN.alloc _,GO⟩ (fun hk hV=>?_);have ap:=ai (aS.1.ch hV.1 fun _ _ h=>h) (aS.2.trans (hV.1.mono fun _ h=>h.elim));have gm:wr.heap.size≤bT.heap.size:=aS.2.size;have bn:=ae hV.2;have bH:=ae (dN.al hV.1);clear hV;obtain⟨e0,bl,a5⟩:=bn.two;refine bx (v:=?_) rfl (by rfl) (fun V hV=>?_) ?_;rotate_left
    ·have bJ:=c6 V (bT.heap.size) bv ((hV.cell a5 ad).trans (e0 0))
     (go_simp<;>with_reducible rfl)
    try simp only[PU]
    clear e0 bl a5
    iterate 2 refine tf ?_
    have av:=And.intro ap.1 (And.intro ap.2 (And.intro bH.o (And.intro (show X≤dw.heap.size by omega) ba)));revert av;generalize bT.heap.size=a1;generalize dw.heap.size=aj;intro av;exact key a1 aj j _ av
  ·
   refine dU ?_;refine aO (fun V=>Ext wr V∧ag V wr.heap.size 136 #[.string ⟨#[]⟩,.int .i64 0]) ⟨(GN.alloc _).drew,GO⟩ (fun T hV=>?_);have d:=ai (H.1.ch hV.1 fun _ _ h=>h) (H.2.trans (hV.1.mono fun _ h=>h.elim));have gn:wr.heap.size≤wr.heap.size:=H.2.size;have aT:=ae hV.2;clear hV;refine aR ?_ ?_
   ·
    refine dU ?_;refine aO (fun V=>Ext T V∧ag V T.heap.size 5 #[.int .u8 bv]) ⟨GN.alloc _,GO⟩ (fun g0 hV=>?_);have au:=ai (d.1.ch hV.1 fun _ _ h=>h) (d.2.trans (hV.1.mono fun _ h=>h.elim));have gK:wr.heap.size≤T.heap.size:=d.2.size;have ac:=ae hV.2;have bI:=ae (aT.al hV.1);clear hV;obtain⟨e0,bl,a5⟩:=ac.two;refine bx (v:=?_) rfl (by rfl) (fun V hV=>?_) ?_;rotate_left
    ·have bJ:=c6 V (T.heap.size) bv ((hV.cell a5 ad).trans (e0 0))
     (go_simp<;>with_reducible rfl)
    try simp only[PU]
    clear e0 bl a5;refine tf ?_;refine ak ?_;refine az rfl (fun K hK=>?_) rfl;go_simp;refine(aN _ (S.heap.size+1) A n c l 5 (au.1.ch (M:=fun _=>False) GN (fun _ _ h=>h)) ad ad).mono ?_;rintro e g1 ⟨cr,rfl,aV,O,h,he⟩;obtain⟨j,rfl⟩:=Gg aV;have ba:j<5:=ad;have t:Fr (fun b=>b=S.heap.size+1) g0 g1:=he.fr;have ax:=ai h (au.2.trans t);have gk:=ae (ac.on t ad);have bK:=ae (bI.on t ad);refine hK _ _ (he.fr) ?_;clear hK K
    try simp only[PU]
    clear h he t aV O
    iterate 2 refine tf ?_
    have av:=And.intro ax.1 (And.intro ax.2 (And.intro bK.o (And.intro (show X≤wr.heap.size by omega) ba)));revert av;generalize T.heap.size=a1;exact o3
   ·
    refine az rfl (fun K hK=>?_) rfl;go_simp;refine(aN _ (S.heap.size+1) A n c l 5 (d.1.ch (M:=fun _=>False) GN (fun _ _ h=>h)) ad ad).mono ?_;rintro e W ⟨cr,rfl,aV,O,h,he⟩;obtain⟨j,rfl⟩:=Gg aV;have ba:j<5:=ad;have t:Fr (fun b=>b=S.heap.size+1) T W:=he.fr;have L:=ai h (d.2.trans t);have bN:=ae (aT.on t ad);refine hK _ _ (he.fr) ?_;clear hK K
    try simp only[PU]
    clear h he t aV O;refine tf ?_;refine ak ?_;refine dU ?_;refine aO (fun V=>Ext W V∧ag V W.heap.size 5 #[.int .u8 bv]) ⟨GN.alloc _,GO⟩ (fun hl hV=>?_);have ay:=ai (L.1.ch hV.1 fun _ _ h=>h) (L.2.trans (hV.1.mono fun _ h=>h.elim));have gX:wr.heap.size≤W.heap.size:=L.2.size;have bq:=ae hV.2;have bO:=ae (bN.al hV.1);clear hV;obtain⟨e0,bl,a5⟩:=bq.two;refine bx (v:=?_) rfl (by rfl) (fun V hV=>?_) ?_;rotate_left
    ·have bJ:=c6 V (W.heap.size) bv ((hV.cell a5 ad).trans (e0 0))
     (go_simp<;>with_reducible rfl)
    try simp only[PU]
    clear e0 bl a5
    iterate 2 refine tf ?_
    have av:=And.intro ay.1 (And.intro ay.2 (And.intro bO.o (And.intro (show X≤wr.heap.size by omega) ba)));revert av;generalize W.heap.size=a1;exact o3
 case gg=>
  rintro a1 aj j bF ⟨aC,t,aq,gI,ba⟩;obtain⟨bD,bE,b5⟩:=aq.two;exact gy
 ):p:=h
theorem xH(h:p:=by
 refine(aN w (S.heap.size+1) A n c l 3 gF.src ad ad).mono ?_;rintro e aH ⟨cm,rfl,aM,bQ,h,he⟩;obtain⟨N,rfl⟩:=Gg aM;have gO:N<3:=ad;have hi:=ae (gF.next h he.fr);clear h he a0 al af gF aM bQ;go_wp2_with (fail);go_loopw [7,8] (fun cj cp wr=>∃(i:Nat) (GA:GR) (gc:Nat) (G:List (ByteArray×Int)) (o:GR) (u:Nat),cp=.int .i64 i∧cj=.slice o i u∧i≤N∧t7 S I wr A n c l ar MA mn mc M GA i gc G o u) (fun _ cp _=>N - (intOf cp).toNat)
 case atStart=>exact⟨0,none,0,[],none,0,rfl,rfl,ad,hi.o⟩
 case round=>
  obtain⟨i,GA,gc,G,o,u,rfl,rfl,aJ,U⟩:=hrel;clear hi;have b9:=ae U;obtain⟨a0,al,af⟩:=U.blk.two;have cc:G.length=i:=by have:=U.rows.one.len;simpa using this
  have hD:=U.hD;clear U;by_cases ao:i<N
  ·have gH:(i:Int)<(N:Int):=ad;have c0:i≤1:=ad;have gJ:¬S.heap.size+1+1=S.heap.size+1:=ad;have ck:S.heap.size+1+1<wr.heap.size:=b9.blk.lt;go_upto_region 17 with(fail);exact wU
  ·have gH:¬(i:Int)<(N:Int):=ad;go_upto_region 19 with(fail);have ce:=hS.o _ (by assumption);unfold BH at ce;exact ce I A n c l ar MA mn mc M GA i gc G o u wr b9.o
 ):p:=h
end zK
open zK in
theorem FJ(S:World)(gW:Value)(aA:∀K,(∀a ab,Code.wp prog (l3 19) (bodyPost prog Tryz.f24 (jh S)) a ab→K a ab)→BH S gW (bodyPost prog Tryz.f24 (jh S)) K)
  (K:Act→World→Prop) (hK:∀a ab,Code.wp prog (l3 13) (bodyPost prog Tryz.f24 (jh S)) a ab→K a ab):BG S gW (bodyPost prog Tryz.f24 (jh S)) K:=by
 unfold BG;intro A n c l ar MA mn mc M hZ h0 gE gM E u8 gG eO gi gj b8 bi g u16 s bG eP eQ eR eS eT eU eV eW eX eY eZ e3 e4 u32 e5 e6 e7 e8 e9 fa fb fd fe ff fh fi fj fk fl fm fo fp fq fr fs ft fu fv fw fx fy fz fA fB fC u64 fD fF fG fH fI fJ fK fL fM fN fO fP fQ fR fS fT fU fV fW fX fY fZ f0 f1 f2 f3 f6 f7 f8 f9 ga gb gd ge gf am aE aL aP a3 a4 a6 a7 bg bh bk bp br bs bt bz bC bL bY b0 b6 b7 ca cg ci cn cq ct cv cw cx cz cB cC cD cE cF cG cH cI cJ cK cL cM cN cO cP cQ cR cS cT cU cV cX cY cZ c5 c7 c8 c9 da db dc dd de df dg dh dj dk dl dm dn dp dq ds dt du dv dx dy dz dB dC dD dE dF dG dH dI dJ dK dL dM dO dP dQ dR dT dV dW dX dY dZ d0 d1 d2 d3 d4 d5 d6 d7 d9 ea eb ec ed ee ef eg ei ek el em en eo ep eq er es et eu ev ew ex ey ez eA eB eC eD eE eF eG eH eI eJ eK eM bu go gp gq gr gs gt gu gv gw gx gA gB gC gD w bX U;have gF:=ae (U.FJ bX);exact xG
theorem DU:b0 prog 25 140 (.agg #[.string ⟨#[]⟩,.slice none 0 0,.slice none 0 0]) 3 64:=b0.mk' Tryz.underlying25 (by kernel_rfl) rfl ad
theorem DY:b0 prog 137 142 (.agg #[.string ⟨#[]⟩,.bool false]) 2 24:=b0.mk' Tryz.underlying137 (by kernel_rfl) rfl ad
def oT(F:List aG):Prop:=∀i f,F[i]?=some f→f.name=hv i∧(∃n,n≤2∧f.params.map (·.1)=dS n)∧(i=0→f.params=[])∧f.body=.nil
theorem oT.snoc{F:List aG}(h:oT F)(aJ:F.length=i){n:Nat}(hn:n≤2)(hp:ps.map (·.1)=dS n)(h0:i=0→ps=[]):oT (F++[⟨hv i,ps,.nil⟩]):=by
 intro k m hm;by_cases ap:k<F.length
 ·rw[List.getElem?_append_left ap] at hm;exact h k m hm
 ·rw[List.getElem?_append_right ad] at hm;have az:k - F.length=0:=by
   exact sb
  rw[az] at hm;simp at hm;subst hm;have:k=i:=ad;subst this;exact⟨rfl,⟨n,hn,hp⟩,h0,rfl⟩
theorem Cr{w:World}{P:Nat→Prop}{nm:ByteArray}{PA:GR}{pn pc:Nat}(hc:pn≤pc)(h:Sl w P PA pn (ps.map cW)):(c7 ⟨nm,ps,.nil⟩).rep w P [.string nm,.slice PA pn pc,.slice none 0 0]:=by
 unfold c7;rw[bw];exact ca.2 ⟨_,rfl,aJ.2 ⟨PA,pn,pc,_,rfl,hc,h,aJ.2 ⟨none,0,0,[],rfl,Gb _,Sl.bu _,aM.2 rfl⟩⟩⟩
structure v8(S:World)(I:Nat)(w:World)(A:GR)(n c:Nat)(l:List Int)(ar:Bool)(MA:GR)(mn mc:Nat)(M:List bF)(GA:GR)(gn gc:Nat)(G:List (ByteArray×Int))(o:GR)(u:Nat)(FA:GR)(fn fc:Nat)(F:List aG):Prop where
 src:bV w (S.heap.size+1) A n c l
 blk:ag w (S.heap.size+1+1) 129 #[.pointer (some ⟨S.heap.size+1,0,none⟩),.slice GA gn gc,.slice MA mn mc,.slice FA fn fc,.int .i64 24,.bool ar]
 res:ag w S.heap.size 27 #[.slice none 0 0,.slice none 0 0,.slice none 0 0]
 ms:Sl w (fun b=>S.heap.size+1+1+1≤b∧b<I) MA mn (M.map d4)
 gs:Sl w (fun b=>S.heap.size+1+1+1≤b∧b<I) GA gn (G.map hq)
 vs:Sl w (fun b=>S.heap.size+1+1+1≤b∧b<I) o gn ((G.map (·.1)).map D.s)
 fs:Gr (fun b=>I≤b) I 140 3 w FA fn fc (F.map c7)
 mc:mn≤mc
 gc:gn≤gc
 nm:1≤mn∧mn≤4
 ok:lM M
 ng:gn≤2
 vW:pO G
 nf:fn≤4
 FE:oT F
 ext:Ext S w
 hD:S.heap.size+1+1+1≤I∧I≤w.heap.size
section
variable {S w ab:World} {I jr:Nat} {A:GR} {n c:Nat} {l:List Int} {ar:Bool} {MA:GR} {mn mc:Nat} {M:List bF} {GA:GR} {gn gc:Nat} {G:List (ByteArray×Int)} {o:GR} {u:Nat} {FA:GR} {fn fc:Nat} {F:List aG}
theorem t7.FK(h:t7 S jr w A n c l ar MA mn mc M GA gn gc G o u):v8 S w.heap.size w A n c l ar MA mn mc M GA gn gc G o u none 0 0 []:=by
 have hD:=h.hD;exact⟨h.src,h.blk,h.res,h.ms.mono fun b hp=>⟨hp.1,by have:=hp.2;omega⟩,h.rows.one.sl (fun b O hp=>⟨by have:=hp.1;omega,O⟩) (fun b O aT=>⟨ad,O⟩),h.rows.two.sl (fun b O hp=>⟨by have:=hp.1;omega,O⟩) (fun b O aT=>⟨ad,O⟩),Gr.nil _ _ _ _ _,h.mc,h.rows.one.cap.1,h.nm,h.ok,h.ng,h.vW,ad,(fun i f h=>by cases h),h.ext,ad,Gb _⟩
theorem v8.next(h:v8 S I w A n c l ar MA mn mc M GA gn gc G o u FA fn fc F)(hs:bV ab (S.heap.size+1) A n c l)(O:Fr (fun b=>b=S.heap.size+1) w ab):v8 S I ab A n c l ar MA mn mc M GA gn gc G o u FA fn fc F:=by
 have hD:=h.hD;have ap:∀b,(S.heap.size+1+1+1≤b∧b<I)→ab.heap[b]?=w.heap[b]?:=fun b hp=>O.block b (aB hp.2) (aB hp.1);exact⟨hs,h.blk.on O ad,h.res.on O ad,h.ms.ao ap,h.gs.ao ap,h.vs.ao ap,h.fs.cZ O (fun b O _=>⟨ad,ad⟩),h.mc,h.gc,h.nm,h.ok,h.ng,h.vW,h.nf,h.FE,Fr.low (M:=fun b=>b=S.heap.size+1) ((h.ext.mono fun _ h=>h.elim).trans O) fun k ap=>ad,hD.1,by have:=O.size;omega⟩
theorem v8.add(h:v8 S I w A n c l ar MA mn mc M GA gn gc G o u FA fn fc F){cj:GR}{b6:Nat}{f:aG}(aM:Gr (fun b=>I≤b) I 140 3 ab cj (fn+1) b6 (F.map c7++[c7 f]))(aw:Fr (fun b=>(Value.slice FA fn fc).ownBlock=some b) w ab)
  (hn:fn+1≤4) (ch:oT (F++[f])):v8 S I (ab.setCell ⟨S.heap.size+1+1,3,none⟩ (.slice cj (fn+1) b6)) A n c l ar MA mn mc M GA gn gc G o u cj (fn+1) b6 (F++[f]):=by
 have hD:=h.hD;have bi:∀b,(Value.slice FA fn fc).ownBlock=some b→I≤b:=fun b O=>(h.fs.lt O).1;have aq:Fr (fun b=>b=S.heap.size+1+1) ab (ab.setCell ⟨S.heap.size+1+1,3,none⟩ (.slice cj (fn+1) b6)):=(Fr.refl (fun b=>b=S.heap.size+1+1) ab).setCell (.inl rfl) _;have hs:=aw.size;have bK:=aq.size;have ap:∀b,(S.heap.size+1+1+1≤b∧b<I)→(ab.setCell ⟨S.heap.size+1+1,3,none⟩ (.slice cj (fn+1) b6)).heap[b]?=w.heap[b]?:=fun b hp=>(aq.block b (aB hp.2) (aB hp.1)).trans (aw.block b (aB hp.2) fun aj=>by have:=bi b aj;have:=hp.2;omega);refine⟨(h.src.ch aw fun b O aj=>by have:=bi b aj;omega).ch aq (fun b O aj=>ad),(h.blk.on aw fun aj=>by have:=bi _ aj;omega).aH 3 _,(h.res.on aw fun aj=>by have:=bi _ aj;omega).on aq ad,h.ms.ao ap,h.gs.ao ap,h.vs.ao ap,?_,h.mc,h.gc,h.nm,h.ok,h.ng,h.vW,hn,ch,?_,hD.1,ad⟩
 ·rw[Gi,Gh,GC];exact aM.cZ aq (fun b O _=>⟨ad,ad⟩)
 ·have ac:Ext S ab:=Fr.low (M:=fun b=>(Value.slice FA fn fc).ownBlock=some b) ((h.ext.mono fun _ h=>h.elim).trans aw) fun k ap=>by have:=bi k ap;omega
  exact wu
end
def BI(S:World)(gW:Value)(Q:Exit→Act→World→Prop)(K:Act→World→Prop):Prop:=∀(I:Nat) (A:GR) (n c:Nat) (l:List Int) (ar:Bool) (MA:GR) (mn mc:Nat) (M:List bF) (GA:GR) (gn gc:Nat) (G:List (ByteArray×Int)) (o:GR) (u:Nat) (FA:GR) (fn fc:Nat) (F:List aG) {hZ h0 gE gM u8 gG eO gi gj b8 bi g u16 s bG eP eQ eR eS eT eU eV eW eX eY eZ e3 e4 u32 e5 e6 e7 e8 e9 fa fb fd fe ff fh fi fj fk fl fm fo fp fq fr fs ft fu fv fw fx fy fz fA fB fC u64 fD fF fG fH fI fJ fK fL fM fN fO fP fQ fR fS fT fU fV fW fX fY fZ f0 f1 f2 f3 f6 f7 f8 f9 ga gb gd ge gf am aE aL aP a3 a4 a6 a7 bg bh bk bp br bs bt bz bC bL bY b0 b6 b7 ca cg ci cn cq ct cv cw cx cz cB cC cD cE cF cG cH cI cJ cK cL cM cN cO cP cQ cR cS cT cU cV cX cY cZ c5 c7 c8 c9 da db dc dd de df dg dh dj dk dl dm dn dp dq ds dt du dv dx dy dz dB dC dD dE dF dG dH dI dJ dK dL dM dO dP dQ dR dT dV dW dX dY dZ d0 d1 d2 d3 d4 d5 d6 d7 d9 ea eb ec ed ee ef eg ei ek el em en eo ep eq er es et eu ev ew ex ey ez eA eB eC eD eE eF eG eH eI eJ eK eM bu go gp gq gr gs gt gu gv gw gx gA gB gC gD:Value} (w:World),1≤fn→v8 S I w A n c l ar MA mn mc M GA gn gc G o u FA fn fc F→
 Code.wp prog (ts 32) (Exit.then K Q) ⟨#[gW,hZ,.pointer (some ⟨S.heap.size,0,none⟩),.pointer (some ⟨S.heap.size+1+1,0,none⟩),h0,gE,gM,.slice o gn u,u8,gG,eO,gi,gj,b8,bi,g,u16,s,bG,eP,eQ,eR,eS,eT,eU,eV,eW,eX,eY,eZ,e3,e4,u32,e5,e6,e7,e8,e9,fa,fb,fd,fe,ff,fh,fi,fj,fk,fl,fm,fo,fp,fq,fr,fs,ft,fu,fv,fw,fx,fy,fz,fA,fB,fC,u64,fD,fF,fG,fH,fI,fJ,fK,fL,fM,fN,fO,fP,fQ,fR,fS,fT,fU,fV,fW,fX,fY,fZ,f0,f1,f2,f3,f6,f7,f8,f9,ga,gb,gd,ge,gf,am,aE,aL,aP,a3,a4,a6,a7,bg,bh,bk,bp,br,bs,bt,bz,bC,bL,bY,b0,b6,b7,ca,cg,ci,cn,cq,ct,cv,cw,cx,cz,cB,cC,cD,cE,cF,cG,cH,cI,cJ,cK,cL,cM,cN,cO,cP,cQ,cR,cS,cT,cU,cV,cX,cY,cZ,c5,c7,c8,c9,da,db,dc,dd,de,df,dg,dh,dj,dk,dl,dm,dn,dp,dq,ds,dt,du,dv,dx,dy,dz,dB,dC,dD,dE,dF,dG,dH,dI,dJ,dK,dL,dM,dO,dP,dQ,dR,dT,dV,dW,dX,dY,dZ,d0,d1,d2,d3,d4,d5,d6,d7,d9,ea,eb,ec,ed,ee,ef,eg,ei,ek,el,em,en,eo,ep,eq,er,es,et,eu,ev,ew,ex,ey,ez,eA,eB,eC,eD,eE,eF,eG,eH,eI,eJ,eK,eM,bu,go,gp,gq,gr,gs,gt,gu,gv,gw,gx,gA,gB,gC,gD],[]⟩ w
theorem Av(aJ:i<4)(h0:i≠0)(O:bv=48+(i:Int)):(⟨#[102]⟩++strOf [byteOf bv]:ByteArray)=hv i:=by
 subst O;have h:∀k:Fin 4,k.val≠0→(⟨#[102]⟩++strOf [byteOf (48+((k.val:Nat):Int))]:ByteArray)=hv k.val:=by decide
 exact h ⟨i,aJ⟩ h0
theorem A1(aJ:i<3)(O:IntKind.u8.wrap (IntKind.i64.wrap (48+(i:Int)))=bv):(⟨#[112]⟩++strOf [byteOf bv]:ByteArray)=rB i:=by
 subst O;have h:∀k:Fin 3,(⟨#[112]⟩++strOf [byteOf (IntKind.u8.wrap (IntKind.i64.wrap (48+((k.val:Nat):Int))))]:ByteArray)=rB k.val:=by decide
 exact h ⟨i,aJ⟩
end Go.Proofs.YtjhgbdckgkppnaaGreat

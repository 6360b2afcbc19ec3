/- Part 37 of the proof. No condition of its own. -/
import Derived.Test.YtnhhdaggkiomoaaGreatQ36
namespace Go.Proofs.YtnhhdaggkiomoaaGreat
open Go.RowKit Go.Proofs.Tryz
set_option maxRecDepth 1000000
set_option maxHeartbeats 25600000
set_option linter.unusedVariables false
variable{bv:Int}{ps:List (ByteArray×Bool)}{i:Nat}{p:Prop}
namespace CI
theorem eQ(h:p:=by
 refine b3 ?_;generalize bu:World.setCell _ _ _=Y;have hc:wr.heap.size≤az:=ad;obtain⟨bI,bE,bz⟩:=dU (M:=fun b=>b=S.heap.size+1) [.string (⟨#[103]⟩++strOf [byteOf bv]),.int .i64 (IntKind.i64.wrap ((j:Int) - 2))] (by rfl) dI aj hc bu;obtain⟨ap,bQ⟩:∃ap:Int,ap=IntKind.i64.wrap ((j:Int) - 2):=⟨_,rfl⟩
 rw[←bQ] at bI;rw[IntWalk.i64_in _ ad] at bQ;rw[DK ad aJ.o] at bI;have cR:=ck.next (ay.cQ bz fun b O h=>ad) bE;have bk:-2≤ap∧ap≤2:=ad;have bC:=ag cR bI;have ax:=ae bk;clear bu bI bE bz cR bQ bk ay aj dI bs aX a4 bi;obtain⟨a0,ai,af⟩:=bC.1.blk.two;obtain⟨bs,aX,a4⟩:=bC.2.two;have o:∀b,(Value.slice GA i gc).ownBlock=some b→u≤b∧b<wr.heap.size:=fun b O=>ck.rows.one.lt O;have aQ:∀b,(Value.slice au i ba).ownBlock=some b→u≤b∧b<wr.heap.size:=fun b O=>ck.rows.two.lt O;have a9:¬(Value.slice GA i gc).ownBlock=some (S.heap.size+1+1):=fun h=>by have:=(o _ h).1;omega
 have cp:¬(Value.slice GA i gc).ownBlock=some az:=fun h=>by have:=(o _ h).2;omega
 have g6:u≤Y.heap.size:=bC.1.hD.2;have bn:wr.heap.size≤Y.heap.size:=by have:=bC.2.lt;omega
 have bp:=ag o aQ;clear o aQ;go_upto_region 18 with(fail);refine q4 (fun b=>(Value.slice GA i gc).ownBlock=some b) [13,17] (.free 0 (.free 1 (.free 2 (.free 3 (.free 4 (.held 5 (.held 6 (.free 9 (.free 10 (.held 11 (.pick [7,12] (fun i=>bif i == 7 then .pick [8,12] (fun i=>bif i == 8 then .pick [12] (fun _=>.pick [13] (fun _=>.free 14 (.free 15 (.free 16 (.pick [17] (fun _=>.free 18 (.stop))))))) else .pick [8] (fun _=>.pick [13] (fun _=>.free 14 (.free 15 (.free 16 (.pick [17] (fun _=>.free 18 (.stop)))))))) else .pick [7] (fun _=>.pick [8] (fun _=>.pick [13] (fun _=>.free 14 (.free 15 (.free 16 (.pick [17] (fun _=>.free 18 (.stop)))))))))))))))))))) ?_
 iterate 5 refine tf ?_
 iterate 2 refine mV ?_
 iterate 2 refine tf ?_
 refine mV ?_;clear a0 ai af bs aX a4;refine iM (P:=?Kp) (ops:=?Kv) (Q:=?Kz) (R:=?KC) (tails:=?KE) (rest:=.pick [13] (fun _=>.free 14 (.free 15 (.free 16 (.pick [17] (fun _=>.free 18 (.stop))))))) (aa:=?Ku)
  (C:=fun(_:Nat) bK A2 bP V=>True∧∃q1 cB,Ext Y q1∧Gr (fun b=>u≤b∧(Value.slice au i ba).ownBlock≠some b) u 139 2 cB A2 (i+1) bP (G.map iA++[iA (dN i,ap)])∧Fr (fun b=>(Value.slice GA i gc).ownBlock=some b) q1 cB∧dq q1 GA i gc A2 (i+1) bP∧Ext cB V∧aq V bK 9 #[.string (dN i)]) (fun key=>?J8) ?J7
 case J8=>
  refine aY ?_ ?_
  ·
   refine dP ?_;generalize hV:World.drew (World.alloc _ _)=cC;have e1:=gF hV;have eN:aq cC Y.heap.size 139 #[.string (dN i),.int .i64 ap]:=hV▸Lp;clear hV;refine aY ?_ ?_
   ·
    refine aC rfl (fun K hK=>?_) rfl;rw[if_pos (by rfl)];refine e5 vz (.tmp 108) (.tmp 110) (by rfl) (bC.1.rows.ai e1).one eN (s0.2 rfl:(iA (dN i,ap)).rep cC _ _) (by rfl) (by rfl) (by rfl) ad ad (aD e1.size) ?_;intro A2 bP aT cd f1 o1 c1;refine dz hK (f1) ?_;clear hK K;refine ao ?_;refine dP ?_;have ah:True∧∃q1 cB,Ext Y q1∧Gr (fun b=>u≤b∧(Value.slice au i ba).ownBlock≠some b) u 139 2 cB A2 (i+1) bP (G.map iA++[iA (dN i,ap)])∧Fr (fun b=>(Value.slice GA i gc).ownBlock=some b) q1 cB∧dq q1 GA i gc A2 (i+1) bP∧Ext cB (aT.alloc (.cells #[.string (dN i)] 9))∧aq (aT.alloc (.cells #[.string (dN i)] 9)) aT.heap.size 9 #[.string (dN i)]:=⟨trivial,cC,aT,e1,cd,f1,o1,Lo.alloc _,Lp⟩
    clear cd o1;revert ah;generalize aT.heap.size=bK;generalize Y.heap.size=ds;intro ah;exact key ds bK A2 bP _ ah
   ·
    refine dP ?_;generalize hV:World.alloc _ _=Z;have cl:aq Z cC.heap.size 9 #[.string (dN i)]:=hV▸Lp;have aV:=by have:=eN.alloc (.cells #[.string (dN i)] 9);rw[hV] at this;exact this
    have e2:Ext Y Z:=hV▸e1.alloc _;clear hV eN;refine ao ?_;refine aC rfl (fun K hK=>?_) rfl;rw[if_pos (by rfl)];refine e5 vz (.tmp 108) (.tmp 110) (by rfl) (bC.1.rows.ai e2).one aV (s0.2 rfl:(iA (dN i,ap)).rep Z _ _) (by rfl) (by rfl) (by rfl) ad ad (aD e2.size) ?_;intro A2 bP aT cd f1 o1 c1;refine dz hK (f1) ?_;clear hK K;have bf:¬(Value.slice GA i gc).ownBlock=some cC.heap.size:=fun O=>by have:=(bp.1 _ O).2;have:=e1.size;omega
    have ah:True∧∃q1 cB,Ext Y q1∧Gr (fun b=>u≤b∧(Value.slice au i ba).ownBlock≠some b) u 139 2 cB A2 (i+1) bP (G.map iA++[iA (dN i,ap)])∧Fr (fun b=>(Value.slice GA i gc).ownBlock=some b) q1 cB∧dq q1 GA i gc A2 (i+1) bP∧Ext cB aT∧aq aT cC.heap.size 9 #[.string (dN i)]:=⟨trivial,Z,aT,e2,cd,f1,o1,Lo,cl.on f1 bf⟩
    clear cd o1;revert ah;generalize cC.heap.size=bK;generalize Y.heap.size=ds;intro ah;exact key ds bK A2 bP _ ah
  ·
   refine dP ?_;generalize hV:World.drew (World.alloc _ _)=cC;have cl:aq cC Y.heap.size 9 #[.string (dN i)]:=hV▸Lp;have e1:=gF hV;clear hV;refine ao ?_;refine dP ?_;generalize hV:World.alloc _ _=Z;have e2:Ext Y Z:=hV▸e1.alloc _;have eN:=aG hV;have a5:aq Z Y.heap.size 9 #[.string (dN i)]:=hV▸cl.alloc _;clear hV;refine ao ?_;refine aC rfl (fun K hK=>?_) rfl;rw[if_pos (by rfl)];refine e5 vz (.tmp 108) (.tmp 110) (by rfl) (bC.1.rows.ai e2).one eN (s0.2 rfl:(iA (dN i,ap)).rep Z _ _) (by rfl) (by rfl) (by rfl) ad ad (aD e2.size) ?_;intro A2 bP aT cd f1 o1 c1;refine dz hK (f1) ?_;clear hK K;have bf:¬(Value.slice GA i gc).ownBlock=some Y.heap.size:=fun O=>by have:=(bp.1 _ O).2;omega
   have ah:True∧∃q1 cB,Ext Y q1∧Gr (fun b=>u≤b∧(Value.slice au i ba).ownBlock≠some b) u 139 2 cB A2 (i+1) bP (G.map iA++[iA (dN i,ap)])∧Fr (fun b=>(Value.slice GA i gc).ownBlock=some b) q1 cB∧dq q1 GA i gc A2 (i+1) bP∧Ext cB aT∧aq aT Y.heap.size 9 #[.string (dN i)]:=⟨trivial,Z,aT,e2,cd,f1,o1,Lo,a5.on f1 bf⟩
   clear cd o1;revert ah;generalize Y.heap.size=bK;generalize cC.heap.size=ds;intro ah;exact key ds bK A2 bP _ ah
 case J7=>
  rintro ds bK A2 bP V ⟨_,aS,aT,e1,cd,f1,o1,e2,cl⟩;have s1:=e1.size;have s2:=f1.size;have T:=e2.size;obtain⟨o,aQ⟩:=bp.o;have L:=((bC.1.rows.ai e1).grow cd f1 o1).ai e2;have b5:aq V (S.heap.size+1+1) _ _:=((bC.1.blk.ai e1).on f1 a9).ai e2;have eK:¬(Value.slice au i ba).ownBlock=some (S.heap.size+1+1):=fun h=>by have:=(aQ _ h).1;omega
  refine ao ?_;refine bN rfl (fun K hK=>?_) rfl;rw[if_pos (by rfl)];refine e5 kr (.tmp 112) (.tmp 115) (by rfl) L.two cl (uv.2 rfl:(D.s (dN i)).rep V _ _) (by rfl) (by rfl) (by rfl) ad ad ad ?_;intro cL dC cN g2 f2 fg c2;have m:=(L.swap.grow g2 f2 fg).swap;have b7:=b5.on f2 eK;have J:Fr (fun b=>(Value.slice GA i gc).ownBlock=some b∨(Value.slice au i ba).ownBlock=some b) Y cN:=((((e1.mono fun _ h=>h.elim).trans (f1.mono fun _ h=>.inl h)).trans (e2.mono fun _ h=>h.elim)).trans (f2.mono fun _ h=>.inr h))
  have r:=ag m J;clear cd f1 o1 e1 e2 cl L b5 g2 f2 fg c2 m J;obtain⟨a0,ai,af⟩:=b7.two;clear b7;refine dO hK ?_;clear hK K
  iterate 3 refine tf ?_
  refine ao ?_;refine bN rfl (fun K hK=>?_) rfl;go_simp;refine dO hK ?_;clear hK K;refine tf ?_;refine b3 ?_;generalize hX:World.setCell _ _ _=hg;have c0:ld u 139 2 9 1 cN A2 (i+1) bP ((G++[(dN i,ap)]).map iA) cL (i+1) dC (((G++[(dN i,ap)]).map (·.1)).map D.s):=by
   simp only[KN,KM,Le];exact r.1
  have f:=bC.1.add c0 r.2 ad (ck.yU.snoc ci ax.1 ax.2);rw[hX] at f;have bY:=ae f;clear hX f c0 a0 ai af;go_wp2_with(fail);go_roundw
  case rel=>exact⟨i+1,A2,bP,G++[(dN i,ap)],cL,dC,by go_num,rfl,ad,bY.o⟩
  case measure=>exact aH
 ):p:=h
theorem zY(h:p:=by
 generalize hb:IntKind.u8.wrap (IntKind.i64.wrap (48+(i:Int)))=bv;obtain⟨b9,hP⟩:∃b9,b9=wr.heap.size:=⟨_,rfl⟩
 have aJ:=ae hb;clear hb;have hr:(strOf [byteOf bv]).size=1:=aO _;have U:=ag ck.src (Fr.refl (fun b=>b=S.heap.size+1) wr);refine gU (P:=?oB) (ops:=?Hu) (Q:=?Hw) (R:=?Hy) (tails:=?HI) (rest:=.pick [14] (fun _=>.stop)) (aa:=?G6)
  (C:=fun(aW az j:Nat) bT=>cm bT (S.heap.size+1) A n c l∧Fr (fun b=>b=S.heap.size+1) wr bT∧aq bT az 139 #[.string ⟨#[]⟩,.int .i64 0]∧b9≤az∧j<5) (fun key=>?wa) ?vY
 case wa=>
  refine qG ?_ ?_ ?_
  ·
   refine dP ?_;refine bw (fun V=>Ext wr V∧aq V wr.heap.size 5 #[.int .u8 bv]) ⟨(Lo.alloc _).drew,Lp⟩ (fun r1 hV=>?_);have k:=ag (U.1.cQ hV.1 fun _ _ h=>h) (U.2.trans (hV.1.mono fun _ h=>h.elim));have gZ:wr.heap.size≤wr.heap.size:=U.2.size;have X:=ae hV.2;clear hV;obtain⟨e0,a6,aP⟩:=X.two;refine cx (v:=?_) rfl (by rfl) (fun V hV=>?_) ?_;rotate_left
   ·have b6:=fu V (wr.heap.size) bv ((hV.cell aP ad).trans (e0 0))
    (go_simp<;>with_reducible rfl)
   try simp only[PU]
   clear e0 a6 aP;refine tf ?_;refine aY ?_ ?_
   ·
    refine aC rfl (fun K hK=>?_) rfl;go_simp;refine(a2 _ (S.heap.size+1) A n c l 5 (k.1.cQ (M:=fun _=>False) Lo (fun _ _ h=>h)) ad ad).mono ?_;rintro e gM ⟨cr,rfl,bx,O,h,he⟩;obtain⟨j,rfl⟩:=KL bx;have bi:j<5:=ad;have aj:Fr (fun b=>b=S.heap.size+1) r1 gM:=he.fr;have aB:=ag h (k.2.trans aj);have b0:=ae (X.on aj ad);refine dz hK (he.fr) ?_;clear hK K;clear h he aj bx O
    iterate 2 refine tf ?_
    refine ao ?_;refine dP ?_;refine bw (fun V=>Ext gM V∧aq V gM.heap.size 139 #[.string ⟨#[]⟩,.int .i64 0]) ⟨Lo.alloc _,Lp⟩ (fun gt hV=>?_);have a7:=ag (aB.1.cQ hV.1 fun _ _ h=>h) (aB.2.trans (hV.1.mono fun _ h=>h.elim));have g0:wr.heap.size≤gM.heap.size:=aB.2.size;have cf:=ae hV.2;have gT:=ae (b0.ai hV.1);clear hV;have ah:=And.intro a7.1 (And.intro a7.2 (And.intro cf.o (And.intro (show b9≤gM.heap.size by omega) bi)));revert ah;generalize wr.heap.size=aW;generalize gM.heap.size=az;intro ah;exact key aW az j _ ah
   ·
    refine dP ?_;refine bw (fun V=>Ext r1 V∧aq V r1.heap.size 139 #[.string ⟨#[]⟩,.int .i64 0]) ⟨Lo.alloc _,Lp⟩ (fun gR hV=>?_);have bc:=ag (k.1.cQ hV.1 fun _ _ h=>h) (k.2.trans (hV.1.mono fun _ h=>h.elim));have g1:wr.heap.size≤r1.heap.size:=k.2.size;have cg:=ae hV.2;have b4:=ae (X.ai hV.1);clear hV;refine ao ?_;refine aC rfl (fun K hK=>?_) rfl;go_simp;refine(a2 _ (S.heap.size+1) A n c l 5 (bc.1.cQ (M:=fun _=>False) Lo (fun _ _ h=>h)) ad ad).mono ?_;rintro e gS ⟨cr,rfl,bx,O,h,he⟩;obtain⟨j,rfl⟩:=KL bx;have bi:j<5:=ad;have aj:Fr (fun b=>b=S.heap.size+1) gR gS:=he.fr;have bd:=ag h (bc.2.trans aj);have gV:=ae (b4.on aj ad);have cq:=ae (cg.on aj ad);refine dz hK (he.fr) ?_;clear hK K;clear h he aj bx O
    iterate 2 refine tf ?_
    have ah:=And.intro bd.1 (And.intro bd.2 (And.intro cq.o (And.intro (show b9≤r1.heap.size by omega) bi)));revert ah;generalize wr.heap.size=aW;generalize r1.heap.size=az;intro ah;exact key aW az j _ ah
  ·
   refine aC rfl (fun K hK=>?_) rfl;go_simp;refine(a2 _ (S.heap.size+1) A n c l 5 (U.1.cQ (M:=fun _=>False) (Lo.drew) (fun _ _ h=>h)) ad ad).mono ?_;rintro e eX ⟨cr,rfl,bx,O,h,he⟩;obtain⟨j,rfl⟩:=KL bx;have bi:j<5:=ad;have aj:Fr (fun b=>b=S.heap.size+1) wr eX:=Fr.aF he.fr;have g:=ag h (U.2.trans aj);refine dz hK (he.fr) ?_;clear hK K;clear h he aj bx O;refine tf ?_;refine aY ?_ ?_
   ·
    refine dP ?_;refine bw (fun V=>Ext eX V∧aq V eX.heap.size 5 #[.int .u8 bv]) ⟨Lo.alloc _,Lp⟩ (fun bV hV=>?_);have aE:=ag (g.1.cQ hV.1 fun _ _ h=>h) (g.2.trans (hV.1.mono fun _ h=>h.elim));have g3:wr.heap.size≤eX.heap.size:=g.2.size;have aR:=ae hV.2;clear hV;obtain⟨e0,a6,aP⟩:=aR.two;refine cx (v:=?_) rfl (by rfl) (fun V hV=>?_) ?_;rotate_left
    ·have b6:=fu V (eX.heap.size) bv ((hV.cell aP ad).trans (e0 0))
     (go_simp<;>with_reducible rfl)
    try simp only[PU]
    clear e0 a6 aP
    iterate 2 refine tf ?_
    refine ao ?_;refine dP ?_;refine bw (fun V=>Ext bV V∧aq V bV.heap.size 139 #[.string ⟨#[]⟩,.int .i64 0]) ⟨Lo.alloc _,Lp⟩ (fun ha hV=>?_);have bh:=ag (aE.1.cQ hV.1 fun _ _ h=>h) (aE.2.trans (hV.1.mono fun _ h=>h.elim));have g4:wr.heap.size≤bV.heap.size:=aE.2.size;have ct:=ae hV.2;have gW:=ae (aR.ai hV.1);clear hV;have ah:=And.intro bh.1 (And.intro bh.2 (And.intro ct.o (And.intro (show b9≤bV.heap.size by omega) bi)));revert ah;generalize eX.heap.size=aW;generalize bV.heap.size=az;intro ah;exact key aW az j _ ah
   ·
    refine dP ?_;refine bw (fun V=>Ext eX V∧aq V eX.heap.size 139 #[.string ⟨#[]⟩,.int .i64 0]) ⟨Lo.alloc _,Lp⟩ (fun bX hV=>?_);have aI:=ag (g.1.cQ hV.1 fun _ _ h=>h) (g.2.trans (hV.1.mono fun _ h=>h.elim));have g5:wr.heap.size≤eX.heap.size:=g.2.size;have cI:=ae hV.2;clear hV;refine ao ?_;refine dP ?_;refine bw (fun V=>Ext bX V∧aq V bX.heap.size 5 #[.int .u8 bv]) ⟨Lo.alloc _,Lp⟩ (fun g7 hV=>?_);have al:=ag (aI.1.cQ hV.1 fun _ _ h=>h) (aI.2.trans (hV.1.mono fun _ h=>h.elim));have eP:wr.heap.size≤bX.heap.size:=aI.2.size;have bl:=ae hV.2;have bq:=ae (cI.ai hV.1);clear hV;obtain⟨e0,a6,aP⟩:=bl.two;refine cx (v:=?_) rfl (by rfl) (fun V hV=>?_) ?_;rotate_left
    ·have b6:=fu V (bX.heap.size) bv ((hV.cell aP ad).trans (e0 0))
     (go_simp<;>with_reducible rfl)
    try simp only[PU]
    clear e0 a6 aP
    iterate 2 refine tf ?_
    have ah:=And.intro al.1 (And.intro al.2 (And.intro bq.o (And.intro (show b9≤eX.heap.size by omega) bi)));revert ah;generalize bX.heap.size=aW;generalize eX.heap.size=az;intro ah;exact key aW az j _ ah
  ·
   refine dP ?_;refine bw (fun V=>Ext wr V∧aq V wr.heap.size 139 #[.string ⟨#[]⟩,.int .i64 0]) ⟨(Lo.alloc _).drew,Lp⟩ (fun E hV=>?_);have d:=ag (U.1.cQ hV.1 fun _ _ h=>h) (U.2.trans (hV.1.mono fun _ h=>h.elim));have e4:wr.heap.size≤wr.heap.size:=U.2.size;have aK:=ae hV.2;clear hV;refine aY ?_ ?_
   ·
    refine dP ?_;refine bw (fun V=>Ext E V∧aq V E.heap.size 5 #[.int .u8 bv]) ⟨Lo.alloc _,Lp⟩ (fun f0 hV=>?_);have av:=ag (d.1.cQ hV.1 fun _ _ h=>h) (d.2.trans (hV.1.mono fun _ h=>h.elim));have fc:wr.heap.size≤E.heap.size:=d.2.size;have ac:=ae hV.2;have bB:=ae (aK.ai hV.1);clear hV;obtain⟨e0,a6,aP⟩:=ac.two;refine cx (v:=?_) rfl (by rfl) (fun V hV=>?_) ?_;rotate_left
    ·have b6:=fu V (E.heap.size) bv ((hV.cell aP ad).trans (e0 0))
     (go_simp<;>with_reducible rfl)
    try simp only[PU]
    clear e0 a6 aP;refine tf ?_;refine ao ?_;refine aC rfl (fun K hK=>?_) rfl;go_simp;refine(a2 _ (S.heap.size+1) A n c l 5 (av.1.cQ (M:=fun _=>False) Lo (fun _ _ h=>h)) ad ad).mono ?_;rintro e gn ⟨cr,rfl,bx,O,h,he⟩;obtain⟨j,rfl⟩:=KL bx;have bi:j<5:=ad;have aj:Fr (fun b=>b=S.heap.size+1) f0 gn:=he.fr;have aw:=ag h (av.2.trans aj);have dL:=ae (ac.on aj ad);have bH:=ae (bB.on aj ad);refine dz hK (he.fr) ?_;clear hK K;clear h he aj bx O
    iterate 2 refine tf ?_
    have ah:=And.intro aw.1 (And.intro aw.2 (And.intro bH.o (And.intro (show b9≤wr.heap.size by omega) bi)));revert ah;generalize E.heap.size=aW;exact r8
   ·
    refine aC rfl (fun K hK=>?_) rfl;go_simp;refine(a2 _ (S.heap.size+1) A n c l 5 (d.1.cQ (M:=fun _=>False) Lo (fun _ _ h=>h)) ad ad).mono ?_;rintro e F ⟨cr,rfl,bx,O,h,he⟩;obtain⟨j,rfl⟩:=KL bx;have bi:j<5:=ad;have aj:Fr (fun b=>b=S.heap.size+1) E F:=he.fr;have y:=ag h (d.2.trans aj);have bJ:=ae (aK.on aj ad);refine dz hK (he.fr) ?_;clear hK K;clear h he aj bx O;refine tf ?_;refine ao ?_;refine dP ?_;refine bw (fun V=>Ext F V∧aq V F.heap.size 5 #[.int .u8 bv]) ⟨Lo.alloc _,Lp⟩ (fun g8 hV=>?_);have aA:=ag (y.1.cQ hV.1 fun _ _ h=>h) (y.2.trans (hV.1.mono fun _ h=>h.elim));have fn:wr.heap.size≤F.heap.size:=y.2.size;have bm:=ae hV.2;have bO:=ae (bJ.ai hV.1);clear hV;obtain⟨e0,a6,aP⟩:=bm.two;refine cx (v:=?_) rfl (by rfl) (fun V hV=>?_) ?_;rotate_left
    ·have b6:=fu V (F.heap.size) bv ((hV.cell aP ad).trans (e0 0))
     (go_simp<;>with_reducible rfl)
    try simp only[PU]
    clear e0 a6 aP
    iterate 2 refine tf ?_
    have ah:=And.intro aA.1 (And.intro aA.2 (And.intro bO.o (And.intro (show b9≤wr.heap.size by omega) bi)));revert ah;generalize F.heap.size=aW;exact r8
 case vY=>
  exact Bh
 ):p:=h
end CI
open CI in
theorem Jp(S:World)(gQ:Value)(s:∀K,(∀a ab,Code.wp prog (nw 19) (bodyPost prog Tryz.f31 (kb S)) a ab→K a ab)→ES S gQ (bodyPost prog Tryz.f31 (kb S)) K)
  (K:Act→World→Prop) (hK:∀a ab,Code.wp prog (nw 13) (bodyPost prog Tryz.f31 (kb S)) a ab→K a ab):ER S gQ (bodyPost prog Tryz.f31 (kb S)) K:=by
 unfold ER;intro A n c l ar MA mn mc M hs hu gK gO z u8 gL eO go gp cc bR bS u16 gq gr eR eS eT eU eV eW eY eZ e3 e6 e7 e8 e9 u32 fa fb fd fe ff fh fi fk fl fm fo fp fq fr fs ft fv fw fx fy fz fA fB fC fD fE fF fG fH fI fJ u64 fK fL fM fN fO fP fQ fR fS fT fU fV fW fX fY fZ f3 f4 f5 f6 f7 f8 f9 ga gb gd ge gf gg gh gi gj gk gl gm H I am aF aL aM aN aU a1 a8 bb be bj bo br bt bA bF bG bL bM bW bZ b1 b2 b8 ca cb ce cj cn co cw cy cz cA cD cE cF cG cH cJ cM cO cP cQ cS cT cU cV cW cX cY cZ c4 c5 c6 c7 c8 c9 da db dc dd de df dg dh di dj dk dl dm dn dp dr dt du dv dw dx dy dA dB dD dE dF dG dH dJ dK dM dQ dR dS dT dV dW dX dY dZ d0 d1 d2 d3 d4 d5 d6 d7 d8 d9 ea eb ec ed ee ef eg eh ei ej ek el em en eo ep eq er es et eu ev ew ex ey ez eA eB eC eD eE eF eG eH eI eJ eL eM gu gv gw gx gy gz gA gB gC gD gE gG gH gI gJ w cK aZ;have bg:=ae (aZ.Jp cK);have gX:=ae s;obtain⟨u,g9⟩:∃u,u=w.heap.size:=⟨_,rfl⟩
 rw[←g9] at bg;clear aZ s g9;conv=>arg 2;whnf
 conv at hK=>enter [a,w,1,2];whnf
 obtain⟨a0,ai,af⟩:=bg.blk.two;go_wp2_with(fail);refine(a2 w (S.heap.size+1) A n c l 3 bg.src ad ad).mono ?_;rintro e aS ⟨cv,rfl,a3,bU,h,he⟩;obtain⟨N,rfl⟩:=KL a3;have hi:N<3:=ad;have gY:=ae (bg.next h he.fr);clear h he a0 ai af bg a3 bU;go_wp2_with(fail);go_loopw [7,8] (fun bD cu wr=>∃(i:Nat) (GA:Ls) (gc:Nat) (G:List (ByteArray×Int)) (au:Ls) (ba:Nat),cu=.int .i64 i∧bD=.slice au i ba∧i≤N∧w9 S u wr A n c l ar MA mn mc M GA i gc G au ba) (fun _ cu _=>N - (intOf cu).toNat)
 case atStart=>exact⟨0,none,0,[],none,0,rfl,rfl,ad,gY.o⟩
 case round=>
  obtain⟨i,GA,gc,G,au,ba,rfl,rfl,an,aZ⟩:=hrel;clear gY;have ck:=ae aZ;obtain⟨a0,ai,af⟩:=aZ.blk.two;have ci:G.length=i:=by have:=aZ.rows.one.len;simpa using this
  have hD:=aZ.hD;clear aZ;by_cases ak:i<N
  ·have gN:(i:Int)<(N:Int):=ad;have c3:i≤1:=ad;have gP:¬S.heap.size+1+1=S.heap.size+1:=ad;have ch:S.heap.size+1+1<wr.heap.size:=ck.blk.lt;go_upto_region 17 with(fail);exact zX
  ·have gN:¬(i:Int)<(N:Int):=ad;go_upto_region 19 with(fail);have cp:=gX.o _ (by assumption);unfold ES at cp;exact cp u A n c l ar MA mn mc M GA i gc G au ba wr ck.o
theorem G8:ch prog 25 143 (.agg #[.string ⟨#[]⟩,.slice none 0 0,.slice none 0 0]) 3 64:=ch.mk' Tryz.underlying25 (by kernel_rfl) rfl ad
theorem Hd:ch prog 140 145 (.agg #[.string ⟨#[]⟩,.bool false]) 2 24:=ch.mk' Tryz.underlying140 (by kernel_rfl) rfl ad
def qR(F:List aK):Prop:=∀i f,F[i]?=some f→f.name=jx i∧(∃n,n≤2∧f.params.map (·.1)=eX n)∧(i=0→f.params=[])∧f.body=.nil
theorem qR.snoc{F:List aK}(h:qR F)(an:F.length=i){n:Nat}(hn:n≤2)(hp:ps.map (·.1)=eX n)(h0:i=0→ps=[]):qR (F++[⟨jx i,ps,.nil⟩]):=by
 intro k m hm;by_cases ap:k<F.length
 ·rw[List.getElem?_append_left ap] at hm;exact h k m hm
 ·rw[List.getElem?_append_right ad] at hm;have bX:k - F.length=0:=by
   exact vf
  rw[bX] at hm;simp at hm;subst hm;have:k=i:=ad;subst this;exact⟨rfl,⟨n,hn,hp⟩,h0,rfl⟩
theorem FI{w:World}{P:Nat→Prop}{nm:ByteArray}{PA:Ls}{pn pc:Nat}(hc:pn≤pc)(h:Sl w P PA pn (ps.map ds)):(dr ⟨nm,ps,.nil⟩).rep w P [.string nm,.slice PA pn pc,.slice none 0 0]:=by
 unfold dr;rw[bK];exact cp.2 ⟨_,rfl,aN.2 ⟨PA,pn,pc,_,rfl,hc,h,aN.2 ⟨none,0,0,[],rfl,KG _,Sl.bO _,aP.2 rfl⟩⟩⟩
structure y3(S:World)(u:Nat)(w:World)(A:Ls)(n c:Nat)(l:List Int)(ar:Bool)(MA:Ls)(mn mc:Nat)(M:List bI)(GA:Ls)(gn gc:Nat)(G:List (ByteArray×Int))(au:Ls)(ba:Nat)(FA:Ls)(fn fc:Nat)(F:List aK):Prop where
 src:cm w (S.heap.size+1) A n c l
 blk:aq w (S.heap.size+1+1) 134 #[.pointer (some ⟨S.heap.size+1,0,none⟩),.slice GA gn gc,.slice MA mn mc,.slice FA fn fc,.int .i64 24,.bool ar]
 res:aq w S.heap.size 27 #[.slice none 0 0,.slice none 0 0,.slice none 0 0]
 ms:Sl w (fun b=>S.heap.size+1+1+1≤b∧b<u) MA mn (M.map ey)
 gs:Sl w (fun b=>S.heap.size+1+1+1≤b∧b<u) GA gn (G.map iA)
 vs:Sl w (fun b=>S.heap.size+1+1+1≤b∧b<u) au gn ((G.map (·.1)).map D.s)
 fs:Gr (fun b=>u≤b) u 143 3 w FA fn fc (F.map dr)
 mc:mn≤mc
 gc:gn≤gc
 nm:1≤mn∧mn≤4
 ok:m3 M
 ng:gn≤2
 yU:rY G
 nf:fn≤4
 Jb:qR F
 ext:Ext S w
 hD:S.heap.size+1+1+1≤u∧u≤w.heap.size
section
variable {S w ab:World} {u ip:Nat} {A:Ls} {n c:Nat} {l:List Int} {ar:Bool} {MA:Ls} {mn mc:Nat} {M:List bI} {GA:Ls} {gn gc:Nat} {G:List (ByteArray×Int)} {au:Ls} {ba:Nat} {FA:Ls} {fn fc:Nat} {F:List aK}
theorem w9.Jq(h:w9 S ip w A n c l ar MA mn mc M GA gn gc G au ba):y3 S w.heap.size w A n c l ar MA mn mc M GA gn gc G au ba none 0 0 []:=by
 have hD:=h.hD;exact⟨h.src,h.blk,h.res,h.ms.mono fun b hp=>⟨hp.1,by have:=hp.2;omega⟩,h.rows.one.sl (fun b O hp=>⟨by have:=hp.1;omega,O⟩) (fun b O aR=>⟨ad,O⟩),h.rows.two.sl (fun b O hp=>⟨by have:=hp.1;omega,O⟩) (fun b O aR=>⟨ad,O⟩),Gr.nil _ _ _ _ _,h.mc,h.rows.one.cap.1,h.nm,h.ok,h.ng,h.yU,ad,(fun i f h=>by cases h),h.ext,ad,KG _⟩
theorem y3.next(h:y3 S u w A n c l ar MA mn mc M GA gn gc G au ba FA fn fc F)(hs:cm ab (S.heap.size+1) A n c l)(O:Fr (fun b=>b=S.heap.size+1) w ab):y3 S u ab A n c l ar MA mn mc M GA gn gc G au ba FA fn fc F:=by
 have hD:=h.hD;have ap:∀b,(S.heap.size+1+1+1≤b∧b<u)→ab.heap[b]?=w.heap[b]?:=fun b hp=>O.block b (aD hp.2) (aD hp.1);exact⟨hs,h.blk.on O ad,h.res.on O ad,h.ms.ak ap,h.gs.ak ap,h.vs.ak ap,h.fs.c4 O (fun b O _=>⟨ad,ad⟩),h.mc,h.gc,h.nm,h.ok,h.ng,h.yU,h.nf,h.Jb,Fr.low (M:=fun b=>b=S.heap.size+1) ((h.ext.mono fun _ h=>h.elim).trans O) fun k ap=>ad,hD.1,by have:=O.size;omega⟩
theorem y3.add(h:y3 S u w A n c l ar MA mn mc M GA gn gc G au ba FA fn fc F){cT:Ls}{cy:Nat}{f:aK}(a2:Gr (fun b=>u≤b) u 143 3 ab cT (fn+1) cy (F.map dr++[dr f]))(J:Fr (fun b=>(Value.slice FA fn fc).ownBlock=some b) w ab)
  (hn:fn+1≤4) (bZ:qR (F++[f])):y3 S u (ab.setCell ⟨S.heap.size+1+1,3,none⟩ (.slice cT (fn+1) cy)) A n c l ar MA mn mc M GA gn gc G au ba cT (fn+1) cy (F++[f]):=by
 have hD:=h.hD;have bn:∀b,(Value.slice FA fn fc).ownBlock=some b→u≤b:=fun b O=>(h.fs.lt O).1;have az:Fr (fun b=>b=S.heap.size+1+1) ab (ab.setCell ⟨S.heap.size+1+1,3,none⟩ (.slice cT (fn+1) cy)):=(Fr.refl (fun b=>b=S.heap.size+1+1) ab).setCell (.inl rfl) _;have hs:=J.size;have bO:=az.size;have ap:∀b,(S.heap.size+1+1+1≤b∧b<u)→(ab.setCell ⟨S.heap.size+1+1,3,none⟩ (.slice cT (fn+1) cy)).heap[b]?=w.heap[b]?:=fun b hp=>(az.block b (aD hp.2) (aD hp.1)).trans (J.block b (aD hp.2) fun ah=>by have:=bn b ah;have:=hp.2;omega);refine⟨(h.src.cQ J fun b O ah=>by have:=bn b ah;omega).cQ az (fun b O ah=>ad),(h.blk.on J fun ah=>by have:=bn _ ah;omega).aM 3 _,(h.res.on J fun ah=>by have:=bn _ ah;omega).on az ad,h.ms.ak ap,h.gs.ak ap,h.vs.ak ap,?_,h.mc,h.gc,h.nm,h.ok,h.ng,h.yU,hn,bZ,?_,hD.1,ad⟩
 ·rw[KN,KM,Le];exact a2.c4 az (fun b O _=>⟨ad,ad⟩)
 ·have ac:Ext S ab:=Fr.low (M:=fun b=>(Value.slice FA fn fc).ownBlock=some b) ((h.ext.mono fun _ h=>h.elim).trans J) fun k ap=>by have:=bn k ap;omega
  exact zt
end
def ET(S:World)(gQ:Value)(Q:Exit→Act→World→Prop)(K:Act→World→Prop):Prop:=∀(u:Nat) (A:Ls) (n c:Nat) (l:List Int) (ar:Bool) (MA:Ls) (mn mc:Nat) (M:List bI) (GA:Ls) (gn gc:Nat) (G:List (ByteArray×Int)) (au:Ls) (ba:Nat) (FA:Ls) (fn fc:Nat) (F:List aK) {hs hu gK gO u8 gL eO go gp cc bR bS u16 gq gr eR eS eT eU eV eW eY eZ e3 e6 e7 e8 e9 u32 fa fb fd fe ff fh fi fk fl fm fo fp fq fr fs ft fv fw fx fy fz fA fB fC fD fE fF fG fH fI fJ u64 fK fL fM fN fO fP fQ fR fS fT fU fV fW fX fY fZ f3 f4 f5 f6 f7 f8 f9 ga gb gd ge gf gg gh gi gj gk gl gm H I am aF aL aM aN aU a1 a8 bb be bj bo br bt bA bF bG bL bM bW bZ b1 b2 b8 ca cb ce cj cn co cw cy cz cA cD cE cF cG cH cJ cM cO cP cQ cS cT cU cV cW cX cY cZ c4 c5 c6 c7 c8 c9 da db dc dd de df dg dh di dj dk dl dm dn dp dr dt du dv dw dx dy dA dB dD dE dF dG dH dJ dK dM dQ dR dS dT dV dW dX dY dZ d0 d1 d2 d3 d4 d5 d6 d7 d8 d9 ea eb ec ed ee ef eg eh ei ej ek el em en eo ep eq er es et eu ev ew ex ey ez eA eB eC eD eE eF eG eH eI eJ eL eM gu gv gw gx gy gz gA gB gC gD gE gG gH gI gJ:Value} (w:World),1≤fn→y3 S u w A n c l ar MA mn mc M GA gn gc G au ba FA fn fc F→
 Code.wp prog (wv 32) (Exit.then K Q) ⟨#[gQ,hs,.pointer (some ⟨S.heap.size,0,none⟩),.pointer (some ⟨S.heap.size+1+1,0,none⟩),hu,gK,gO,.slice au gn ba,u8,gL,eO,go,gp,cc,bR,bS,u16,gq,gr,eR,eS,eT,eU,eV,eW,eY,eZ,e3,e6,e7,e8,e9,u32,fa,fb,fd,fe,ff,fh,fi,fk,fl,fm,fo,fp,fq,fr,fs,ft,fv,fw,fx,fy,fz,fA,fB,fC,fD,fE,fF,fG,fH,fI,fJ,u64,fK,fL,fM,fN,fO,fP,fQ,fR,fS,fT,fU,fV,fW,fX,fY,fZ,f3,f4,f5,f6,f7,f8,f9,ga,gb,gd,ge,gf,gg,gh,gi,gj,gk,gl,gm,H,I,am,aF,aL,aM,aN,aU,a1,a8,bb,be,bj,bo,br,bt,bA,bF,bG,bL,bM,bW,bZ,b1,b2,b8,ca,cb,ce,cj,cn,co,cw,cy,cz,cA,cD,cE,cF,cG,cH,cJ,cM,cO,cP,cQ,cS,cT,cU,cV,cW,cX,cY,cZ,c4,c5,c6,c7,c8,c9,da,db,dc,dd,de,df,dg,dh,di,dj,dk,dl,dm,dn,dp,dr,dt,du,dv,dw,dx,dy,dA,dB,dD,dE,dF,dG,dH,dJ,dK,dM,dQ,dR,dS,dT,dV,dW,dX,dY,dZ,d0,d1,d2,d3,d4,d5,d6,d7,d8,d9,ea,eb,ec,ed,ee,ef,eg,eh,ei,ej,ek,el,em,en,eo,ep,eq,er,es,et,eu,ev,ew,ex,ey,ez,eA,eB,eC,eD,eE,eF,eG,eH,eI,eJ,eL,eM,gu,gv,gw,gx,gy,gz,gA,gB,gC,gD,gE,gG,gH,gI,gJ],[]⟩ w
theorem DE(an:i<4)(h0:i≠0)(O:bv=48+(i:Int)):(⟨#[102]⟩++strOf [byteOf bv]:ByteArray)=jx i:=by
 subst O;have h:∀k:Fin 4,k.val≠0→(⟨#[102]⟩++strOf [byteOf (48+((k.val:Nat):Int))]:ByteArray)=jx k.val:=by decide
 exact h ⟨i,an⟩ h0
theorem D8(an:i<3)(O:IntKind.u8.wrap (IntKind.i64.wrap (48+(i:Int)))=bv):(⟨#[112]⟩++strOf [byteOf bv]:ByteArray)=ue i:=by
 subst O;have h:∀k:Fin 3,(⟨#[112]⟩++strOf [byteOf (IntKind.u8.wrap (IntKind.i64.wrap (48+((k.val:Nat):Int))))]:ByteArray)=ue k.val:=by decide
 exact h ⟨i,an⟩
end Go.Proofs.YtnhhdaggkiomoaaGreat

/- Part 41 of the proof. No condition of its own. -/
import Derived.Test.YtflecliffjbleaaGreatS40
namespace Go.Proofs.YtflecliffjbleaaGreat
open Go.RowKit Go.Proofs.Tryz
set_option maxRecDepth 1000000
set_option maxHeartbeats 25600000
set_option linter.unusedVariables false
variable{p:Prop}
namespace Dj
theorem dd(h:p:=by
 generalize b1:World.setCell _ _ _=gX;have f:=bh.1.add aV.1 aV.2 ad (nt.snoc bh.1.ok a4 (re:=true) (sz:=0) ad ad (by intro _;rfl));rw[b1] at f;have bq:=ae f;clear b1 f a0 ak af;go_wp2_with(fail);go_roundw
 case rel=>exact⟨i+1,r,di,M++[⟨iM i,true,0⟩],by go_num,ad,bq.o⟩
 case measure=>exact aE
 ):p:=h
end Dj
open Dj in
theorem K3(A:Mk)(n c:Nat)(l:List Int)(w:World)(h:cA (EF cd) 1 w w.heap.size A n l)(hc:n<=c)
  (s:∀K,(∀a ab,Code.wp prog (nU 13) (bodyPost prog Tryz.f56 (kq w)) a ab->K a ab)->Fw w (.slice A n c) (bodyPost prog Tryz.f56 (kq w)) K) :
  Calls prog 56 #[.slice A n c] w (kq w):=by
 obtain⟨H,gW⟩:=aH h s;clear h s;go_enter func56,ntmps56;go_upto_region 1 with(fail);generalize bd:World.alloc _ _=W;have aF:=aZ bd;have cB:=aN bd;have cS:W.heap.size=w.heap.size+1:=by rw[<-bd];simp
 have y:=H.cS (Fr.ext aF) aF.size;have ag:=aA aF cB y;clear bd aF cB y;go_wp2_with(fail);refine(D0 400 A n c l W ad ag.2.2 hc).mono ?_;rintro e aP ⟨⟨I,aQ,aD,rfl,bJ,aM,aa⟩,rfl⟩;have b2:=ae aa;clear aa;go_upto_region 2 with(fail);generalize hX:World.alloc _ _=X;have bz:=hi hX;have q:ao X (w.heap.size+1) 167 #[.slice I aQ aD,.int .i64 0]:=hX▸(ao.gA _ _ _ cS.symm).alloc _;have u:ao X (w.heap.size+1+1) 169 #[.pointer (some ⟨w.heap.size+1,0,none⟩),.slice none 0 0,.slice none 0 0,.slice none 0 0,.int .i64 24,.bool false]:=hX▸ao.gA _ _ _ (by simp[cS]);have aw:cp X (w.heap.size+1) I aQ aD aM:=⟨q.lt,by rw[q.cell];rfl,⟨0,ad,by rw[q.cell];rfl⟩,q.frozen 1,(by have:=b2.o;rw[cS] at this;exact this.fH (bz.below ad λ_ _ h=>h)),ad⟩
 have H1:=bA aw u (ag.2.1.aj bz) (ag.1.trans bz);clear hX bz q u aw ag b2;obtain⟨a0,ak,af⟩:=H1.2.1.two;go_wp2_with(fail);refine(aY X (w.heap.size+1) I aQ aD aM 3 H1.1 ad ad).mono ?_;rintro e aW ⟨cv,rfl,bm,bX,h,he⟩;have bZ:=bA h (H1.2.1.on he.fr ad) (H1.2.2.1.on he.fr ad) (Fr.low (M:=λb=>b=w.heap.size+1) ((H1.2.2.2.mono λ_ h=>h.elim).trans he.fr) λk aj=>ad);clear h he bm bX a0 ak af H1;obtain⟨a0,ak,af⟩:=bZ.2.1.two;go_upto_region 3 with(fail);generalize (cv == 1)=ar;generalize hX:World.setCell _ _ _=cQ;have J:=cJ hX;have u:ao cQ (w.heap.size+1+1) 169 #[.pointer (some ⟨w.heap.size+1,0,none⟩),.slice none 0 0,.slice none 0 0,.slice none 0 0,.int .i64 24,.bool ar]:=hX▸bZ.2.1.aJ 5 _;have bY:=bA (bZ.1.cT J λb O h=>ad) u (bZ.2.2.1.on J ad) (Fr.low (M:=λb=>b=w.heap.size+1+1) ((bZ.2.2.2.mono λ_ h=>h.elim).trans J) λk aj=>ad);clear hX J u bZ a0 ak af;obtain⟨a0,ak,af⟩:=bY.2.1.two;go_wp2_with(fail);refine(aY cQ (w.heap.size+1) I aQ aD aM 4 bY.1 ad ad).mono ?_;rintro e cI ⟨bR,rfl,bm,bX,h,he⟩;obtain⟨F,rfl⟩:=LH bm;have E:F<4:=ad;have P:=bA h (bY.2.1.on he.fr ad) (bY.2.2.1.on he.fr ad) (Fr.low (M:=λb=>b=w.heap.size+1) ((bY.2.2.2.mono λ_ h=>h.elim).trans he.fr) λk aj=>ad);clear h he bm bX a0 ak af bY;go_wp2_with(fail);go_loopw [4] (λcw wr=>∃(i:Nat) (MA:Mk) (mc:Nat) (M:List bL),cw=.int .i64 i/\i<=1+F/\pI w wr I aQ aD aM ar MA i mc M) (λcw _=>1+F - (intOf cw).toNat)
 case atStart=>exact⟨0,none,0,[],rfl,ad,⟨P.1,P.2.1,P.2.2.1,Gr.nil _ _ _ _ _,ad,(λi m h=>by cases h),P.2.2.2⟩⟩
 case round=>
  obtain⟨i,MA,mc,M,rfl,al,be⟩:=hrel;clear P;have cj:=ae be;obtain⟨a0,ak,af⟩:=be.blk.two;have a4:M.length=i:=by have:=be.ms.len;simpa using this
  have cu:=be.blk.lt;clear be;by_cases ap:i<1+F
  .have aU:(i:Int)<1+(F:Int):=ad;have e1:i<=3:=ad;have b4:=λ(W:World) (v:Int)=>la W v;go_upto_region 7 with(fail);clear b4;generalize hX:World.alloc _ _=g6;have b7:=hi hX;have g9:ao g6 (wr.heap.size+1) 131 #[.string (iM i),.bool false,.int .i64 0]:=by
    rw[<-hX,<-Ez (by omega:i<4)];exact ao.gA _ _ _ (by simp)
   have dL:=ah (cj.aj b7) g9;have bg:(Value.slice MA i mc).ownBlock≠some (wr.heap.size+1):=λO=>by have:=(cj.ms.lt O).2;omega
   have aT:=ae bg;clear hX b7 g9 a0 ak af bg;obtain⟨a0,ak,af⟩:=dL.1.blk.two;go_wp2_with(fail);refine(aY g6 (w.heap.size+1) I aQ aD aM 5 dL.1.src ad ad).mono ?_;rintro e Y ⟨b0,rfl,x,aB,h,he⟩;have bF:=ah (dL.1.next h he.fr) (dL.2.on he.fr ad);have dh:wr.heap.size+1<Y.heap.size:=bF.2.lt;clear h he a0 ak af;by_cases ac:b0=1
   .have q1:(b0 == 1)=true:=by simpa using ac
    clear ac x aB;obtain⟨d0,aK,aO⟩:=bF.2.two;go_upto_region 12 with(fail);generalize hX:World.setCell _ _ _=dn;have J:=cJ hX;have hM:ao dn (wr.heap.size+1) 131 #[.string (iM i),.bool true,.int .i64 0]:=hX▸bF.2.aJ 1 _;have j:=ah (bF.1.fresh ad aT.o J) hM;clear hX J hM d0 aK aO bF;obtain⟨a0,ak,af⟩:=j.1.blk.two;obtain⟨d0,aK,aO⟩:=j.2.two;have G:=j.2.lt;refine eK (λ_=>False) [(0,3),(1,3),(2,3),(3,3),(4,3),(5,0),(6,0),(7,1),(8,2),(9,3),(10,3),(11,3),(12,2)] ?_
    iterate 5 refine pf ?_
    iterate 2 refine ph ?_
    refine ry ?_;generalize bG:World.drew (World.alloc _ _)=Z;have ba:=hh bG;have bt:=lP bG;have a3:=j.1.aj ba;have bh:=ah a3 bt;have bM:=ba.size;clear bG ba bt a3 a0 ak af d0 aK aO;refine au rfl (λK hK=>?_);rw[if_pos (by rfl)];refine fm l7 (.tmp 73) (.tmp 75) (by rfl) bh.1.ms bh.2 (fq.2 rfl:(eC ⟨iM i,true,0⟩).rep Z _ _) (by rfl) (by rfl) (by rfl) ad ad ad ?_;intro r di fn bc z ce ca;have bn:∀b,(Value.slice MA i mc).ownBlock=some b->w.heap.size+1+1+1<=b:=λb O=>(bh.1.ms.lt O).1;have a9:=bh.1.blk.on z (λO=>by have:=bn _ O;omega);have aV:=ah bc z;clear bc z ce ca bn;obtain⟨a0,ak,af⟩:=a9.two;clear a9;refine dU hK ?_;clear hK K
    iterate 3 refine pf ?_
    exact eM
   by_cases ax:b0=2
   .have q1:(b0 == 1)=false:=by simpa using ac
    have cO:(b0 == 2)=true:=by simpa using ax
    clear ac ax x aB;obtain⟨a0,ak,af⟩:=bF.1.blk.two;go_wp2_with(fail);refine(aY Y (w.heap.size+1) I aQ aD aM 3 bF.1.src ad ad).mono ?_;rintro e g7 ⟨cU,rfl,L,an,h,he⟩;have Q:=ah (bF.1.next h he.fr) (bF.2.on he.fr ad);clear h he a0 ak af bF;obtain⟨d0,aK,aO⟩:=Q.2.two;go_upto_region 12 with(fail);generalize hX:World.setCell _ _ _=dn;have J:=cJ hX;have hM:ao dn (wr.heap.size+1) 131 #[.string (iM i),.bool false,.int .i64 (1+cU)]:=hX▸Q.2.aJ 2 _;have j:=ah (Q.1.fresh ad aT.o J) hM;clear hX J hM d0 aK aO Q;obtain⟨a0,ak,af⟩:=j.1.blk.two;obtain⟨d0,aK,aO⟩:=j.2.two;have G:=j.2.lt;refine eK (λ_=>False) [(0,3),(1,3),(2,3),(3,3),(4,3),(5,0),(6,0),(7,1),(8,2),(9,3),(10,3),(11,3),(12,2)] ?_
    iterate 5 refine pf ?_
    iterate 2 refine ph ?_
    refine ry ?_;generalize bG:World.drew (World.alloc _ _)=Z;have ba:=hh bG;have bt:=lP bG;have a3:=j.1.aj ba;have bh:=ah a3 bt;have bM:=ba.size;clear bG ba bt a3 a0 ak af d0 aK aO;refine au rfl (λK hK=>?_);rw[if_pos (by rfl)];refine fm l7 (.tmp 73) (.tmp 75) (by rfl) bh.1.ms bh.2 (fq.2 rfl:(eC ⟨iM i,false,(1+cU)⟩).rep Z _ _) (by rfl) (by rfl) (by rfl) ad ad ad ?_;intro r di fn bc z ce ca;have bn:∀b,(Value.slice MA i mc).ownBlock=some b->w.heap.size+1+1+1<=b:=λb O=>(bh.1.ms.lt O).1;have a9:=bh.1.blk.on z (λO=>by have:=bn _ O;omega);have aV:=ah bc z;clear bc z ce ca bn;obtain⟨a0,ak,af⟩:=a9.two;clear a9;refine dU hK ?_;clear hK K
    iterate 3 refine pf ?_
    refine au rfl (λK hK=>?_);go_simp;refine dU hK ?_;clear hK K;refine aC ?_;generalize b1:World.setCell _ _ _=gX;have f:=bh.1.add aV.1 aV.2 ad (nt.snoc bh.1.ok a4 (re:=false) (sz:=(1+cU)) ad ad (by intro h;cases h));rw[b1] at f;have bq:=ae f;clear b1 f a0 ak af;go_wp2_with(fail);go_roundw
    case rel=>exact⟨i+1,r,di,M++[⟨iM i,false,(1+cU)⟩],by go_num,ad,bq.o⟩
    case measure=>exact aE
   .have q1:(b0 == 1)=false:=by simpa using ac
    have cO:(b0 == 2)=false:=by simpa using ax
    clear ac ax x aB;go_upto_region 12 with(fail);obtain⟨a0,ak,af⟩:=bF.1.blk.two;obtain⟨d0,aK,aO⟩:=bF.2.two;refine eK (λ_=>False) [(0,3),(1,3),(2,3),(3,3),(4,3),(5,0),(6,0),(7,1),(8,2),(9,3),(10,3),(11,3),(12,2)] ?_
    iterate 5 refine pf ?_
    iterate 2 refine ph ?_
    refine ry ?_;generalize bG:World.drew (World.alloc _ _)=Z;have ba:=hh bG;have bt:=lP bG;have a3:=bF.1.aj ba;have bh:=ah a3 bt;have bM:=ba.size;clear bG ba bt a3 a0 ak af d0 aK aO;refine au rfl (λK hK=>?_);rw[if_pos (by rfl)];refine fm l7 (.tmp 73) (.tmp 75) (by rfl) bh.1.ms bh.2 (fq.2 rfl:(eC ⟨iM i,false,0⟩).rep Z _ _) (by rfl) (by rfl) (by rfl) ad ad ad ?_;intro r di fn bc z ce ca;have bn:∀b,(Value.slice MA i mc).ownBlock=some b->w.heap.size+1+1+1<=b:=λb O=>(bh.1.ms.lt O).1;have a9:=bh.1.blk.on z (λO=>by have:=bn _ O;omega);have aV:=ah bc z;clear bc z ce ca bn;obtain⟨a0,ak,af⟩:=a9.two;clear a9;refine dU hK ?_;clear hK K
    iterate 3 refine pf ?_
    refine au rfl (λK hK=>?_);go_simp;refine dU hK ?_;clear hK K;refine aC ?_;generalize b1:World.setCell _ _ _=gX;have f:=bh.1.add aV.1 aV.2 ad (nt.snoc bh.1.ok a4 (re:=false) (sz:=0) ad ad (by intro _;rfl));rw[b1] at f;have bq:=ae f;clear b1 f a0 ak af;go_wp2_with(fail);go_roundw
    case rel=>exact⟨i+1,r,di,M++[⟨iM i,false,0⟩],by go_num,ad,bq.o⟩
    case measure=>exact aE
  .have aU:¬(i:Int)<1+(F:Int):=ad;go_upto_region 13 with(fail);have c3:=gW.o _ (by assumption);unfold Fw at c3;exact c3 I aQ aD aM ar MA i mc M wr ad cj.o
namespace Dk
theorem fO(h:p:=by
 refine ck ?_;generalize bG:World.setCell _ _ _=Y;have hc:wr.heap.size<=cD:=ad;obtain⟨bD,bx,bJ⟩:=ef (M:=λb=>b=S.heap.size+1) [.string (⟨#[103]⟩++strOf [byteOf bv]),.int .i64 (IntKind.i64.wrap ((j:Int) - 2))] (by rfl) bV ai hc bG;obtain⟨aj,bL⟩:∃aj:Int,aj=IntKind.i64.wrap ((j:Int) - 2):=⟨_,rfl⟩
 rw[<-bL] at bD;rw[IntWalk.i64_in _ ad] at bL;rw[Ej ad aI.o] at bD;have Z:=cj.next (aw.cT bJ λb O h=>ad) bx;have a3:-2<=aj/\aj<=2:=ad;have bF:=ah Z bD;have bY:=ae a3;clear bG bD bx bJ Z bL a3 aw ai bV bU aX a4 bi;obtain⟨a0,ak,af⟩:=bF.1.blk.two;obtain⟨bU,aX,a4⟩:=bF.2.two;have m:∀b,(Value.slice GA i gc).ownBlock=some b->u<=b/\b<wr.heap.size:=λb O=>cj.rows.one.lt O;have aF:∀b,(Value.slice av i a7).ownBlock=some b->u<=b/\b<wr.heap.size:=λb O=>cj.rows.two.lt O;have ba:¬(Value.slice GA i gc).ownBlock=some (S.heap.size+1+1):=λh=>by have:=(m _ h).1;omega
 have c3:¬(Value.slice GA i gc).ownBlock=some cD:=λh=>by have:=(m _ h).2;omega
 have g5:u<=Y.heap.size:=bF.1.hD.2;have bn:wr.heap.size<=Y.heap.size:=by have:=bF.2.lt;omega
 have bh:=ah m aF;clear m aF;go_upto_region 18 with(fail);refine tw (λb=>(Value.slice GA i gc).ownBlock=some b) [13,17] (.free 0 (.free 1 (.free 2 (.free 3 (.free 4 (.held 5 (.held 6 (.free 9 (.free 10 (.held 11 (.pick [7,12] (λi=>bif i == 7 then .pick [8,12] (λi=>bif i == 8 then .pick [12] (λ_=>.pick [13] (λ_=>.free 14 (.free 15 (.free 16 (.pick [17] (λ_=>.free 18 (.stop))))))) else .pick [8] (λ_=>.pick [13] (λ_=>.free 14 (.free 15 (.free 16 (.pick [17] (λ_=>.free 18 (.stop)))))))) else .pick [7] (λ_=>.pick [8] (λ_=>.pick [13] (λ_=>.free 14 (.free 15 (.free 16 (.pick [17] (λ_=>.free 18 (.stop)))))))))))))))))))) ?_
 iterate 5 refine tf ?_
 iterate 2 refine oV ?_
 iterate 2 refine tf ?_
 refine oV ?_;clear a0 ak af bU aX a4;refine iW (P:=?Lj) (ops:=?Lp) (Q:=?Lt) (R:=?Lv) (tails:=?Lx) (rest:=.pick [13] (λ_=>.free 14 (.free 15 (.free 16 (.pick [17] (λ_=>.free 18 (.stop))))))) (aa:=?Lo)
  (C:=λ(_:Nat) b3 A2 bR V=>True/\∃q1 cO,Ext Y q1/\Gr (λb=>u<=b/\(Value.slice av i a7).ownBlock≠some b) u 128 2 cO A2 (i+1) bR (G.map iI++[iI (dT i,aj)])/\Fr (λb=>(Value.slice GA i gc).ownBlock=some b) q1 cO/\dx q1 GA i gc A2 (i+1) bR/\Ext cO V/\ao V b3 9 #[.string (dT i)]) (λkey=>?K2) ?K1
 case K2=>
  refine a5 ?_ ?_
  ·
   refine eu ?_;generalize hV:World.drew (World.alloc _ _)=fh;have e1:=hh hV;have bO:ao fh Y.heap.size 128 #[.string (dT i),.int .i64 aj]:=hV▸Mh;clear hV;refine a5 ?_ ?_
   ·
    refine aD rfl (λK hK=>?_) rfl;rw[if_pos (by rfl)];refine fm v5 (.tmp 108) (.tmp 110) (by rfl) (bF.1.rows.aj e1).one bO (tt.2 rfl:(iI (dT i,aj)).rep fh _ _) (by rfl) (by rfl) (by rfl) ad ad (aB e1.size) ?_;intro A2 bR aW ce f1 o1 c1;refine dP hK (f1) ?_;clear hK K;refine aq ?_;refine eu ?_;have ag:True/\∃q1 cO,Ext Y q1/\Gr (λb=>u<=b/\(Value.slice av i a7).ownBlock≠some b) u 128 2 cO A2 (i+1) bR (G.map iI++[iI (dT i,aj)])/\Fr (λb=>(Value.slice GA i gc).ownBlock=some b) q1 cO/\dx q1 GA i gc A2 (i+1) bR/\Ext cO (aW.alloc (.cells #[.string (dT i)] 9))/\ao (aW.alloc (.cells #[.string (dT i)] 9)) aW.heap.size 9 #[.string (dT i)]:=⟨trivial,fh,aW,e1,ce,f1,o1,Mg.alloc _,Mh⟩
    clear ce o1;revert ag;generalize aW.heap.size=b3;generalize Y.heap.size=eW;intro ag;exact key eW b3 A2 bR _ ag
   ·
    refine eu ?_;generalize hV:World.alloc _ _=T;have cb:ao T fh.heap.size 9 #[.string (dT i)]:=hV▸Mh;have aT:=by have:=bO.alloc (.cells #[.string (dT i)] 9);rw[hV] at this;exact this
    have e2:Ext Y T:=hV▸e1.alloc _;clear hV bO;refine aq ?_;refine aD rfl (λK hK=>?_) rfl;rw[if_pos (by rfl)];refine fm v5 (.tmp 108) (.tmp 110) (by rfl) (bF.1.rows.aj e2).one aT (tt.2 rfl:(iI (dT i,aj)).rep T _ _) (by rfl) (by rfl) (by rfl) ad ad (aB e2.size) ?_;intro A2 bR aW ce f1 o1 c1;refine dP hK (f1) ?_;clear hK K;have bl:¬(Value.slice GA i gc).ownBlock=some fh.heap.size:=λO=>by have:=(bh.1 _ O).2;have:=e1.size;omega
    have ag:True/\∃q1 cO,Ext Y q1/\Gr (λb=>u<=b/\(Value.slice av i a7).ownBlock≠some b) u 128 2 cO A2 (i+1) bR (G.map iI++[iI (dT i,aj)])/\Fr (λb=>(Value.slice GA i gc).ownBlock=some b) q1 cO/\dx q1 GA i gc A2 (i+1) bR/\Ext cO aW/\ao aW fh.heap.size 9 #[.string (dT i)]:=⟨trivial,T,aW,e2,ce,f1,o1,Mg,cb.on f1 bl⟩
    clear ce o1;revert ag;generalize fh.heap.size=b3;generalize Y.heap.size=eW;intro ag;exact key eW b3 A2 bR _ ag
  ·
   refine eu ?_;generalize hV:World.drew (World.alloc _ _)=fh;have cb:ao fh Y.heap.size 9 #[.string (dT i)]:=hV▸Mh;have e1:=hh hV;clear hV;refine aq ?_;refine eu ?_;generalize hV:World.alloc _ _=T;have e2:Ext Y T:=hV▸e1.alloc _;have bO:=aN hV;have aV:ao T Y.heap.size 9 #[.string (dT i)]:=hV▸cb.alloc _;clear hV;refine aq ?_;refine aD rfl (λK hK=>?_) rfl;rw[if_pos (by rfl)];refine fm v5 (.tmp 108) (.tmp 110) (by rfl) (bF.1.rows.aj e2).one bO (tt.2 rfl:(iI (dT i,aj)).rep T _ _) (by rfl) (by rfl) (by rfl) ad ad (aB e2.size) ?_;intro A2 bR aW ce f1 o1 c1;refine dP hK (f1) ?_;clear hK K;have bl:¬(Value.slice GA i gc).ownBlock=some Y.heap.size:=λO=>by have:=(bh.1 _ O).2;omega
   have ag:True/\∃q1 cO,Ext Y q1/\Gr (λb=>u<=b/\(Value.slice av i a7).ownBlock≠some b) u 128 2 cO A2 (i+1) bR (G.map iI++[iI (dT i,aj)])/\Fr (λb=>(Value.slice GA i gc).ownBlock=some b) q1 cO/\dx q1 GA i gc A2 (i+1) bR/\Ext cO aW/\ao aW Y.heap.size 9 #[.string (dT i)]:=⟨trivial,T,aW,e2,ce,f1,o1,Mg,aV.on f1 bl⟩
   clear ce o1;revert ag;generalize Y.heap.size=b3;generalize fh.heap.size=eW;intro ag;exact key eW b3 A2 bR _ ag
 case K1=>
  rintro eW b3 A2 bR V ⟨_,aP,aW,e1,ce,f1,o1,e2,cb⟩;have s1:=e1.size;have s2:=f1.size;have cJ:=e2.size;obtain⟨m,aF⟩:=bh.o;have bk:=((bF.1.rows.aj e1).grow ce f1 o1).aj e2;have b5:ao V (S.heap.size+1+1) _ _:=((bF.1.blk.aj e1).on f1 ba).aj e2;have cN:¬(Value.slice av i a7).ownBlock=some (S.heap.size+1+1):=λh=>by have:=(aF _ h).1;omega
  refine aq ?_;refine bN rfl (λK hK=>?_) rfl;rw[if_pos (by rfl)];refine fm kE (.tmp 112) (.tmp 115) (by rfl) bk.two cb (uX.2 rfl:(D.s (dT i)).rep V _ _) (by rfl) (by rfl) (by rfl) ad ad ad ?_;intro cr cz cI g2 f2 fk c2;have z:=(bk.swap.grow g2 f2 fk).swap;have bQ:=b5.on f2 cN;have J:Fr (λb=>(Value.slice GA i gc).ownBlock=some b\/(Value.slice av i a7).ownBlock=some b) Y cI:=((((e1.mono λ_ h=>h.elim).trans (f1.mono λ_ h=>.inl h)).trans (e2.mono λ_ h=>h.elim)).trans (f2.mono λ_ h=>.inr h))
  have r:=ah z J;clear ce f1 o1 e1 e2 cb bk b5 g2 f2 fk c2 z J;obtain⟨a0,ak,af⟩:=bQ.two;clear bQ;refine dU hK ?_;clear hK K
  iterate 3 refine tf ?_
  refine aq ?_;refine bN rfl (λK hK=>?_) rfl;go_simp;refine dU hK ?_;clear hK K;refine tf ?_;refine ck ?_;generalize hX:World.setCell _ _ _=gX;have ct:lL u 128 2 9 1 cI A2 (i+1) bR ((G++[(dT i,aj)]).map iI) cr (i+1) cz (((G++[(dT i,aj)]).map (·.1)).map D.s):=by
   simp only[LJ,LI,L4];exact r.1
  have f:=bF.1.add ct r.2 ad (cj.zF.snoc cu bY.1 bY.2);rw[hX] at f;have bq:=ae f;clear hX f ct a0 ak af;go_wp2_with(fail);go_roundw
  case rel=>exact⟨i+1,A2,bR,G++[(dT i,aj)],cr,cz,by go_num,rfl,ad,bq.o⟩
  case measure=>exact aE
 ):p:=h
theorem AE(h:p:=by
 generalize ha:IntKind.u8.wrap (IntKind.i64.wrap (48+(i:Int)))=bv;obtain⟨bB,hO⟩:∃bB,bB=wr.heap.size:=⟨_,rfl⟩
 have aI:=ae ha;clear ha;have hp:(strOf [byteOf bv]).size=1:=aM _;have U:=ah cj.src (Fr.refl (λb=>b=S.heap.size+1) wr);refine iV (P:=?pI) (ops:=?IM) (Q:=?IP) (R:=?IQ) (tails:=?IT) (rest:=.pick [14] (λ_=>.stop)) (aa:=?IL)
  (C:=λ(a2 cD j:Nat) fg=>cp fg (S.heap.size+1) A n c l/\Fr (λb=>b=S.heap.size+1) wr fg/\ao fg cD 128 #[.string ⟨#[]⟩,.int .i64 0]/\bB<=cD/\j<5) (λkey=>?ze) ?y7
 case ze=>
  refine q3 ?_ ?_ ?_
  ·
   refine eu ?_;refine bu (λV=>Ext wr V/\ao V wr.heap.size 5 #[.int .u8 bv]) ⟨(Mg.alloc _).drew,Mh⟩ (λr1 hV=>?_);have k:=ah (U.1.cT hV.1 λ_ _ h=>h) (U.2.trans (hV.1.mono λ_ h=>h.elim));have gy:wr.heap.size<=wr.heap.size:=U.2.size;have L:=ae hV.2;clear hV;obtain⟨e0,a6,aQ⟩:=L.two;refine cx (v:=?_) rfl (by rfl) (λV hV=>?_) ?_;rotate_left
   .have b4:=fD V (wr.heap.size) bv ((hV.cell aQ ad).trans (e0 0))
    (go_simp<;>with_reducible rfl)
   try simp only[PU]
   clear e0 a6 aQ;refine tf ?_;refine a5 ?_ ?_
   ·
    refine aD rfl (λK hK=>?_) rfl;go_simp;refine(aY _ (S.heap.size+1) A n c l 5 (k.1.cT (M:=λ_=>False) Mg (λ_ _ h=>h)) ad ad).mono ?_;rintro e gR ⟨b8,rfl,br,O,h,he⟩;obtain⟨j,rfl⟩:=LH br;have bi:j<5:=ad;have ai:Fr (λb=>b=S.heap.size+1) r1 gR:=he.fr;have ay:=ah h (k.2.trans ai);have bS:=ae (L.on ai ad);refine dP hK (he.fr) ?_;clear hK K;clear h he ai br O
    iterate 2 refine tf ?_
    refine aq ?_;refine eu ?_;refine bu (λV=>Ext gR V/\ao V gR.heap.size 128 #[.string ⟨#[]⟩,.int .i64 0]) ⟨Mg.alloc _,Mh⟩ (λeV hV=>?_);have aH:=ah (ay.1.cT hV.1 λ_ _ h=>h) (ay.2.trans (hV.1.mono λ_ h=>h.elim));have gS:wr.heap.size<=gR.heap.size:=ay.2.size;have b1:=ae hV.2;have fc:=ae (bS.aj hV.1);clear hV;have ag:=And.intro aH.1 (And.intro aH.2 (And.intro b1.o (And.intro (show bB<=gR.heap.size by omega) bi)));revert ag;generalize wr.heap.size=a2;generalize gR.heap.size=cD;intro ag;exact key a2 cD j _ ag
   ·
    refine eu ?_;refine bu (λV=>Ext r1 V/\ao V r1.heap.size 128 #[.string ⟨#[]⟩,.int .i64 0]) ⟨Mg.alloc _,Mh⟩ (λgZ hV=>?_);have aR:=ah (k.1.cT hV.1 λ_ _ h=>h) (k.2.trans (hV.1.mono λ_ h=>h.elim));have gT:wr.heap.size<=r1.heap.size:=k.2.size;have b7:=ae hV.2;have bT:=ae (L.aj hV.1);clear hV;refine aq ?_;refine aD rfl (λK hK=>?_) rfl;go_simp;refine(aY _ (S.heap.size+1) A n c l 5 (aR.1.cT (M:=λ_=>False) Mg (λ_ _ h=>h)) ad ad).mono ?_;rintro e g0 ⟨b8,rfl,br,O,h,he⟩;obtain⟨j,rfl⟩:=LH br;have bi:j<5:=ad;have ai:Fr (λb=>b=S.heap.size+1) gZ g0:=he.fr;have aS:=ah h (aR.2.trans ai);have fn:=ae (bT.on ai ad);have ca:=ae (b7.on ai ad);refine dP hK (he.fr) ?_;clear hK K;clear h he ai br O
    iterate 2 refine tf ?_
    have ag:=And.intro aS.1 (And.intro aS.2 (And.intro ca.o (And.intro (show bB<=r1.heap.size by omega) bi)));revert ag;generalize wr.heap.size=a2;generalize r1.heap.size=cD;intro ag;exact key a2 cD j _ ag
  ·
   refine aD rfl (λK hK=>?_) rfl;go_simp;refine(aY _ (S.heap.size+1) A n c l 5 (U.1.cT (M:=λ_=>False) (Mg.drew) (λ_ _ h=>h)) ad ad).mono ?_;rintro e f0 ⟨b8,rfl,br,O,h,he⟩;obtain⟨j,rfl⟩:=LH br;have bi:j<5:=ad;have ai:Fr (λb=>b=S.heap.size+1) wr f0:=Fr.aF he.fr;have g:=ah h (U.2.trans ai);refine dP hK (he.fr) ?_;clear hK K;clear h he ai br O;refine tf ?_;refine a5 ?_ ?_
   ·
    refine eu ?_;refine bu (λV=>Ext f0 V/\ao V f0.heap.size 5 #[.int .u8 bv]) ⟨Mg.alloc _,Mh⟩ (λbM hV=>?_);have az:=ah (g.1.cT hV.1 λ_ _ h=>h) (g.2.trans (hV.1.mono λ_ h=>h.elim));have g1:wr.heap.size<=f0.heap.size:=g.2.size;have aG:=ae hV.2;clear hV;obtain⟨e0,a6,aQ⟩:=aG.two;refine cx (v:=?_) rfl (by rfl) (λV hV=>?_) ?_;rotate_left
    .have b4:=fD V (f0.heap.size) bv ((hV.cell aQ ad).trans (e0 0))
     (go_simp<;>with_reducible rfl)
    try simp only[PU]
    clear e0 a6 aQ
    iterate 2 refine tf ?_
    refine aq ?_;refine eu ?_;refine bu (λV=>Ext bM V/\ao V bM.heap.size 128 #[.string ⟨#[]⟩,.int .i64 0]) ⟨Mg.alloc _,Mh⟩ (λg9 hV=>?_);have a1:=ah (az.1.cT hV.1 λ_ _ h=>h) (az.2.trans (hV.1.mono λ_ h=>h.elim));have g3:wr.heap.size<=bM.heap.size:=az.2.size;have ci:=ae hV.2;have gn:=ae (aG.aj hV.1);clear hV;have ag:=And.intro a1.1 (And.intro a1.2 (And.intro ci.o (And.intro (show bB<=bM.heap.size by omega) bi)));revert ag;generalize f0.heap.size=a2;generalize bM.heap.size=cD;intro ag;exact key a2 cD j _ ag
   ·
    refine eu ?_;refine bu (λV=>Ext f0 V/\ao V f0.heap.size 128 #[.string ⟨#[]⟩,.int .i64 0]) ⟨Mg.alloc _,Mh⟩ (λbP hV=>?_);have aA:=ah (g.1.cT hV.1 λ_ _ h=>h) (g.2.trans (hV.1.mono λ_ h=>h.elim));have g4:wr.heap.size<=f0.heap.size:=g.2.size;have cq:=ae hV.2;clear hV;refine aq ?_;refine eu ?_;refine bu (λV=>Ext bP V/\ao V bP.heap.size 5 #[.int .u8 bv]) ⟨Mg.alloc _,Mh⟩ (λg6 hV=>?_);have ac:=ah (aA.1.cT hV.1 λ_ _ h=>h) (aA.2.trans (hV.1.mono λ_ h=>h.elim));have cX:wr.heap.size<=bP.heap.size:=aA.2.size;have a9:=ae hV.2;have bp:=ae (cq.aj hV.1);clear hV;obtain⟨e0,a6,aQ⟩:=a9.two;refine cx (v:=?_) rfl (by rfl) (λV hV=>?_) ?_;rotate_left
    .have b4:=fD V (bP.heap.size) bv ((hV.cell aQ ad).trans (e0 0))
     (go_simp<;>with_reducible rfl)
    try simp only[PU]
    clear e0 a6 aQ
    iterate 2 refine tf ?_
    have ag:=And.intro ac.1 (And.intro ac.2 (And.intro bp.o (And.intro (show bB<=f0.heap.size by omega) bi)));revert ag;generalize bP.heap.size=a2;generalize f0.heap.size=cD;intro ag;exact key a2 cD j _ ag
  ·
   refine eu ?_;refine bu (λV=>Ext wr V/\ao V wr.heap.size 128 #[.string ⟨#[]⟩,.int .i64 0]) ⟨(Mg.alloc _).drew,Mh⟩ (λE hV=>?_);have d:=ah (U.1.cT hV.1 λ_ _ h=>h) (U.2.trans (hV.1.mono λ_ h=>h.elim));have c0:wr.heap.size<=wr.heap.size:=U.2.size;have aC:=ae hV.2;clear hV;refine a5 ?_ ?_
   ·
    refine eu ?_;refine bu (λV=>Ext E V/\ao V E.heap.size 5 #[.int .u8 bv]) ⟨Mg.alloc _,Mh⟩ (λeK hV=>?_);have an:=ah (d.1.cT hV.1 λ_ _ h=>h) (d.2.trans (hV.1.mono λ_ h=>h.elim));have dd:wr.heap.size<=E.heap.size:=d.2.size;have X:=ae hV.2;have bt:=ae (aC.aj hV.1);clear hV;obtain⟨e0,a6,aQ⟩:=X.two;refine cx (v:=?_) rfl (by rfl) (λV hV=>?_) ?_;rotate_left
    .have b4:=fD V (E.heap.size) bv ((hV.cell aQ ad).trans (e0 0))
     (go_simp<;>with_reducible rfl)
    try simp only[PU]
    clear e0 a6 aQ;refine tf ?_;refine aq ?_;refine aD rfl (λK hK=>?_) rfl;go_simp;refine(aY _ (S.heap.size+1) A n c l 5 (an.1.cT (M:=λ_=>False) Mg (λ_ _ h=>h)) ad ad).mono ?_;rintro e eM ⟨b8,rfl,br,O,h,he⟩;obtain⟨j,rfl⟩:=LH br;have bi:j<5:=ad;have ai:Fr (λb=>b=S.heap.size+1) eK eM:=he.fr;have au:=ah h (an.2.trans ai);have cC:=ae (X.on ai ad);have bA:=ae (bt.on ai ad);refine dP hK (he.fr) ?_;clear hK K;clear h he ai br O
    iterate 2 refine tf ?_
    have ag:=And.intro au.1 (And.intro au.2 (And.intro bA.o (And.intro (show bB<=wr.heap.size by omega) bi)));revert ag;generalize E.heap.size=a2;exact xS
   ·
    refine aD rfl (λK hK=>?_) rfl;go_simp;refine(aY _ (S.heap.size+1) A n c l 5 (d.1.cT (M:=λ_=>False) Mg (λ_ _ h=>h)) ad ad).mono ?_;rintro e F ⟨b8,rfl,br,O,h,he⟩;obtain⟨j,rfl⟩:=LH br;have bi:j<5:=ad;have ai:Fr (λb=>b=S.heap.size+1) E F:=he.fr;have y:=ah h (d.2.trans ai);have bE:=ae (aC.on ai ad);refine dP hK (he.fr) ?_;clear hK K;clear h he ai br O;refine tf ?_;refine aq ?_;refine eu ?_;refine bu (λV=>Ext F V/\ao V F.heap.size 5 #[.int .u8 bv]) ⟨Mg.alloc _,Mh⟩ (λg7 hV=>?_);have ax:=ah (y.1.cT hV.1 λ_ _ h=>h) (y.2.trans (hV.1.mono λ_ h=>h.elim));have dL:wr.heap.size<=F.heap.size:=y.2.size;have bc:=ae hV.2;have bH:=ae (bE.aj hV.1);clear hV;obtain⟨e0,a6,aQ⟩:=bc.two;refine cx (v:=?_) rfl (by rfl) (λV hV=>?_) ?_;rotate_left
    .have b4:=fD V (F.heap.size) bv ((hV.cell aQ ad).trans (e0 0))
     (go_simp<;>with_reducible rfl)
    try simp only[PU]
    clear e0 a6 aQ
    iterate 2 refine tf ?_
    have ag:=And.intro ax.1 (And.intro ax.2 (And.intro bH.o (And.intro (show bB<=wr.heap.size by omega) bi)));revert ag;generalize F.heap.size=a2;exact xS
 case y7=>
  exact B1
 ):p:=h
end Dk
open Dk in
theorem Kf(S:World)(gV:Value)(s:∀K,(∀a ab,Code.wp prog (nU 19) (bodyPost prog Tryz.f56 (kq S)) a ab->K a ab)->Fx S gV (bodyPost prog Tryz.f56 (kq S)) K)
  (K:Act->World->Prop) (hK:∀a ab,Code.wp prog (nU 13) (bodyPost prog Tryz.f56 (kq S)) a ab->K a ab):Fw S gV (bodyPost prog Tryz.f56 (kq S)) K:=by
 unfold Fw;intro A n c l ar MA mn mc M hs ht gO gU o u8 gQ eX gw gx cc bW bw u16 cM gz eY eZ e3 e4 e5 e6 e7 e8 e9 fa fb fd fe u32 ff fi fj fl fo fp fq fr fs ft fu fv fw fx fy fz fA fB fC fE fF fG fH fI fJ fK fL fM fN fP fQ u64 fR fS fT fU fV fW fX fY fZ f3 f4 f5 f6 f7 f8 f9 ga gb gd ge gf gg gh gi gj gk gl gm go gp gq gs gt gu gv H I am aJ aK aL aO aZ a8 bb bd bf bo bs bz bC bK bZ b2 b6 b9 cd cg ch cl cm cn co cA cB cE cF cG cH cK cL cP cQ cR cS cT cU cV cW cY cZ c4 c5 c6 c7 c8 c9 da db dc de df dg dh di dj dk dl dm dn dp dq dr ds dt du dv dw dy dz dA dB dC dD dE dF dG dH dI dJ dK dM dN dO dR dS dV dW dX dY dZ d0 d1 d2 d3 d4 d5 d6 d7 d8 d9 ea eb ec ed ee eg eh ei ej ek el em en eo ep eq er es et ev ew ex ey ez eA eB eC eD eE eF eG eH eI eJ eL eN eO eP eQ eR eS eT eU bj gA gB gC gD gE gF gG gH gI gJ gK gL gM gN w dQ be;have bg:=ae (be.Kf dQ);have gW:=ae s;obtain⟨u,g8⟩:∃u,u=w.heap.size:=⟨_,rfl⟩
 rw[<-g8] at bg;clear be s g8;conv=>arg 2;whnf
 conv at hK=>enter [a,w,1,2];whnf
 obtain⟨a0,ak,af⟩:=bg.blk.two;go_wp2_with(fail);refine(aY w (S.heap.size+1) A n c l 3 bg.src ad ad).mono ?_;rintro e aP ⟨cv,rfl,bm,bX,h,he⟩;obtain⟨N,rfl⟩:=LH bm;have hg:N<3:=ad;have gY:=ae (bg.next h he.fr);clear h he a0 ak af bg bm bX;go_wp2_with(fail);go_loopw [7,8] (λbI cw wr=>∃(i:Nat) (GA:Mk) (gc:Nat) (G:List (ByteArray×Int)) (av:Mk) (a7:Nat),cw=.int .i64 i/\bI=.slice av i a7/\i<=N/\xD S u wr A n c l ar MA mn mc M GA i gc G av a7) (λ_ cw _=>N - (intOf cw).toNat)
 case atStart=>exact⟨0,none,0,[],none,0,rfl,rfl,ad,gY.o⟩
 case round=>
  obtain⟨i,GA,gc,G,av,a7,rfl,rfl,al,be⟩:=hrel;clear gY;have cj:=ae be;obtain⟨a0,ak,af⟩:=be.blk.two;have cu:G.length=i:=by have:=be.rows.one.len;simpa using this
  have hD:=be.hD;clear be;by_cases ap:i<N
  .have aU:(i:Int)<(N:Int):=ad;have cf:i<=1:=ad;have cy:¬S.heap.size+1+1=S.heap.size+1:=ad;have b0:S.heap.size+1+1<wr.heap.size:=cj.blk.lt;go_upto_region 17 with(fail);exact AD
  .have aU:¬(i:Int)<(N:Int):=ad;go_upto_region 19 with(fail);have c3:=gW.o _ (by assumption);unfold Fx at c3;exact c3 u A n c l ar MA mn mc M GA i gc G av a7 wr cj.o
end Go.Proofs.YtflecliffjbleaaGreat

/- Part 37 of the proof. No condition of its own. -/
import Derived.Test.YtpkfopfkdgkfkaaGreatQ36
namespace Go.Proofs.YtpkfopfkdgkfkaaGreat
open Go.RowKit Go.Proofs.Tryz
set_option maxRecDepth 1000000
set_option maxHeartbeats 25600000
set_option linter.unusedVariables false
variable{p:Prop}
namespace Dt
theorem dC(h:p:=by
 generalize cb:World.setCell _ _ _=bU;have f:=bk.1.add aW.1 aW.2 ad (na.snoc bk.1.ok aQ (re:=true) (sz:=0) ad ad (by intro _;rfl));rw[cb] at f;have bE:=ae f;clear cb f a0 ai af;go_wp2_with(fail);go_roundw
 case rel=>exact⟨i+1,j,cj,M++[⟨iK i,true,0⟩],by go_num,ad,bE.o⟩
 case measure=>exact aH
 ):p:=h
end Dt
open Dt in
theorem Ld(A:Mt)(n c:Nat)(l:List Int)(w:World)(h:cw (EF cO) 1 w w.heap.size A n l)(hc:n<=c)
  (z:∀K,(∀a ab,Code.wp prog (nH 13) (bodyPost prog Tryz.f11 (kp w)) a ab->K a ab)->FU w (.slice A n c) (bodyPost prog Tryz.f11 (kp w)) K) :
  Calls prog 11 #[.slice A n c] w (kp w):=by
 obtain⟨H,g0⟩:=aJ h z;clear h z;go_enter func11,ntmps11;go_upto_region 1 with(fail);generalize ba:World.alloc _ _=W;have aw:=aU ba;have cv:=aI ba;have cN:W=w.heap.size+1:=by rw[<-ba];simp
 have y:=H.cZ (Fr.ext aw) aw.size;have ah:=az aw cv y;clear ba aw cv y;go_wp2_with(fail);refine(Eg 400 A n c l W ad ah.2.2 hc).mono ?_;rintro e aS ⟨⟨I,a6,aE,rfl,cu,aP,ao⟩,rfl⟩;have b6:=ae ao;clear ao;go_upto_region 2 with(fail);generalize hX:World.alloc _ _=X;have bu:=h9 hX;have q:au X (w.heap.size+1) 83 #[.slice I a6 aE,(0:Int)]:=hX▸(au.gX _ _ _ cN.symm).alloc _;have s:au X (w.heap.size+1+1) 85 #[.pointer (some ⟨w.heap.size+1,0,none⟩),(),(),(),(24:Int),false]:=hX▸au.gX _ _ _ (by simp[cN]);have aA:cr X (w.heap.size+1) I a6 aE aP:=⟨q.lt,by rw[q.cell];rfl,⟨0,ad,by rw[q.cell];rfl⟩,q.frozen 1,(by have:=b6.o;rw[cN] at this;exact this.eB (bu.below ad λ_ _ h=>h)),ad⟩
 have H1:=bF aA s (ah.2.1.aj bu) (ah.1.trans bu);clear hX bu q s aA ah b6;obtain⟨a0,ai,af⟩:=H1.2.1.two;go_wp2_with(fail);refine(a1 X (w.heap.size+1) I a6 aE aP 3 H1.1 ad ad).mono ?_;rintro e aT ⟨cx,rfl,aO,b0,h,he⟩;have bc:=bF h (H1.2.1.on he.fr ad) (H1.2.2.1.on he.fr ad) (Fr.low (M:=λb=>b=w.heap.size+1) ((H1.2.2.2.mono λ_ h=>h.elim).trans he.fr) λk aj=>ad);clear h he aO b0 a0 ai af H1;obtain⟨a0,ai,af⟩:=bc.2.1.two;go_upto_region 3 with(fail);generalize (cx == 1)=ar;generalize hX:World.setCell _ _ _=b5;have J:=cp hX;have s:au b5 (w.heap.size+1+1) 85 #[.pointer (some ⟨w.heap.size+1,0,none⟩),(),(),(),(24:Int),ar]:=hX▸bc.2.1.aN 5 _;have bQ:=bF (bc.1.cT J λb O h=>ad) s (bc.2.2.1.on J ad) (Fr.low (M:=λb=>b=w.heap.size+1+1) ((bc.2.2.2.mono λ_ h=>h.elim).trans J) λk aj=>ad);clear hX J s bc a0 ai af;obtain⟨a0,ai,af⟩:=bQ.2.1.two;go_wp2_with(fail);refine(a1 b5 (w.heap.size+1) I a6 aE aP 4 bQ.1 ad ad).mono ?_;rintro e cS ⟨bY,rfl,aO,b0,h,he⟩;obtain⟨x,rfl⟩:=LP aO;have E:x<4:=ad;have P:=bF h (bQ.2.1.on he.fr ad) (bQ.2.2.1.on he.fr ad) (Fr.low (M:=λb=>b=w.heap.size+1) ((bQ.2.2.2.mono λ_ h=>h.elim).trans he.fr) λk aj=>ad);clear h he aO b0 a0 ai af bQ;go_wp2_with(fail);go_loopw [4] (λcA wr=>∃(i:Nat) (MA:Mt) (mc:Nat) (M:List bM),cA=.int .i64 i/\i<=1+x/\oM w wr I a6 aE aP ar MA i mc M) (λcA _=>1+x - (intOf cA).toNat)
 case atStart=>exact⟨0,none,0,[],rfl,ad,⟨P.1,P.2.1,P.2.2.1,Gr.nil _ _ _ _ _,ad,(λi m h=>by cases h),P.2.2.2⟩⟩
 case round=>
  obtain⟨i,MA,mc,M,rfl,aX,bg⟩:=hrel;clear P;have ct:=ae bg;obtain⟨a0,ai,af⟩:=bg.blk.two;have aQ:M.length=i:=by have:=bg.ms.len;simpa using this
  have cl:=bg.blk.lt;clear bg;by_cases an:i<1+x
  .have gA:(i:Int)<1+(x:Int):=ad;have e1:i<=3:=ad;have a8:=λ(W:World) (v:Int)=>k2 W v;go_upto_region 7 with(fail);clear a8;generalize hX:World.alloc _ _=hf;have bP:=h9 hX;have hd:au hf (wr.heap.size+1) 89 #[.string (iK i),false,(0:Int)]:=by
    rw[<-hX,<-EW (by omega:i<4)];exact au.gX _ _ _ (by simp)
   have dB:=ag (ct.aj bP) hd;have bm:(Value.slice MA i mc).ownBlock≠some (wr.heap.size+1):=λO=>by have:=(ct.ms.lt O).2;omega
   have aD:=ae bm;clear hX bP hd a0 ai af bm;obtain⟨a0,ai,af⟩:=dB.1.blk.two;go_wp2_with(fail);refine(a1 hf (w.heap.size+1) I a6 aE aP 5 dB.1.src ad ad).mono ?_;rintro e Y ⟨cf,rfl,u,bb,h,he⟩;have bC:=ag (dB.1.next h he.fr) (dB.2.on he.fr ad);have cd:wr+1<Y.heap.size:=bC.2.lt;clear h he a0 ai af;by_cases ac:cf=1
   .have q1:(cf == 1)=true:=by simpa using ac
    clear ac u bb;obtain⟨d0,aK,aM⟩:=bC.2.two;go_upto_region 12 with(fail);generalize hX:World.setCell _ _ _=dD;have J:=cp hX;have hM:au dD (wr.heap.size+1) 89 #[.string (iK i),true,(0:Int)]:=hX▸bC.2.aN 1 _;have r:=ag (bC.1.fresh ad aD.o J) hM;clear hX J hM d0 aK aM bC;obtain⟨a0,ai,af⟩:=r.1.blk.two;obtain⟨d0,aK,aM⟩:=r.2.two;have F:=r.2.lt;refine eJ (λ_=>False) [(0,3),(1,3),(2,3),(3,3),(4,3),(5,0),(6,0),(7,1),(8,2),(9,3),(10,3),(11,3),(12,2)] ?_
    iterate 5 refine pf ?_
    iterate 2 refine ph ?_
    refine rb ?_;generalize cG:World.drew (World.alloc _ _)=Z;have a9:=gQ cG;have bs:=kE cG;have bh:=r.1.aj a9;have bk:=ag bh bs;have a4:=a9.size;clear cG a9 bs bh a0 ai af d0 aK aM;refine ax rfl (λK hK=>?_);rw[if_pos (by rfl)];refine fo lX (.tmp 73) (.tmp 75) (by rfl) bk.1.ms bk.2 (ft.2 rfl:(eK ⟨iK i,true,0⟩).rep Z _ _) (by rfl) (by rfl) (by rfl) ad ad ad ?_;intro j cj gT bl a7 co b1;have bn:∀b,(Value.slice MA i mc).ownBlock=some b->w.heap.size+1+1+1<=b:=λb O=>(bk.1.ms.lt O).1;have a5:=bk.1.blk.on a7 (λO=>by have:=bn _ O;omega);have aW:=ag bl a7;clear bl a7 co b1 bn;obtain⟨a0,ai,af⟩:=a5.two;clear a5;refine dX hK ?_;clear hK K
    iterate 3 refine pf ?_
    exact eS
   by_cases ap:cf=2
   .have q1:(cf == 1)=false:=by simpa using ac
    have cJ:(cf == 2)=true:=by simpa using ap
    clear ac ap u bb;obtain⟨a0,ai,af⟩:=bC.1.blk.two;go_wp2_with(fail);refine(a1 Y (w.heap.size+1) I a6 aE aP 3 bC.1.src ad ad).mono ?_;rintro e hj ⟨cR,rfl,G,dU,h,he⟩;have aa:=ag (bC.1.next h he.fr) (bC.2.on he.fr ad);clear h he a0 ai af bC;obtain⟨d0,aK,aM⟩:=aa.2.two;go_upto_region 12 with(fail);generalize hX:World.setCell _ _ _=dD;have J:=cp hX;have hM:au dD (wr.heap.size+1) 89 #[.string (iK i),false,.int .i64 (1+cR)]:=hX▸aa.2.aN 2 _;have r:=ag (aa.1.fresh ad aD.o J) hM;clear hX J hM d0 aK aM aa;obtain⟨a0,ai,af⟩:=r.1.blk.two;obtain⟨d0,aK,aM⟩:=r.2.two;have F:=r.2.lt;refine eJ (λ_=>False) [(0,3),(1,3),(2,3),(3,3),(4,3),(5,0),(6,0),(7,1),(8,2),(9,3),(10,3),(11,3),(12,2)] ?_
    iterate 5 refine pf ?_
    iterate 2 refine ph ?_
    refine rb ?_;generalize cG:World.drew (World.alloc _ _)=Z;have a9:=gQ cG;have bs:=kE cG;have bh:=r.1.aj a9;have bk:=ag bh bs;have a4:=a9.size;clear cG a9 bs bh a0 ai af d0 aK aM;refine ax rfl (λK hK=>?_);rw[if_pos (by rfl)];refine fo lX (.tmp 73) (.tmp 75) (by rfl) bk.1.ms bk.2 (ft.2 rfl:(eK ⟨iK i,false,(1+cR)⟩).rep Z _ _) (by rfl) (by rfl) (by rfl) ad ad ad ?_;intro j cj gT bl a7 co b1;have bn:∀b,(Value.slice MA i mc).ownBlock=some b->w.heap.size+1+1+1<=b:=λb O=>(bk.1.ms.lt O).1;have a5:=bk.1.blk.on a7 (λO=>by have:=bn _ O;omega);have aW:=ag bl a7;clear bl a7 co b1 bn;obtain⟨a0,ai,af⟩:=a5.two;clear a5;refine dX hK ?_;clear hK K
    iterate 3 refine pf ?_
    refine ax rfl (λK hK=>?_);go_simp;refine dX hK ?_;clear hK K;refine aF ?_;generalize cb:World.setCell _ _ _=bU;have f:=bk.1.add aW.1 aW.2 ad (na.snoc bk.1.ok aQ (re:=false) (sz:=(1+cR)) ad ad (by intro h;cases h));rw[cb] at f;have bE:=ae f;clear cb f a0 ai af;go_wp2_with(fail);go_roundw
    case rel=>exact⟨i+1,j,cj,M++[⟨iK i,false,(1+cR)⟩],by go_num,ad,bE.o⟩
    case measure=>exact aH
   .have q1:(cf == 1)=false:=by simpa using ac
    have cJ:(cf == 2)=false:=by simpa using ap
    clear ac ap u bb;go_upto_region 12 with(fail);obtain⟨a0,ai,af⟩:=bC.1.blk.two;obtain⟨d0,aK,aM⟩:=bC.2.two;refine eJ (λ_=>False) [(0,3),(1,3),(2,3),(3,3),(4,3),(5,0),(6,0),(7,1),(8,2),(9,3),(10,3),(11,3),(12,2)] ?_
    iterate 5 refine pf ?_
    iterate 2 refine ph ?_
    refine rb ?_;generalize cG:World.drew (World.alloc _ _)=Z;have a9:=gQ cG;have bs:=kE cG;have bh:=bC.1.aj a9;have bk:=ag bh bs;have a4:=a9.size;clear cG a9 bs bh a0 ai af d0 aK aM;refine ax rfl (λK hK=>?_);rw[if_pos (by rfl)];refine fo lX (.tmp 73) (.tmp 75) (by rfl) bk.1.ms bk.2 (ft.2 rfl:(eK ⟨iK i,false,0⟩).rep Z _ _) (by rfl) (by rfl) (by rfl) ad ad ad ?_;intro j cj gT bl a7 co b1;have bn:∀b,(Value.slice MA i mc).ownBlock=some b->w.heap.size+1+1+1<=b:=λb O=>(bk.1.ms.lt O).1;have a5:=bk.1.blk.on a7 (λO=>by have:=bn _ O;omega);have aW:=ag bl a7;clear bl a7 co b1 bn;obtain⟨a0,ai,af⟩:=a5.two;clear a5;refine dX hK ?_;clear hK K
    iterate 3 refine pf ?_
    refine ax rfl (λK hK=>?_);go_simp;refine dX hK ?_;clear hK K;refine aF ?_;generalize cb:World.setCell _ _ _=bU;have f:=bk.1.add aW.1 aW.2 ad (na.snoc bk.1.ok aQ (re:=false) (sz:=0) ad ad (by intro _;rfl));rw[cb] at f;have bE:=ae f;clear cb f a0 ai af;go_wp2_with(fail);go_roundw
    case rel=>exact⟨i+1,j,cj,M++[⟨iK i,false,0⟩],by go_num,ad,bE.o⟩
    case measure=>exact aH
  .have gA:¬(i:Int)<1+(x:Int):=ad;go_upto_region 13 with(fail);have c3:=g0.o _ (by assumption);unfold FU at c3;exact c3 I a6 aE aP ar MA i mc M wr ad ct.o
namespace Dv
theorem fy(h:p:=by
 refine ch ?_;generalize cG:World.setCell _ _ _=hR;have hi:wr<=aC:=ad;obtain⟨bH,bG,bx⟩:=ei (M:=λb=>b=S.heap.size+1) [.string ((⟨#[112]⟩:ByteArray)++strOf [byteOf bv]),.bool _] (by rfl) ao ak hi cG;obtain⟨hv,bH⟩:∃hv,au hR aC 98 #[.string ((⟨#[112]⟩:ByteArray)++strOf [byteOf bv]),.bool hv]:=⟨_,bH⟩
 rw[E8 ad aB.o] at bH;have iz:=ct.blk.lt;have iu:=b3.2.2.1.lt;have aI:=cL (aA.cT bx λb O h=>ad) (b3.2.1.trans bG) (b3.2.2.1.on bG ad) (b3.2.2.2.cZ bG (λb O _=>⟨λh=>h,ad⟩)) bH;have cv:T+1+1<=hR.heap.size:=by have:=bG.size;omega
 clear cG bH bG bx aA ak ao ci bO b5;obtain⟨f0,dN,dQ⟩:=aI.2.2.1.two;obtain⟨ci,bO,b5⟩:=aI.2.2.2.2.two;go_wp2_with(at_builtin;refine bL D3 rfl (.tmp 167) (.tmp 169) rfl aI.2.2.2.1 (tm.2 rfl:(cD (uz m,hv)).rep hR _ _) rfl rfl rfl ad ad cv ?_;intro ir hZ gW hU bS h7 h6;have f2:=aI.2.2.1.on bS (λO=>by have:=(aI.2.2.2.1.lt O).1;omega);have gZ:=ag hU bS;clear f0 dN dQ hU bS h7 h6 ci bO b5;obtain⟨f0,dN,dQ⟩:=f2.two;clear f2);generalize hX:World.setCell _ _ _=cl;have bi:∀b,(Value.slice PA pn pc).ownBlock=some b->T.heap.size+1+1<=b:=λb O=>(aI.2.2.2.1.lt O).1;have cn:=cp hX;have br:au cl (T.heap.size+1) 96 #[.string (jF i),.slice ir (pn+1) hZ,()]:=hX▸(aI.2.2.1.on gZ.2 (λO=>by have:=bi _ O;omega)).aN 1 _;have f1:=(aI.1.cT gZ.2 λb O h=>by have:=bi b h;omega).cT cn λb O h=>ad;have s:Fr (λb=>b=S.heap.size+1) T cl:=(aI.2.1.eZ (gZ.2.below aI.2.1.size λk aj h=>by have:=bi k h;omega)).eZ (cn.below (lV aI.2.1.size gZ.2.size) λk aj h=>ad);have hn:=gZ.1.cZ cn λb O _=>⟨λh=>h,ad⟩
 have aY:=bF f1 s br hn;clear hX cn br f1 s hn f0 dN dQ bi;obtain⟨b4,aN⟩:∃b4,m=b4+1:=⟨m - 1,ad⟩
 have cz:(m:Int) - 1=((b4:Nat):Int):=ad;go_roundw
 case rel=>
  refine⟨b4,ir,pn+1,hZ,ps++[(uz m,hv)],by first|(rw[cz])|(congr 1)|go_num,ad,ad,λh=>ad,λh=>?_,aY.1,aY.2.1,aY.2.2.1,by rw[LR];exact aY.2.2.2⟩;have ac:=b7.2 h;rw[aN] at ac;rw[aN,<-ac];simp[fh]
 case measure=>exact aH
 ):p:=h
theorem Av(h:p:=by
 generalize hg:IntKind.u8.wrap (IntKind.i64.wrap (48+(m:Int)))=bv;obtain⟨bJ,hS⟩:∃bJ,bJ=wr.heap.size:=⟨_,rfl⟩
 have aB:=ae hg;clear hg;have ht:(strOf [byteOf bv]).size=1:=aP _;have U:=ag b3.1 (Fr.refl (λb=>b=S.heap.size+1) wr);refine g9 (P:=?_) (ops:=?_) (Q:=?_) (R:=?_) (tails:=?_) (rest:=.pick [14] (λ_=>.stop)) (aa:=?_)
  (C:=λ(a3 aC j:Nat) cP=>cr cP (S.heap.size+1) A n c l/\Fr (λb=>b=S.heap.size+1) wr cP/\au cP aC 98 #[Mq,false]/\bJ<=aC/\j<3) (λkey=>?_) ?_
 rotate_left 6
 ·
  refine qN ?_ ?_ ?_
  ·
   refine eu ?_;refine bw (λV=>Ext wr V/\au V wr 5 #[.int .u8 bv]) ⟨(Mo.alloc _).drew,Mp⟩ (λcI hV=>?_);have aw:=ag (U.1.cT hV.1 λ_ _ h=>h) (U.2.trans (hV.1.mono λ_ h=>h.elim));have h8:wr<=wr.heap.size:=U.2.size;have aT:=ae hV.2;clear hV;obtain⟨e0,be,a6⟩:=aT.two;refine cC (v:=?_) rfl (by rfl) (λV hV=>?_) ?_;rotate_left
   .have a8:=fH V (wr.heap.size) bv ((hV.cell a6 ad).trans (e0 0))
    (go_simp<;>with_reducible rfl)
   try simp only[PU]
   clear e0 be a6;refine tf ?_;refine a2 ?_ ?_
   ·
    refine aE rfl (λK hK=>?_) rfl;go_simp;refine(a1 _ (S.heap.size+1) A n c l 3 (aw.1.cT (M:=λ_=>False) Mo (λ_ _ h=>h)) ad ad).mono ?_;rintro e cZ ⟨gX,rfl,aZ,O,h,he⟩;obtain⟨j,rfl⟩:=LP aZ;have bd:j<3:=ad;have ak:Fr (λb=>b=S.heap.size+1) cI cZ:=he.fr;have bN:=ag h (aw.2.trans ak);have hy:=ae (aT.on ak ad);refine dq hK (he.fr) ?_;clear hK K;clear h he ak aZ O
    iterate 2 refine tf ?_
    refine av ?_;refine eu ?_;refine bw (λV=>Ext cZ V/\au V cZ 98 #[Mq,false]) ⟨Mo.alloc _,Mp⟩ (λiA hV=>?_);have g2:=ag (bN.1.cT hV.1 λ_ _ h=>h) (bN.2.trans (hV.1.mono λ_ h=>h.elim));have ia:wr<=cZ.heap.size:=bN.2.size;have hE:=ae hV.2;have h0:=ae (hy.aj hV.1);clear hV;have ah:=And.intro g2.1 (And.intro g2.2 (And.intro hE.o (And.intro (show bJ<=cZ.heap.size by omega) bd)));revert ah;generalize wr.heap.size=a3;generalize cZ.heap.size=aC;intro ah;exact key a3 aC j _ ah
   ·
    refine eu ?_;refine bw (λV=>Ext cI V/\au V cI 98 #[Mq,false]) ⟨Mo.alloc _,Mp⟩ (λil hV=>?_);have g3:=ag (aw.1.cT hV.1 λ_ _ h=>h) (aw.2.trans (hV.1.mono λ_ h=>h.elim));have ib:wr<=cI.heap.size:=aw.2.size;have hG:=ae hV.2;have hz:=ae (aT.aj hV.1);clear hV;refine av ?_;refine aE rfl (λK hK=>?_) rfl;go_simp;refine(a1 _ (S.heap.size+1) A n c l 3 (g3.1.cT (M:=λ_=>False) Mo (λ_ _ h=>h)) ad ad).mono ?_;rintro e im ⟨gX,rfl,aZ,O,h,he⟩;obtain⟨j,rfl⟩:=LP aZ;have bd:j<3:=ad;have ak:Fr (λb=>b=S.heap.size+1) il im:=he.fr;have g4:=ag h (g3.2.trans ak);have h1:=ae (hz.on ak ad);have hH:=ae (hG.on ak ad);refine dq hK (he.fr) ?_;clear hK K;clear h he ak aZ O
    iterate 2 refine tf ?_
    have ah:=And.intro g4.1 (And.intro g4.2 (And.intro hH.o (And.intro (show bJ<=cI.heap.size by omega) bd)));revert ah;generalize wr.heap.size=a3;generalize cI.heap.size=aC;intro ah;exact key a3 aC j _ ah
  ·
   refine aE rfl (λK hK=>?_) rfl;go_simp;refine(a1 _ (S.heap.size+1) A n c l 3 (U.1.cT (M:=λ_=>False) (Mo.drew) (λ_ _ h=>h)) ad ad).mono ?_;rintro e al ⟨gX,rfl,aZ,O,h,he⟩;obtain⟨j,rfl⟩:=LP aZ;have bd:j<3:=ad;have ak:Fr (λb=>b=S.heap.size+1) wr al:=Fr.aG he.fr;have L:=ag h (U.2.trans ak);refine dq hK (he.fr) ?_;clear hK K;clear h he ak aZ O;refine tf ?_;refine a2 ?_ ?_
   ·
    refine eu ?_;refine bw (λV=>Ext al V/\au V al 5 #[.int .u8 bv]) ⟨Mo.alloc _,Mp⟩ (λdC hV=>?_);have bT:=ag (L.1.cT hV.1 λ_ _ h=>h) (L.2.trans (hV.1.mono λ_ h=>h.elim));have ic:wr<=al.heap.size:=L.2.size;have e2:=ae hV.2;clear hV;obtain⟨e0,be,a6⟩:=e2.two;refine cC (v:=?_) rfl (by rfl) (λV hV=>?_) ?_;rotate_left
    .have a8:=fH V (al.heap.size) bv ((hV.cell a6 ad).trans (e0 0))
     (go_simp<;>with_reducible rfl)
    try simp only[PU]
    clear e0 be a6
    iterate 2 refine tf ?_
    refine av ?_;refine eu ?_;refine bw (λV=>Ext dC V/\au V dC 98 #[Mq,false]) ⟨Mo.alloc _,Mp⟩ (λiB hV=>?_);have g5:=ag (bT.1.cT hV.1 λ_ _ h=>h) (bT.2.trans (hV.1.mono λ_ h=>h.elim));have ie:wr<=dC.heap.size:=bT.2.size;have hJ:=ae hV.2;have h2:=ae (e2.aj hV.1);clear hV;have ah:=And.intro g5.1 (And.intro g5.2 (And.intro hJ.o (And.intro (show bJ<=dC.heap.size by omega) bd)));revert ah;generalize al.heap.size=a3;generalize dC.heap.size=aC;intro ah;exact key a3 aC j _ ah
   ·
    refine eu ?_;refine bw (λV=>Ext al V/\au V al 98 #[Mq,false]) ⟨Mo.alloc _,Mp⟩ (λeS hV=>?_);have bX:=ag (L.1.cT hV.1 λ_ _ h=>h) (L.2.trans (hV.1.mono λ_ h=>h.elim));have ig:wr<=al.heap.size:=L.2.size;have hL:=ae hV.2;clear hV;refine av ?_;refine eu ?_;refine bw (λV=>Ext eS V/\au V eS 5 #[.int .u8 bv]) ⟨Mo.alloc _,Mp⟩ (λiC hV=>?_);have g6:=ag (bX.1.cT hV.1 λ_ _ h=>h) (bX.2.trans (hV.1.mono λ_ h=>h.elim));have ih:wr<=eS.heap.size:=bX.2.size;have hA:=ae hV.2;have hM:=ae (hL.aj hV.1);clear hV;obtain⟨e0,be,a6⟩:=hA.two;refine cC (v:=?_) rfl (by rfl) (λV hV=>?_) ?_;rotate_left
    .have a8:=fH V (eS.heap.size) bv ((hV.cell a6 ad).trans (e0 0))
     (go_simp<;>with_reducible rfl)
    try simp only[PU]
    clear e0 be a6
    iterate 2 refine tf ?_
    have ah:=And.intro g6.1 (And.intro g6.2 (And.intro hM.o (And.intro (show bJ<=al.heap.size by omega) bd)));revert ah;generalize eS.heap.size=a3;generalize al.heap.size=aC;intro ah;exact key a3 aC j _ ah
  ·
   refine eu ?_;refine bw (λV=>Ext wr V/\au V wr 98 #[Mq,false]) ⟨(Mo.alloc _).drew,Mp⟩ (λc0 hV=>?_);have aD:=ag (U.1.cT hV.1 λ_ _ h=>h) (U.2.trans (hV.1.mono λ_ h=>h.elim));have ii:wr<=wr.heap.size:=U.2.size;have hb:=ae hV.2;clear hV;refine a2 ?_ ?_
   ·
    refine eu ?_;refine bw (λV=>Ext c0 V/\au V c0 5 #[.int .u8 bv]) ⟨Mo.alloc _,Mp⟩ (λio hV=>?_);have g7:=ag (aD.1.cT hV.1 λ_ _ h=>h) (aD.2.trans (hV.1.mono λ_ h=>h.elim));have ij:wr<=c0.heap.size:=aD.2.size;have fn:=ae hV.2;have hN:=ae (hb.aj hV.1);clear hV;obtain⟨e0,be,a6⟩:=fn.two;refine cC (v:=?_) rfl (by rfl) (λV hV=>?_) ?_;rotate_left
    .have a8:=fH V (c0.heap.size) bv ((hV.cell a6 ad).trans (e0 0))
     (go_simp<;>with_reducible rfl)
    try simp only[PU]
    clear e0 be a6;refine tf ?_;refine av ?_;refine aE rfl (λK hK=>?_) rfl;go_simp;refine(a1 _ (S.heap.size+1) A n c l 3 (g7.1.cT (M:=λ_=>False) Mo (λ_ _ h=>h)) ad ad).mono ?_;rintro e ip ⟨gX,rfl,aZ,O,h,he⟩;obtain⟨j,rfl⟩:=LP aZ;have bd:j<3:=ad;have ak:Fr (λb=>b=S.heap.size+1) io ip:=he.fr;have g8:=ag h (g7.2.trans ak);have h3:=ae (fn.on ak ad);have hO:=ae (hN.on ak ad);refine dq hK (he.fr) ?_;clear hK K;clear h he ak aZ O
    iterate 2 refine tf ?_
    have ah:=And.intro g8.1 (And.intro g8.2 (And.intro hO.o (And.intro (show bJ<=wr.heap.size by omega) bd)));revert ah;generalize c0.heap.size=a3;exact sq
   ·
    refine aE rfl (λK hK=>?_) rfl;go_simp;refine(a1 _ (S.heap.size+1) A n c l 3 (aD.1.cT (M:=λ_=>False) Mo (λ_ _ h=>h)) ad ad).mono ?_;rintro e c1 ⟨gX,rfl,aZ,O,h,he⟩;obtain⟨j,rfl⟩:=LP aZ;have bd:j<3:=ad;have ak:Fr (λb=>b=S.heap.size+1) c0 c1:=he.fr;have bZ:=ag h (aD.2.trans ak);have hP:=ae (hb.on ak ad);refine dq hK (he.fr) ?_;clear hK K;clear h he ak aZ O;refine tf ?_;refine av ?_;refine eu ?_;refine bw (λV=>Ext c1 V/\au V c1 5 #[.int .u8 bv]) ⟨Mo.alloc _,Mp⟩ (λiD hV=>?_);have ha:=ag (bZ.1.cT hV.1 λ_ _ h=>h) (bZ.2.trans (hV.1.mono λ_ h=>h.elim));have ik:wr<=c1.heap.size:=bZ.2.size;have hB:=ae hV.2;have hQ:=ae (hP.aj hV.1);clear hV;obtain⟨e0,be,a6⟩:=hB.two;refine cC (v:=?_) rfl (by rfl) (λV hV=>?_) ?_;rotate_left
    .have a8:=fH V (c1.heap.size) bv ((hV.cell a6 ad).trans (e0 0))
     (go_simp<;>with_reducible rfl)
    try simp only[PU]
    clear e0 be a6
    iterate 2 refine tf ?_
    have ah:=And.intro ha.1 (And.intro ha.2 (And.intro hQ.o (And.intro (show bJ<=wr.heap.size by omega) bd)));revert ah;generalize c1.heap.size=a3;exact sq
 ·
  exact B1
 ):p:=h
end Dv
open Dv in
theorem Ks(S:World)(gY:Value)(Q:Exit->Act->World->Prop)(hQ0:∀c a d v w,Q (.panic c) (a.put d v) w->Q (.panic c) a w)
  (z:∀b2 bV,(∀a ab,Code.wp prog (nH 32) (Exit.then bV Q) a ab->b2 a ab)->(∀a ab,Code.wp prog (HQ 42) Q a ab->bV a ab)->FW S gY (Exit.then bV Q) b2)
  (K:Act->World->Prop) (hK:∀a ab,Code.wp prog (nH 19) Q a ab->K a ab):FV S gY Q K:=by
 unfold FV;intro iq A n c l ar MA mn mc M GA gn gc G aq ba hu hw gR gV u8 gS eW bK gw gv cc bD u16 gx gy eX eY eZ e3 e4 e5 e6 e7 e8 e9 fa fb fd u32 fe ff fi fj fk fl fp fq fr fs ft fu fv fw fx fz fA fB fC fD fE fF fG fI fJ fK fL fM fN fO fP u64 fR fS fT fU fV fW fX fY fZ f3 f4 f5 f6 f7 f8 f9 ga gb gd ge gf gg gh gi gj gk gl gm go gp gq gr gs gt gu H I am aG aK aM aU a4 bb bf bm bo bp bq bu bz bB bI bW b6 b9 ca cd cj ck cm cq cu cw cy cB cE cF cH cK cM cN cO cQ cR cT cV cW cX cY c4 c5 c6 c7 c8 c9 da db dc dd de df dg dh di dj dk dl dm dn dp dr ds dt du dv dw dx dy dz dA dD dE dF dG dH dI dJ dK dL dM dO dP dR dS dT dU dV dY dZ d0 d1 d2 d3 d4 d5 d6 d7 d8 d9 ea eb ec ed ee ef eg eh ej ek el em en eo ep eq er es et ev ew ex ey ez eA eB eC eD eE eF eG eH eI eK eL eM eN eO eP eQ eR eT eU eV gB gC gD gE gF gG gH gI gJ gK gL gM gN gO gP w bg;obtain⟨bj,g0⟩:=aJ bg.Ks z;obtain⟨u,hc⟩:∃u,u=w.heap.size:=⟨_,rfl⟩
 rw[<-hc] at bj;clear bg z hc;conv=>arg 2;whnf
 conv at hK=>enter [a,w,1,2];whnf
 obtain⟨a0,ai,af⟩:=bj.blk.two;go_wp2_with(fail);refine(a1 w (S.heap.size+1) A n c l 4 bj.src ad ad).mono ?_;rintro e aS ⟨cx,rfl,aO,b0,h,he⟩;obtain⟨N,rfl⟩:=LP aO;have hm:N<4:=ad;have g1:=ae (bj.next h he.fr);clear h he a0 ai af bj aO b0;go_wp2_with(fail);go_loopw [12] (λcA wr=>∃(i:Nat) (FA:Mt) (fc:Nat) (F:List aL),cA=.int .i64 i/\i<=N+1/\zx S u wr A n c l ar MA mn mc M GA gn gc G aq ba FA i fc F) (λcA _=>N+1 - (intOf cA).toNat)
 case atStart=>exact⟨0,none,0,[],rfl,ad,g1.o⟩
 case round=>
  obtain⟨i,FA,fc,F,rfl,aX,bg⟩:=hrel;obtain⟨T,rfl⟩:∃T,T=wr:=⟨wr,rfl⟩
  clear g1;have ct:=ae bg;obtain⟨a0,ai,af⟩:=bg.blk.two;have ce:F.length=i:=by have:=bg.fs.len;simpa using this
  have hD:=bg.hD;clear bg;by_cases an:i<=N
  .have gA:(i:Int)<=(N:Int):=ad;have e1:i<=3:=ad;have a8:=λ(W:World) (v:Int)=>k2 W v;have hY:∀v,(strOf [byteOf v]).size=1:=λv=>aP _;go_upto_region 24 with(fail);clear hY;generalize hX:World.alloc _ _=hf;have bP:=h9 hX;have hd:au hf (T.heap.size+1) 96 #[.string (⟨#[102]⟩++strOf [byteOf (48+(i:Int))]),(),()]:=by
    rw[<-hX];exact au.gX _ _ _ (by simp)
   have fg:=ct.src.cT bP λ_ _ h=>h;have dB:=az fg bP hd;clear hX bP hd fg a0 ai af;by_cases cS:i=0
   case' pos=>
    have b8:((i:Int) == 0)=true:=by simp;omega
    obtain⟨f0,dN,dQ⟩:=dB.2.2.two;have cU:=ae cS;clear cS;go_upto_region 26 with(fail);generalize hX:World.setCell _ _ _=Y;have J:=cp hX;have iy:=ct.blk.lt;have hF:cr Y (S.heap.size+1) A n c l/\Fr (λb=>b=S.heap.size+1) T Y/\au Y (T.heap.size+1) 96 #[.string (jF i),(),()]:=by
     refine⟨dB.1.cT J (λb O h=>ad),(dB.2.1.mono λ_ h=>h.elim).eZ (J.below dB.2.1.size λk aj h=>ad),?_⟩;rw[<-hX,cU.o];exact dB.2.2.aN 0 _
    clear hX J f0 dN dQ dB
   case' neg=>
    have b8:((i:Int) == 0)=false:=by simp;omega
    have cU:=ae cS;clear cS;go_upto_region 26 with(fail);have hF:cr hf (S.heap.size+1) A n c l/\Fr (λb=>b=S.heap.size+1) T hf/\au hf (T.heap.size+1) 96 #[.string (jF i),(),()]:=⟨dB.1,dB.2.1.mono λ_ h=>h.elim,by have:=dB.2.2;rw[Ev ad cU.o rfl] at this;exact this⟩
    clear dB;revert hF;generalize hf=Y;intro hF
   all_goals
    clear a8;have b3:=ae hF;obtain⟨a0,ai,af⟩:=(ct.next b3.1 b3.2.1).blk.two;clear hF;go_wp2_with(fail);refine(a1 Y (S.heap.size+1) A n c l 3 b3.1 ad ad).mono ?_;rintro e hj ⟨bY,rfl,aO,b0,h,he⟩;obtain⟨hs,rfl⟩:=LP aO;have bC:hs<=2:=ad;have aR:=az h (b3.2.1.trans he.fr) (b3.2.2.on he.fr (ay ct.blk.lt));clear h he a0 ai af b3 aO b0;go_wp2_with(fail);go_loopw [14] (λho bM=>∃(m:Nat) (PA:Mt) (pn pc:Nat) (ps:List (ByteArray×Bool)),ho=.int .i64 m/\m<=2/\pn+m<=2/\(i=0->ps=[])/\(i≠0->ps.map (·.1)++fh m=fh hs)/\cr bM (S.heap.size+1) A n c l/\Fr (λb=>b=S.heap.size+1) T bM/\au bM (T.heap.size+1) 96 #[.string (jF i),.slice PA pn pc,()]/\Gr (λ_=>False) (T.heap.size+1+1) 98 2 bM PA pn pc (ps.map cD)) (λho _=>(intOf ho).toNat)
    case atStart=>exact⟨hs,none,0,0,[],rfl,bC,ad,λ_=>rfl,λ_=>rfl,aR.1,aR.2.1,aR.2.2,Gr.nil _ _ _ _ _⟩
    case round=>
     obtain⟨m,PA,pn,pc,ps,rfl,bQ,c2,hp,hq,hF⟩:=hrel;clear aR;have b3:=ae hF;have b7:=ag hp hq;have hT:=ct.next hF.1 hF.2.1;obtain⟨a0,ai,af⟩:=hT.blk.two;obtain⟨f0,dN,dQ⟩:=hF.2.2.1.two;have hC:=ae hT;clear hF hp hq hT;by_cases an:0<m/\0<i
     .obtain⟨hl,bc⟩:=an;have q1:decide ((m:Int) > 0)=true:=by simp;omega
      have cJ:decide ((i:Int) > 0)=true:=by simp;omega
      have hW:(m:Int)<=2:=ad;have gU:¬S+1+1=S.heap.size+1:=ad;have cf:S+1+1<wr.heap.size:=hC.blk.lt;clear f0 dN dQ;go_upto_region 29 with(fail);exact Au
     .have cg:(¬0<m)\/((0<m)/\¬0<i):=by
       by_cases ac:0<m
       .exact .inr ⟨ac,λh=>an ⟨ac,h⟩⟩
       .exact .inl ac
      have hr:∃bA,bA<=2/\ps.map (·.1)=fh bA:=by
       by_cases ac:i=0
       .exact⟨0,ad,by rw[b7.1 ac];rfl⟩
       .have ap:m=0:=by
         by_cases aV:0<m
         .exact absurd ⟨aV,ad⟩ an
         .omega
        have aV:=b7.2 ac;rw[ap] at aV;exact⟨hs,bC,by simpa[fh] using aV⟩
      have h5:=ae hr;clear an hr;rcases cg with q1|⟨q1,cJ⟩
      ·
       exact Hd
      ·
       exact Hd
  .have gA:¬(i:Int)<=(N:Int):=ad;go_upto_region 32 with(fail);have c3:=g0.o _ _ (by assumption) (by assumption);unfold FW at c3;exact c3 u A n c l ar MA mn mc M GA gn gc G aq ba FA i fc F T ad ct.o
namespace Dw
theorem dC(h:p:=by
 try simp only[L8]
 generalize hX:World.setCell _ _ _=X;have aN:=ae (hX▸bt.o);clear hX bt e0 e1 e2 aO fH N y;go_wp2_with(fail);go_roundw
 case rel=>exact⟨i+1,bE,F.set i {f with body:=.eY ls},by go_num,ad,aN.o⟩
 case measure=>exact aH
 ):p:=h
end Dw
open Dw in
theorem Kt(S:World)(gY:Value)(b2 bV:Act->World->Prop)(ac:∀a ab,Code.wp prog (nH 32) (Exit.then bV (bodyPost prog Tryz.f11 (kp S))) a ab->b2 a ab)(ap:∀a ab,Code.wp prog (HQ 42) (bodyPost prog Tryz.f11 (kp S)) a ab->bV a ab) :
  FW S gY (Exit.then bV (bodyPost prog Tryz.f11 (kp S))) b2:=by
 unfold FW;intro u A n c l ar MA mn mc M GA gn gc G aq ba FA fn fc F hu hw gR gV u8 gS eW bK gw gv cc bD u16 gx gy eX eY eZ e3 e4 e5 e6 e7 e8 e9 fa fb fd u32 fe ff fi fj fk fl fp fq fr fs ft fu fv fw fx fz fA fB fC fD fE fF fG fI fJ fK fL fM fN fO fP u64 fR fS fT fU fV fW fX fY fZ f3 f4 f5 f6 f7 f8 f9 ga gb gd ge gf gg gh gi gj gk gl gm go gp gq gr gs gt gu H I am aG aK aM aU a4 bb bf bm bo bp bq bu bz bB bI bW b6 b9 ca cd cj ck cm cq cu cw cy cB cE cF cH cK cM cN cO cQ cR cT cV cW cX cY c4 c5 c6 c7 c8 c9 da db dc dd de df dg dh di dj dk dl dm dn dp dr ds dt du dv dw dx dy dz dA dD dE dF dG dH dI dJ dK dL dM dO dP dR dS dT dU dV dY dZ d0 d1 d2 d3 d4 d5 d6 d7 d8 d9 ea eb ec ed ee ef eg eh ej ek el em en eo ep eq er es et ev ew ex ey ez eA eB eC eD eE eF eG eH eI eK eL eM eN eO eP eQ eR eT eU eV gB gC gD gE gF gG gH gI gJ gK gL gM gN gO gP w bi bg;obtain⟨fg,rfl,aI⟩:=bg.Kt bi;have bj:=ae aI;clear bg aI;conv=>arg 2;whnf
 conv at ac=>enter [a,w,1,2];whnf
 conv at ap=>enter [a,w,1,2];whnf
 go_wp2_with(fail);go_loopw [16] (λcA wr=>∃(i L:Nat) (F:List aL),cA=.int .i64 i/\i<=fn/\oN S u A n c l ar MA mn mc M GA gn gc G aq ba fg fn fc wr F i L) (λcA _=>fn - (intOf cA).toNat)
 case atStart=>exact⟨0,24,F,rfl,ad,bj.o⟩
 case round=>
  obtain⟨i,L,F,rfl,aX,bg⟩:=hrel;obtain⟨T,rfl⟩:∃T,T=wr:=⟨wr,rfl⟩
  clear bj;have ct:=ae bg;obtain⟨a0,ai,af⟩:=bg.blk.two;have bU:=bg.hD;have a1:=bg.own;clear bg;by_cases an:i<fn
  .have gA:(i:Int)<(fn:Int):=ad;have cS:(0:Int)<=(i:Int):=ad;obtain⟨f,QA,b1,qc,ce,bn,bc,J,bs,fh,cG,E⟩:=ct.Jv an;have bN:=az J cG E;have t:f.params.length=b1:=by have:=cG.1;simpa using this
   clear J cG E;have ah:=ae ct.len.2.2;have be:Gr (λ_=>False) T 9 1 (T.alloc (.cells #[] 9)) (some ⟨T,0,none⟩) 0 0 []:=Gr.lit (w:=T) (n:=0) (l:=[]) rfl (by rfl) ad (by simp only[D.aM]);have a2:Ext T (T.alloc (.cells #[] 9)):=Mo.alloc _;have aA:Src (T.alloc (.cells #[] 9)) 1 aq gn ((G.map (·.1)).map Value.string):=uZ (ct.aj a2).vs;have g:aq=none->gn=0:=λh=>by subst h;exact Sl.none_ ct.vs
   have cv:T.heap.size<=(T.alloc (.cells #[] 9)).heap.size:=by simp
   have b3:=ct.ng;have a8:=ct.nf.2;go_upto_region 36 with(at_builtin;go_loud (refine qR kF rfl (.tmp 194) (.tmp 195) rfl be (nN (G.map (·.1))) (by rw[LO,LO];exact ah.o) aA g rfl rfl ad ad cv ?_);intro cC c3 b7 dW av aZ a9;have aE:=ag dW av;clear dW av aZ a9);have a7:Ext T b7:=a2.eZ (aE.2.below (by simp) λk aj h=>by
    simp[Value.ownBlock] at h;omega)
   have dW:=aE.1;simp only[L8,Mh] at dW;have bQ:=ag a7 dW;clear a7 dW aE be a2 aA g cv a0 ai af
   try simp only[L8]
   go_wp2_with(fail);go_loopw [17,18] (λU bY wr=>∃(j:Nat) (br:Mt) (on bZ:Nat),U=.slice br on bZ/\bY=.int .i64 j/\j<=b1/\Ext T wr/\Gr (λ_=>False) T.heap.size 9 1 wr br on bZ ((G.map (·.1)++cz (f.params.take j)).map D.s)) (λ_ bY _=>b1 - (intOf bY).toNat)
   case atStart=>exact⟨0,cC,gn,c3,rfl,rfl,ad,bQ.1,by simpa[cz] using bQ.2⟩
   case round=>
    obtain⟨j,br,on,bZ,rfl,rfl,bd,aw,hG⟩:=hrel;clear bQ;have Q:on=(G.map (·.1)).length+(cz (f.params.take j)).length:=by have:=hG.len;simpa using this.symm
    have bA:on<=4:=by
     have cI:=s0 (f.params.take j);have bM:=ah.o;rw[List.length_take] at cI;rw[LO] at Q;omega
    have a3:=bF (ct.aj aw) aw hG (bN.2.2.ai (aw.block fg a1.2 (λh=>h)));obtain⟨R,aY⟩:=aJ t Q;have Z:=aw.size;clear aw hG t Q;obtain⟨a0,ai,af⟩:=a3.1.blk.two;obtain⟨e0,e1,e2⟩:=a3.2.2.2;by_cases cg:j<b1
    .have dN:(j:Int)<(b1:Int):=ad;have aV:(0:Int)<=(j:Int):=ad;obtain⟨pb,gU,q,cs,bR,cZ,hm,a5,bh,hc⟩:=Sl.hf (z:=2) (bN.2.1.ai λb O=>a3.2.1.block b O.2 (λh=>h)) (λ_=>rfl) cg;obtain rfl:=tm.1 a5;subst bR;have c0:=hc 0 _ rfl;have c1:=hc 1 _ rfl;simp only[LW] at c0 c1;have cU:=ae hm;clear a5 hc bh hm cZ;obtain⟨q1,cJ⟩:=q;simp only at c0 c1;have ao:=ra cU.o
     cases cJ with
     | true=>
      go_wp2_with(fail);go_roundw
      case rel=>exact⟨j+1,br,on,bZ,rfl,by go_num,ad,a3.2.1,by rw[ao];simpa using a3.2.2.1⟩
      case measure=>exact aH
     | false=>
      have hd:(D.s q1).rep wr (lh (λ_=>False) wr (.slice br on bZ)) [q1]:=by simp only[D.rep]
      have b4:=ae hd;clear hd;go_wp2_with(at_builtin;refine bL kF rfl (.tmp 225) (.tmp 239) rfl a3.2.2.1 b4.o rfl rfl rfl ad ad Z ?_;intro bP cf b7 al aC cn cb;have bX:=ag al aC;clear al aC cn cb);have bv:∀b,(Value.slice br on bZ).ownBlock=some b->T.heap.size<=b:=λb O=>(a3.2.2.1.lt O).1;have aW:Ext T b7:=a3.2.1.eZ (bX.2.below Z λk aj h=>by have:=bv k h;omega);have aS:=ae aW;clear bv aW;go_roundw
      case rel=>exact⟨j+1,bP,on+1,cf,rfl,by go_num,ad,aS.o,by rw[ao];simpa[LR,<-List.append_assoc] using bX.1⟩
      case measure=>exact aH
    .obtain rfl:j=b1:=ad;have dB:f.params.take j=f.params:=LS (ay R.o);have o:=a3.1.aj Mo.drew;have N:=a3.2.2.2.ai (ab:=wr.drew) rfl;have W:=a3.2.2.1.aj Mo.drew;rw[dB] at W;have y:=o.blk;have au:=o.own;have bT:(G.map (·.1)++cz f.params).length+L<=60:=by
      have cI:=aY.o;rw[dB] at cI;have bM:=o.kO;rw[LM];omega
     have aa:=o.lI.free (f:=f) (LN bN.1);have bw:=o.kO;have b4:=bF o W bT aa;clear o W bT aa dB;go_upto_region 41 with(fail);clear e0 e1 e2 a0 ai af;refine kY (RW (S.heap.size+1) (.pointer (some ⟨S.heap.size+1,0,none⟩)) (.slice GA gn gc) (.slice MA mn mc) (.slice (some ⟨fg,0,none⟩) fn fc) ar) [(0,3),(1,3),(2,3),(3,3),(4,0),(5,3),(6,3),(7,3),(8,3),(9,3),(10,3),(11,0),(12,3),(13,3),(14,0),(15,3),(16,1),(17,3),(18,3),(19,2)] (by kernel_rfl) (by kernel_rfl) (λw=>RW.refl w) (λ_ _ _ h k=>h.trans k) (λ_ _ d _ _ h=>by cases d<;>exact h) ?_
     iterate 4 refine pf ?_
     refine bJ (v:=?_) rfl (by rfl) (λV hV=>?_) ?_;rotate_left
     .obtain⟨bO,b8⟩:=hV.wb _ y;obtain⟨hVc,hVf,bT⟩:=b8.two
      (go_simp<;>with_reducible rfl)
     try simp only[PU]
     iterate 6 refine pf ?_
     refine bJ (v:=?_) rfl (by rfl) (λV hV=>?_) ?_;rotate_left
     .obtain⟨bO,b8⟩:=hV.wb _ y;obtain⟨hVc,hVf,bT⟩:=b8.two
      (go_simp<;>with_reducible rfl)
     try simp only[PU]
     iterate 2 refine pf ?_
     refine bJ (v:=?_) rfl (by rfl) (λV hV=>?_) ?_;rotate_left
     .obtain⟨e0,e1,e2⟩:=N.ai (hV.fr.block fg au.2 ad)
      (go_simp<;>with_reducible rfl)
     try simp only[PU]
     refine pf ?_;refine aB rfl (λK hK=>?_);go_simp;refine(FG ⟨S.heap.size+1,S.heap.size+1+1,A,n,c,l,GA,gn,gc,MA,mn,mc,some ⟨fg,0,none⟩,fn,fc,M,F,ar⟩ L (G.map (·.1)++cz f.params) (bk ⟨G,M,F⟩++f.params.map (·.1)) br on bZ f.name f.params QA j qc (.slice ce bn bc) wr.drew b4.1.wr (b4.2.1.sl (λb _ h=>h.elim) (λb O aQ=>⟨O,λhm=>by rcases hm with hm|hm<;>(simp only at hm;omega)⟩)) b4.2.2.1 (λk aj=>b4.2.2.2 k ad) ((bN.2.1.ai λb O=>(a3.2.1.trans Mo.drew).block b O.2 (λh=>h)).mono λb O=>⟨by have:=O.2;have:=Z;show b<wr.heap.size;omega,λhm=>by have:=O.1;rcases hm with hm|hm<;>(simp only at hm;omega)⟩) bs).mono ?_;rintro e aT ⟨ls,bE,ch,b5,b0,rfl,ci,cb,bS,P,a6⟩;have m:¬(fg=S.heap.size+1\/fg=S.heap.size+1+1):=ad;have ak:=m;obtain⟨cur,s⟩:=b4.1.fs.J5;have aO:=(s.on a6 m).frozen;have fH:=(s.on a6 m).lt;obtain⟨e0,e1,e2⟩:=N.ai (a6.block fg au.2 m);have bt:=ae (b4.1.body bN.1 P a6 ci cb bS);refine dq hK (⟨a6,λ_ _=>⟨bE,P.blk⟩⟩) ?_;clear hK K;clear ci cb bS P a6 s m ak
     iterate 2 refine pf ?_
     exact eS
  .have gA:¬(i:Int)<(fn:Int):=ad;have r:i=fn:=ad;have aR:=ae r;clear r;have cl:=ct.res;obtain⟨bl,aD,aP⟩:=cl.two;clear cl;go_wp2_with(fail);generalize co:World.setCell _ _ _=Y;have bg:=ct.o;rw[aR.o] at bg;obtain⟨bH,bG,bx⟩:=ei (M:=λ_=>False) [.slice GA gn gc,.slice MA mn mc,.slice (some ⟨fg,0,none⟩) fn fc] (by rfl) bg.res (w:=S) bg.ext (LK _) co;have bC:=ae (bg.Kx bx);clear bl aD aP co bg bx a0 ai af;obtain⟨bl,aD,aP⟩:=bH.two;refine Mn (v:=.agg #[.slice GA gn gc,.slice MA mn mc,.slice (some ⟨fg,0,none⟩) fn fc]) (by simp[results,Tryz.results11,go_sem,bl]) rfl ?_;exact bC.o
end Go.Proofs.YtpkfopfkdgkfkaaGreat

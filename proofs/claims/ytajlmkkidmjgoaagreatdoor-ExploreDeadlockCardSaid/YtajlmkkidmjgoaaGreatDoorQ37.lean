/- Part 37 of the proof. No condition of its own. -/
import Derived.Test.YtajlmkkidmjgoaaGreatDoorQ31
import Derived.Test.YtajlmkkidmjgoaaGreatDoorQ33
import Derived.Test.YtajlmkkidmjgoaaGreatDoorQ36
namespace Go.Proofs.YtajlmkkidmjgoaaGreatDoor
open Go.RowKit Go.Proofs.Tryz
set_option maxRecDepth 1000000
set_option maxHeartbeats 25600000
set_option linter.unusedVariables false
variable{g:Nat}{F:Nat->Bool}{p:Prop}{w:World}
namespace zE
theorem fP(h:p:=by
 generalize cf:World.setCell _ _ _=hf;have f:=a2.1.add aZ.1 aZ.2 ad (mG.snoc a2.1.ok aV (re:=true) (sz:=0) ad ad (by intro _;rfl));rw[cf] at f;have bR:=ae f;clear cf f aI aj af;go_wp2_with(fail);go_roundw
 case rel=>exact⟨i+1,r,dj,M++[⟨h1 i,true,0⟩],by go_num,ad,bR.o⟩
 case measure=>exact aF
 ):p:=h
end zE
open zE in
theorem Hl(A:IP)(n c:Nat)(l:List Int)(w:World)(h:cJ (EF cD) 1 w w.heap.size A n l)(hc:n<=c)
  (s:∀K,(∀a ab,Code.wp prog (mZ 13) (bodyPost prog Tryz.f16 (jO w)) a ab->K a ab)->Cy w (.slice A n c) (bodyPost prog Tryz.f16 (jO w)) K) :
  Calls prog 16 #[.slice A n c] w (jO w):=by
 obtain⟨H,gT⟩:=aN h s;clear h s;go_enter func16,ntmps16;go_upto_region 1 with(fail);generalize ba:World.alloc _ _=W;have aw:=bm ba;have cy:=aU ba;have cE:W.heap.size=w.heap.size+1:=by rw[<-ba];simp
 have y:=H.dh (Fr.ext aw) aw.size;have ay:=aL aw cy y;clear ba aw cy y;go_wp2_with(fail);refine(AQ 400 A n c l W ad ay.2.2 hc).mono ?_;rintro e aO ⟨⟨aE,a0,L,rfl,bA,ax,T⟩,rfl⟩;have bL:=ae T;clear T;go_upto_region 2 with(fail);generalize hX:World.alloc _ _=X;have bW:=hJ hX;have q:an X (w.heap.size+1) 91 #[.slice aE a0 L,.int .i64 0]:=hX▸(an.fu _ _ _ cE.symm).alloc _;have x:an X (w.heap.size+1+1) 93 #[.pointer (some ⟨w.heap.size+1,0,none⟩),.slice none 0 0,.slice none 0 0,.slice none 0 0,.int .i64 24,.bool false]:=hX▸an.fu _ _ _ (by simp[cE]);have ao:b1 X (w.heap.size+1) aE a0 L ax:=⟨q.lt,by rw[q.cell];rfl,⟨0,ad,by rw[q.cell];rfl⟩,q.frozen 1,(by have:=bL.o;rw[cE] at this;exact this.eQ (bW.below ad λ_ _ h=>h)),ad⟩
 have H1:=bF ao x (ay.2.1.aj bW) (ay.1.trans bW);clear hX bW q x ao ay bL;obtain⟨aI,aj,af⟩:=H1.2.1.two;go_wp2_with(fail);refine(aX X (w.heap.size+1) aE a0 L ax 3 H1.1 ad ad).mono ?_;rintro e aT ⟨cm,rfl,bg,bo,h,he⟩;have bi:=bF h (H1.2.1.on he.fr ad) (H1.2.2.1.on he.fr ad) (Fr.low (M:=λb=>b=w.heap.size+1) ((H1.2.2.2.mono λ_ h=>h.elim).trans he.fr) λk ap=>ad);clear h he bg bo aI aj af H1;obtain⟨aI,aj,af⟩:=bi.2.1.two;go_upto_region 3 with(fail);generalize (cm == 1)=ar;generalize hX:World.setCell _ _ _=cQ;have aA:=cT hX;have x:an cQ (w.heap.size+1+1) 93 #[.pointer (some ⟨w.heap.size+1,0,none⟩),.slice none 0 0,.slice none 0 0,.slice none 0 0,.int .i64 24,.bool ar]:=hX▸bi.2.1.aI 5 _;have bI:=bF (bi.1.cz aA λb O h=>ad) x (bi.2.2.1.on aA ad) (Fr.low (M:=λb=>b=w.heap.size+1+1) ((bi.2.2.2.mono λ_ h=>h.elim).trans aA) λk ap=>ad);clear hX aA x bi aI aj af;obtain⟨aI,aj,af⟩:=bI.2.1.two;go_wp2_with(fail);refine(aX cQ (w.heap.size+1) aE a0 L ax 4 bI.1 ad ad).mono ?_;rintro e eG ⟨bZ,rfl,bg,bo,h,he⟩;obtain⟨G,rfl⟩:=Ic bg;have E:G<4:=ad;have cq:=bF h (bI.2.1.on he.fr ad) (bI.2.2.1.on he.fr ad) (Fr.low (M:=λb=>b=w.heap.size+1) ((bI.2.2.2.mono λ_ h=>h.elim).trans he.fr) λk ap=>ad);clear h he bg bo aI aj af bI;go_wp2_with(fail);go_loopw [4] (λci wr=>∃(i:Nat) (MA:IP) (mc:Nat) (M:List bJ),ci=.int .i64 i/\i<=1+G/\pO w wr aE a0 L ax ar MA i mc M) (λci _=>1+G - (intOf ci).toNat)
 case atStart=>exact⟨0,none,0,[],rfl,ad,⟨cq.1,cq.2.1,cq.2.2.1,Gr.nil _ _ _ _ _,ad,(λi m h=>by cases h),cq.2.2.2⟩⟩
 case round=>
  obtain⟨i,MA,mc,M,rfl,ak,U⟩:=hrel;clear cq;have b9:=ae U;obtain⟨aI,aj,af⟩:=U.blk.two;have aV:M.length=i:=by have:=U.ms.len;simpa using this
  have cg:=U.blk.lt;clear U;by_cases al:i<1+G
  .have bP:(i:Int)<1+(G:Int):=ad;have e2:i<=3:=ad;have bG:=λ(W:World) (v:Int)=>kv W v;go_upto_region 7 with(fail);clear bG;generalize hX:World.alloc _ _=g6;have cj:=hJ hX;have g8:an g6 (wr.heap.size+1) 97 #[.string (h1 i),.bool false,.int .i64 0]:=by
    rw[<-hX,<-By (by omega:i<4)];exact an.fu _ _ _ (by simp)
   have dz:=ai (b9.aj cj) g8;have ct:(Value.slice MA i mc).ownBlock≠some (wr.heap.size+1):=λO=>by have:=(b9.ms.lt O).2;omega
   have ah:=ae ct;clear hX cj g8 aI aj af ct;obtain⟨aI,aj,af⟩:=dz.1.blk.two;go_wp2_with(fail);refine(aX g6 (w.heap.size+1) aE a0 L ax 5 dz.1.src ad ad).mono ?_;rintro e Y ⟨cd,rfl,F,ag,h,he⟩;have bY:=ai (dz.1.next h he.fr) (dz.2.on he.fr ad);have ch:wr.heap.size+1<Y.heap.size:=bY.2.lt;clear h he aI aj af;by_cases ac:cd=1
   .have q1:(cd == 1)=true:=by simpa using ac
    clear ac F ag;obtain⟨d0,aP,aQ⟩:=bY.2.two;go_upto_region 12 with(fail);generalize hX:World.setCell _ _ _=di;have aA:=cT hX;have a6:an di (wr.heap.size+1) 97 #[.string (h1 i),.bool true,.int .i64 0]:=hX▸bY.2.aI 1 _;have j:=ai (bY.1.fresh ad ah.o aA) a6;clear hX aA a6 d0 aP aQ bY;obtain⟨aI,aj,af⟩:=j.1.blk.two;obtain⟨d0,aP,aQ⟩:=j.2.two;have I:=j.2.lt;refine eB (λ_=>False) [(0,3),(1,3),(2,3),(3,3),(4,3),(5,0),(6,0),(7,1),(8,2),(9,3),(10,3),(11,3),(12,2)] ?_
    iterate 5 refine pf ?_
    iterate 2 refine ph ?_
    refine p2 ?_;generalize cl:World.drew (World.alloc _ _)=Z;have bl:=gX cl;have bB:=lU cl;have bw:=j.1.aj bl;have a2:=ai bw bB;have aR:=bl.size;clear cl bl bB bw aI aj af d0 aP aQ;refine au rfl (λK hK=>?_);rw[if_pos (by rfl)];refine eK lp (.tmp 73) (.tmp 75) (by rfl) a2.1.ms a2.2 (eN.2 rfl:(er ⟨h1 i,true,0⟩).rep Z _ _) (by rfl) (by rfl) (by rfl) ad ad ad ?_;intro r dj fn bz z ck cc;have bu:∀b,(Value.slice MA i mc).ownBlock=some b->w.heap.size+1+1+1<=b:=λb O=>(a2.1.ms.lt O).1;have aY:=a2.1.blk.on z (λO=>by have:=bu _ O;omega);have aZ:=ai bz z;clear bz z ck cc bu;obtain⟨aI,aj,af⟩:=aY.two;clear aY;refine dW hK ?_;clear hK K
    iterate 3 refine pf ?_
    exact fO
   by_cases J:cd=2
   .have q1:(cd == 1)=false:=by simpa using ac
    have dq:(cd == 2)=true:=by simpa using J
    clear ac J F ag;obtain⟨aI,aj,af⟩:=bY.1.blk.two;go_wp2_with(fail);refine(aX Y (w.heap.size+1) aE a0 L ax 3 bY.1.src ad ad).mono ?_;rintro e hd ⟨cX,rfl,N,aq,h,he⟩;have u:=ai (bY.1.next h he.fr) (bY.2.on he.fr ad);clear h he aI aj af bY;obtain⟨d0,aP,aQ⟩:=u.2.two;go_upto_region 12 with(fail);generalize hX:World.setCell _ _ _=di;have aA:=cT hX;have a6:an di (wr.heap.size+1) 97 #[.string (h1 i),.bool false,.int .i64 (1+cX)]:=hX▸u.2.aI 2 _;have j:=ai (u.1.fresh ad ah.o aA) a6;clear hX aA a6 d0 aP aQ u;obtain⟨aI,aj,af⟩:=j.1.blk.two;obtain⟨d0,aP,aQ⟩:=j.2.two;have I:=j.2.lt;refine eB (λ_=>False) [(0,3),(1,3),(2,3),(3,3),(4,3),(5,0),(6,0),(7,1),(8,2),(9,3),(10,3),(11,3),(12,2)] ?_
    iterate 5 refine pf ?_
    iterate 2 refine ph ?_
    refine p2 ?_;generalize cl:World.drew (World.alloc _ _)=Z;have bl:=gX cl;have bB:=lU cl;have bw:=j.1.aj bl;have a2:=ai bw bB;have aR:=bl.size;clear cl bl bB bw aI aj af d0 aP aQ;refine au rfl (λK hK=>?_);rw[if_pos (by rfl)];refine eK lp (.tmp 73) (.tmp 75) (by rfl) a2.1.ms a2.2 (eN.2 rfl:(er ⟨h1 i,false,(1+cX)⟩).rep Z _ _) (by rfl) (by rfl) (by rfl) ad ad ad ?_;intro r dj fn bz z ck cc;have bu:∀b,(Value.slice MA i mc).ownBlock=some b->w.heap.size+1+1+1<=b:=λb O=>(a2.1.ms.lt O).1;have aY:=a2.1.blk.on z (λO=>by have:=bu _ O;omega);have aZ:=ai bz z;clear bz z ck cc bu;obtain⟨aI,aj,af⟩:=aY.two;clear aY;refine dW hK ?_;clear hK K
    iterate 3 refine pf ?_
    refine au rfl (λK hK=>?_);go_simp;refine dW hK ?_;clear hK K;refine aB ?_;generalize cf:World.setCell _ _ _=hf;have f:=a2.1.add aZ.1 aZ.2 ad (mG.snoc a2.1.ok aV (re:=false) (sz:=(1+cX)) ad ad (by intro h;cases h));rw[cf] at f;have bR:=ae f;clear cf f aI aj af;go_wp2_with(fail);go_roundw
    case rel=>exact⟨i+1,r,dj,M++[⟨h1 i,false,(1+cX)⟩],by go_num,ad,bR.o⟩
    case measure=>exact aF
   .have q1:(cd == 1)=false:=by simpa using ac
    have dq:(cd == 2)=false:=by simpa using J
    clear ac J F ag;go_upto_region 12 with(fail);obtain⟨aI,aj,af⟩:=bY.1.blk.two;obtain⟨d0,aP,aQ⟩:=bY.2.two;refine eB (λ_=>False) [(0,3),(1,3),(2,3),(3,3),(4,3),(5,0),(6,0),(7,1),(8,2),(9,3),(10,3),(11,3),(12,2)] ?_
    iterate 5 refine pf ?_
    iterate 2 refine ph ?_
    refine p2 ?_;generalize cl:World.drew (World.alloc _ _)=Z;have bl:=gX cl;have bB:=lU cl;have bw:=bY.1.aj bl;have a2:=ai bw bB;have aR:=bl.size;clear cl bl bB bw aI aj af d0 aP aQ;refine au rfl (λK hK=>?_);rw[if_pos (by rfl)];refine eK lp (.tmp 73) (.tmp 75) (by rfl) a2.1.ms a2.2 (eN.2 rfl:(er ⟨h1 i,false,0⟩).rep Z _ _) (by rfl) (by rfl) (by rfl) ad ad ad ?_;intro r dj fn bz z ck cc;have bu:∀b,(Value.slice MA i mc).ownBlock=some b->w.heap.size+1+1+1<=b:=λb O=>(a2.1.ms.lt O).1;have aY:=a2.1.blk.on z (λO=>by have:=bu _ O;omega);have aZ:=ai bz z;clear bz z ck cc bu;obtain⟨aI,aj,af⟩:=aY.two;clear aY;refine dW hK ?_;clear hK K
    iterate 3 refine pf ?_
    refine au rfl (λK hK=>?_);go_simp;refine dW hK ?_;clear hK K;refine aB ?_;generalize cf:World.setCell _ _ _=hf;have f:=a2.1.add aZ.1 aZ.2 ad (mG.snoc a2.1.ok aV (re:=false) (sz:=0) ad ad (by intro _;rfl));rw[cf] at f;have bR:=ae f;clear cf f aI aj af;go_wp2_with(fail);go_roundw
    case rel=>exact⟨i+1,r,dj,M++[⟨h1 i,false,0⟩],by go_num,ad,bR.o⟩
    case measure=>exact aF
  .have bP:¬(i:Int)<1+(G:Int):=ad;go_upto_region 13 with(fail);have bb:=gT.o _ (by assumption);unfold Cy at bb;exact bb aE a0 L ax ar MA i mc M wr ad b9.o
theorem BL(A:IP)(n c:Nat)(l:List Int)(w:World)(h:cJ (EF cD) 1 w w.heap.size A n l)(hc:n<=c):Calls prog 16 #[.slice A n c] w (jO w):=
 Hl A n c l w h hc λK hK=>GO w (.slice A n c) (λfZ a=>GP w (.slice A n c) _ (λ_ _ d _ _ h=>by cases d<;>exact h) (λbE bc ac J=>GQ w (.slice A n c) bE bc ac J) fZ a) K hK
def FF(w:World)(e:Ending)(ab:World):Prop:=∃(u:ax) (be av de j b4 a:IP) (hQ c9 cI ca al cf d0 d1 d2 d3 d4 d5:Nat) (GA:IP) (gn gc:Nat) (MA:IP) (mn mc:Nat) (PA:IP) (pn pc:Nat),e=.returned (.tuple #[.agg #[.slice be hQ d0,.slice av c9 d1,.slice de cI d2],.agg #[.slice GA gn gc,.slice MA mn mc,.slice PA pn pc,.int .i64 u.main],.agg #[.slice j ca d3,.slice b4 al d4,.slice a cf d5]])/\x0 u/\gn<=gc/\mn<=mc/\pn<=pc/\(uc u).rep ab (fresh w ab) [.slice GA gn gc,.slice MA mn mc,.slice PA pn pc,.int .i64 u.main]/\Ext w ab
namespace zX
theorem fP(h:p:=by
 go_wp2_with(fail);generalize ak:World.setCell _ _ _=hL;obtain⟨ap,aS,z⟩:=dG (M:=λ_=>False) (w:=w) [.slice ey n0 c0,.slice cF n1 c1,.slice A2 cd c2] (by rfl) f u.1 ad ak;have U:=u.2.2.1.on z ad;have a5:=u.2.2.2.on z ad;have a6:Fr (λb=>b<w.heap.size+3) Z hL:=u.2.1.trans (z.mono λb O=>ad);have a2:=ai aS a6;clear ak aS z f a6 u bD aK a9;obtain⟨bD,aK,a9⟩:=U.two;obtain⟨am,aE,aF⟩:=a5.two;obtain⟨t0,aH,aI⟩:=ap.two;refine IJ (v:=.tuple #[.agg #[.slice GA gn gc,.slice MA mn mc,.slice FA fn fc],.agg #[.slice i bC ci,.slice r ek dj,.slice m s F,.int .i64 (hZ p).main],.agg #[.slice ey n0 c0,.slice cF n1 c1,.slice A2 cd c2]]) (by simp[results,Tryz.results6,go_sem,bD,am,t0]) rfl ?_;refine⟨hZ p,?_⟩
 iterate 18 apply Exists.intro
 refine⟨i,bC,ci,r,ek,dj,m,s,F,rfl,⟨a0.o,CZ p⟩,?_,?_,?_,?_,a2.1.drew⟩
 iterate 3
  .obtain⟨_,_,_,_,_,_,_,_,_,he,ac,J,aR,_⟩:=oO cq.1;injection he with e1 he;injection he with e2 he;injection he with e3 he;injection e1 with _ ea eb;injection e2 with _ ec ed;injection e3 with _ ee af;omega
 have bT:=a2.2.size;have b2:(uc (hZ p)).rep hL.drew (fresh X aT) [.slice i bC ci,.slice r ek dj,.slice m s F,.int .i64 (hZ p).main]:=D.aT (λb O=>a2.2.drew.block b (aC O.2) (aC O.1)) _ _ cq.1;exact D.aH (λb O=>⟨by have:=O.1;omega,by have:=O.2;show b<hL.heap.size;omega⟩) _ _ b2
 ):p:=h
end zX
open zX in
theorem unit_any(A:IP)(n c:Nat)(l:List Int)(w:World)(h:cJ (EF cD) 1 w w.heap.size A n l)(hc:n<=c):Calls prog 6 #[.slice A n c] w (FF w):=by
 have H:=ae h;clear h;go_enter func6,ntmps6;go_upto_region 1 with(fail);generalize ba:World.alloc _ _=W;have aw:=pT ba;have bU:=lT ba;have bO:=kZ ba;have bH:=EB ba;have cE:W.heap.size=w.heap.size+3:=by rw[<-ba];simp
 have y:=H.dh (Fr.ext aw) aw.size;have ay:=bF aw bU bO bH;have bL:=ae y;clear ba aw bU bO bH y H;go_wp2_with(fail);refine(BL A n c l W bL.o hc).mono ?_;rintro e aO ⟨p,GA,gn,gc,MA,mn,mc,FA,fn,fc,rfl,ah,T,bG,az,aM,hm,aA,ag⟩;have H1:=cK ah aM hm aA ag;have b6:=ag.size;clear ah aM hm aA ag bL;go_upto_region 2 with(fail);generalize hX:World.alloc _ _=X;have bJ:=aU hX;have cj:=bm hX;have gq:=cj.size;have ar:=bJ.lt;obtain⟨d0,aP,aQ⟩:=bJ.two;have al:hG X (av X) p GA gn MA mn FA fn:=⟨(Sl.al H1.2.1 λb O=>cj.block b O.2 (λh=>h)).mono λb O=>Hy O.2 gq,(Sl.al H1.2.2.1 λb O=>cj.block b O.2 (λh=>h)).mono λb O=>Hy O.2 gq,(Sl.al H1.2.2.2.1 λb O=>cj.block b O.2 (λh=>h)).mono λb O=>Hy O.2 gq⟩
 have dz:=aL al bJ (H1.2.2.2.2.trans cj);clear hX bJ cj al;go_wp2_with(fail);refine(lowerR p H1.1 GA gn gc MA mn mc FA fn fc X dz.1).mono ?_;rintro e aT ⟨i,bC,ci,r,ek,dj,m,s,F,rfl,bX,aJ⟩;have bz:=aJ.size;have Q:=dz.2.1.aj aJ;have bi:=aL bX Q (dz.2.2.trans aJ);clear bX aJ Q d0 aP aQ;go_upto_region 3 with(fail);generalize ca:World.alloc _ _=Y;have cn:=aU ca;have G:=bm ca;have cc:=G.size;have ax:=cn.lt;obtain⟨d0,aP,aQ⟩:=cn.two;have bX:(uc (hZ p)).rep Y (fresh X aT) [.slice i bC ci,.slice r ek dj,.slice m s F,.int .i64 (hZ p).main]:=D.aT (λb O=>G.block b O.2 (λh=>h)) _ _ bi.1;have ao:gW Y (av Y) (hZ p) i bC r ek m s:=by
  obtain⟨_,_,_,_,_,_,_,_,_,he,_,_,_,hu⟩:=oO (D.aH (bW:=av Y) (λb O=>Hy O.2 cc) _ _ bX);injection he with ac he;injection he with J he;injection he with aR he;injection ac with I O hc;injection J with g bw cf;injection aR with ab bq o;subst I O g bw ab bq;exact hu
 have P:=cK bX ao cn (bi.2.1.aj G) (bi.2.2.trans G);have a0:=ae (CY H1.1);clear ca cn G bX ao bi;go_wp2_with(fail);refine(wV (hZ p) a0.o i bC ci r ek dj m s F Y P.2.1).mono ?_;rintro e b4 ⟨ey,n0,c0,cF,n1,c1,A2,cd,c2,k,rfl,aG⟩;have cx:=aG.size;have bI:=bF (D.aT (λb O=>aG.block b (Hy O.2 cc) (λh=>h)) _ _ P.1) (P.2.2.1.aj aG) (P.2.2.2.1.aj aG) (P.2.2.2.2.trans aG);clear aG d0 aP aQ P;go_upto_region 4 with(fail);generalize cl:World.alloc _ _=Z;have bK:=aU cl;have aV:=bm cl;have f1:=aV.size;have f1:=aV.size;have bX:=D.aT (λb O=>aV.block b (Hy O.2 (Ir cc cx)) (λh=>h)) _ _ bI.1;have cn:=bI.2.1.aj aV;have bJ:=bI.2.2.1.aj aV;have L:Ext W Z:=bI.2.2.2.trans aV;have N:=ay.2.1.aj L;have cp:=ay.2.2.1.aj L;have f:=ay.2.2.2.aj L;have cq:=ai bX (ay.1.trans L);have a7:=aL bJ cn bK;have a8:=ai cp f;obtain⟨bD,aK,a9⟩:=N.two;have aq:=bK.lt;clear cl aV bX bI L cp f bJ cn bK;refine eB (λb=>b<w.heap.size+3) [(0,0),(1,0),(2,0),(3,1),(4,1),(5,2)] ?_;refine bB (v:=?_) rfl (by rfl) (λV hV=>?_) ?_;rotate_left
 .obtain⟨d0,aP,aQ⟩:=(a7.1.on (Fr.aJ hV) ad).two
  (go_simp<;>with_reducible rfl)
 try simp only[PU]
 refine bB (v:=?_) rfl (by rfl) (λV hV=>?_) ?_;rotate_left
 .obtain⟨d0,aP,aQ⟩:=(a7.2.1.on (Fr.aJ hV) ad).two
  (go_simp<;>with_reducible rfl)
 try simp only[PU]
 refine bB (v:=?_) rfl (by rfl) (λV hV=>?_) ?_;rotate_left
 .obtain⟨d0,aP,aQ⟩:=(a7.2.2.on (Fr.aJ hV) ad).two
  (go_simp<;>with_reducible rfl)
 try simp only[PU]
 refine aD rfl (λK hK=>?_);go_simp;refine dA hK (((IK.setCell (.inl (by show w.heap.size<w.heap.size+3;omega)) _).setCell (.inl (by show w.heap.size<w.heap.size+3;omega)) _).setCell (.inl (by show w.heap.size<w.heap.size+3;omega)) _) ?_;clear hK K;generalize S:World.setCell _ _ _=di;obtain⟨U,aJ,aa⟩:=dG (M:=λ_=>False) (w:=w) [.slice GA gn gc,.slice MA mn mc,.slice FA fn fc] (by rfl) N cq.2 (Hx _) S;have cp:=a8.1.on aa ad;have f:=a8.2.on aa ad;have j:=bF aJ (Fr.mono (M':=λb=>b<w.heap.size+3) aa λb O=>ad) U f;clear S aJ aa U f N bD aK a9;obtain⟨bD,aK,a9⟩:=cp.two;refine aD rfl (λK hK=>?_);go_simp;refine dA hK (((IK.setCell (.inl (by show w.heap.size+1<w.heap.size+3;omega)) _).setCell (.inl (by show w.heap.size+1<w.heap.size+3;omega)) _).setCell (.inl (by show w.heap.size+1<w.heap.size+3;omega)) _ |>.setCell (.inl (by show w.heap.size+1<w.heap.size+3;omega)) _) ?_;clear hK K;generalize aj:World.setCell _ _ _=hd;obtain⟨a5,aG,R⟩:=dG (M:=λ_=>False) (w:=w) [.slice i bC ci,.slice r ek dj,.slice m s F,.int .i64 (hZ p).main] (by rfl) cp j.1 ad aj;have f:=j.2.2.2.on R ad;have u:=bF aG (j.2.1.trans (R.mono λb O=>ad)) (j.2.2.1.on R ad) a5;clear aj aG R a5 cp j bD aK a9;obtain⟨bD,aK,a9⟩:=f.two;exact fO
def bZ(f:Nat->Bool):Array Value:=#[.bool (f 0),.bool (f 1),.bool (f 2),.bool (f 3),.bool (f 4),.bool (f 5),.bool (f 6),.bool (f 7),.bool (f 8),.bool (f 9),.bool (f 10),.bool (f 11),.bool (f 12),.bool (f 13),.bool (f 14),.bool (f 15),.bool (f 16),.bool (f 17),.bool (f 18),.bool (f 19),.bool (f 20),.bool (f 21),.bool (f 22),.bool (f 23),.bool (f 24),.bool (f 25),.bool (f 26),.bool (f 27),.bool (f 28),.bool (f 29),.bool (f 30),.bool (f 31)]
theorem hk(f:Nat->Bool):(bZ f).toList=(List.range 32).map λi=>.bool (f i):=rfl
theorem nV(f:Nat->Bool){k:Nat}(h:k<32):(bZ f)[k]?=some (.bool (f k)):=by
 rw[<-Array.getElem?_toList,hk,List.getElem?_map,List.getElem?_range h];rfl
theorem sc(f:Nat->Bool)(k:Nat)(b:Bool):(bZ f).setIfInBounds k (.bool b)=bZ λi=>if i=k then b else f i:=by
 refine Array.ext' ?_;rw[Array.toList_setIfInBounds,hk,hk];refine List.ext_getElem? λi=>?_;rw[List.getElem?_set,List.getElem?_map,List.getElem?_map];by_cases ak:i<32
 .rw[List.getElem?_range ak];by_cases ap:k=i
  .subst ap;simp[ak]
  .simp[ap,Ne.symm ap]
 .rw[List.getElem?_eq_none (by simpa using ak)];simp;omega
theorem j4{f g:Nat->Bool}:bZ f=bZ g↔∀i,i<32->f i=g i:=by
 constructor
 .intro h i ak;have ac:=nV f ak;rw[h,nV g ak] at ac;injection ac with ac;injection ac with ac;exact ac.symm
 .intro h;refine Array.ext' ?_;rw[hk,hk];refine List.map_congr_left λi ak=>?_;rw[h i (List.mem_range.1 ak)]
section
variable {l:List Int} {f:Nat->Bool} {k:Nat} {x:Int} {b:Bool}
theorem E3(h:l[k]?=some x):rZ l (k:Int)=x:=by
 unfold rZ;rw[if_neg ad,Iw,List.getD_eq_getElem?_getD,h];rfl
theorem Dg(h:l[k]?=some x):jc l f k=(f k && decide (0<=x) && f x.toNat):=by
 unfold jc;rw[E3 h,decide_eq_true (List.getElem?_eq_some_iff.1 h).1,Bool.true_and]
theorem sR(h:jc l f k=b):(bZ λi=>if i=k then b else decide (i<k) && jc l f i)=bZ λi=>decide (i<k+1) && jc l f i:=by
 rw[j4];intro i _;by_cases ak:i=k
 .subst ak;simp[h]
 .simp only[if_neg ak];congr 1
  simp;omega
theorem sQ(h:jc l f k=false):(bZ λi=>decide (i<k) && jc l f i)=bZ λi=>decide (i<k+1) && jc l f i:=by
 rw[<-sR h,j4];intro i _;by_cases ak:i=k
 .subst ak;simp
 .simp[if_neg ak]
theorem Dh(h:l.length=k):(bZ λi=>decide (i<k) && jc l f i)=bZ (jc l f):=by
 rw[j4];intro i _;unfold jc;rw[h];by_cases ak:i<k<;>simp[ak]
theorem iL(h:an w g 86 (bZ f))(ap:k<32):w.cell? ⟨g,k,none⟩=some (.bool (f k)):=(h.two.1 k).trans (nV f ap)
end
theorem an.setRow{w:World}{g:Nat}{t:TypeId}{cs:Array Value}(h:an w g t cs)(vs:Array Value):an (w.setRow g vs) g t vs:=by
 unfold an at h ⊢;simp[World.setRow,Array.getElem?_modify,h]
theorem Fr.setRow{M:Nat->Prop}{S w:World}{g:Nat}(h:Fr M S w)(aM:M g\/S.heap.size<=g)(vs:Array Value):Fr M S (w.setRow g vs) where
 os:=h.os
 tape:=h.tape
 output:=h.output
 size:=by simpa[World.setRow] using h.size
 block k ap hm:=by
  have aZ:g≠k:=λe=>by
   subst e;rcases aM with aM|aM
   .exact hm aM
   .omega
  simp only[World.setRow,Array.getElem?_modify,if_neg aZ];exact h.block k ap hm
theorem sb:∀v∈(bZ F).toList,v.oneCell'=true:=λv bC=>by
 rw[hk] at bC;obtain⟨i,_,rfl⟩:=Iz.1 bC;rfl
theorem rG{f:Nat->Bool}(h:an w g 86 (bZ f))(F:Nat->Bool):(storeCells ⟨g,0,none⟩ (bZ F).toList).run prog w=.ok () (w.setRow g (bZ F)):=by
 rw[run_storeCells_from g 86 _ 0 _ w h (by simp[bZ]) sb];simp
theorem uT(w:World)(c L:Array Value)(t:TypeId):(w.alloc (.cells c t)).setRow w.heap.size L=w.alloc (.cells L t):=by
 unfold World.setRow World.alloc;congr 1
 refine Array.ext_getElem? λi=>?_;rw[Array.getElem?_modify,Array.getElem?_push,Array.getElem?_push];by_cases h:w.heap.size=i
 .subst h;simp
 .rw[if_neg h];simp[Ne.symm h]
theorem uS(w:World)(z:Array Value)(bi:z.size=32)(F:Nat->Bool):(storeCells ⟨w.heap.size,0,none⟩ (bZ F).toList).run prog (w.alloc (.cells z 86))=.ok () (w.alloc (.cells (bZ F) 86)):=by
 rw[run_storeCells_from w.heap.size 86 _ 0 z _ (heap_alloc_new _ _) (by simp[bZ,bi]) sb];simp[uT]
theorem sX(w:World)(F:Nat->Bool):(storeCells ⟨w.heap.size,0,none⟩ (bZ F).toList).run prog (w.alloc (.cells #[.bool false,.bool false,.bool false,.bool false,.bool false,.bool false,.bool false,.bool false,.bool false,.bool false,.bool false,.bool false,.bool false,.bool false,.bool false,.bool false,.bool false,.bool false,.bool false,.bool false,.bool false,.bool false,.bool false,.bool false,.bool false,.bool false,.bool false,.bool false,.bool false,.bool false,.bool false,.bool false] 86))=.ok () (w.alloc (.cells (bZ F) 86)):=uS w _ rfl F
theorem k6(A:IP)(n c:Nat)(l:List Int)(f:Nat->Bool)(w:World)(h:cJ (EF cD) 1 w w.heap.size A n l)(hl:dJ l)(hn:n<=32) :
  Calls prog 28 #[.slice A n c,.agg (bZ f)] w λe ab=>e=.returned (.agg (bZ (jc l f)))/\Ext w ab:=by
 have hlen:l.length=n:=by have:=h.1;omega
 have aD:=aL hl hlen h;clear hl hlen h;unfold bZ;go_enter func28,ntmps28;go_upto_region 2 with(fail);generalize ba:World.alloc _ _=W;have aw:Ext w W:=ba▸((IK.alloc _).alloc _).alloc _;have bO:an W w.heap.size 86 (bZ f):=ba▸((IL).alloc _).alloc _;have bH:an W (w.heap.size+1) 86 (bZ λ_=>false):=ba▸(an.fu _ _ _ (by simp)).alloc _;have bJ:an W (w.heap.size+2) 86 (bZ λ_=>false):=ba▸an.fu _ _ _ (by simp);have cE:=bJ.lt;have ay:=cK aw bO bH bJ (aD.2.2.dh (Fr.ext aw) aw.size);clear ba aw bO bH bJ;go_wp2_with(fail);go_loopw [10] (λci wr=>∃k:Nat,ci=.int .i64 k/\k<=n/\an wr (w.heap.size+2) 86 (bZ λi=>decide (i<k) && jc l f i)/\Fr (λb=>b=w.heap.size+2) W wr) (λci _=>n - (intOf ci).toNat)
 case atStart=>exact⟨0,rfl,ad,by simpa using ay.2.2.2.1,IK⟩
 case round=>
  obtain⟨k,rfl,ap,aS,hF⟩:=hrel;have hs:=hF.size;have a7:=ai aS hF;clear aS hF;by_cases al:k<n
  .have bP:(k:Int)<(n:Int):=ad;have ar:(k:Int)<32:=ad;obtain⟨b,o,x,rfl,ao,hx,c0⟩:=aD.2.2.int al;have T:b<wr.heap.size:=by have:=ay.1.size;omega
   have G:=aD.1 x (Ia hx);rw[aD.2.1] at G;have e0:=((Fr.cell (j:=o+k) ay.1 ao (λh=>h)).trans c0)
   have e1:=((a7.2.cell (j:=o+k) (aC ay.1.size) ad).trans e0)
   have b0:=iL (k:=k) (ay.2.1.on a7.2 ad) ad;have cg:w.heap.size<wr.heap.size:=ad;have g:=ae (Dg (f:=f) hx);clear c0 e0 hx ao
   cases hfk:f k with
   | false=>
    rw[hfk] at b0;have bs:=ae (sQ (l:=l) (f:=f) (k:=k) (by rw[g.o,hfk];rfl));clear hfk g
    exact D6
   | true=>
    rw[hfk] at b0;by_cases ch:0<=x
    case neg=>
     have q1:decide (x>=0)=false:=by simp;omega
     have bs:=ae (sQ (l:=l) (f:=f) (k:=k) (by rw[g.o,decide_eq_false ch];simp));clear hfk g ch;exact D6
    have q1:decide (x>=0)=true:=by simpa using ch
    have r:x<32:=ad;obtain⟨j,rfl⟩:=Ic ch;have g2:=iL (k:=j) (ay.2.1.on a7.2 ad) ad;have o1:=iL (k:=k) a7.1 ad;have av:=a7.1.two.2.1;have bs:=ae (sR (l:=l) (f:=f) (k:=k) (b:=f j) (by rw[g.o,hfk,decide_eq_true ch];simp));have aq:=a7.1.lt;clear hfk g ch G;generalize f j=s at *;go_upto_region 7 with(fail);generalize hX:World.setCell _ _ _=X;have bQ:an X (w.heap.size+2) 86 (bZ λi=>decide (i<k+1) && jc l f i):=by rw[<-hX,<-bs.o,<-sc];exact a7.1.aI k _
    have bh:Fr (λb=>b=w.heap.size+2) W X:=hX▸a7.2.setCell (.inl rfl) _;exact D4
  .have bP:¬(k:Int)<(n:Int):=ad;have cZ:=a7.1;rw[Dh (aC aD.2.1)] at cZ;obtain⟨F,hF⟩:∃F,F=jc l f:=⟨_,rfl⟩
   rw[<-hF] at cZ;have aN:=ae hF;have bH:=ay.2.2.1.on a7.2 ad;have m:Ext w wr:=Fr.low (M:=λb=>b=w.heap.size+2) (Fr.trans (Fr.mono ay.1 λ_ h=>h.elim) a7.2) λb O=>ad;have bf:=ai bH m;clear bH m a7 hF;have b1:=rG bf.1 F;go_wp2_with(refine wpList_load_row rfl 86 _ rfl (w.heap.size+2) rfl 86 (bZ F) (0,0) _ cZ Tryz.underlying86 rfl (by kernel_rfl) ?_);generalize hX:World.setRow _ _ _=Z;have bB:an Z (w.heap.size+1) 86 (bZ F):=hX▸bf.1.setRow _;have bl:Ext w Z:=hX▸bf.2.setRow (.inr ad) _;refine⟨rfl,.agg (bZ F),?_,?_⟩
   .exact results_cell_row rfl _ _ (w.heap.size+1) 86 (bZ F) (0,0) _ rfl bB Tryz.underlying86 rfl (by kernel_rfl)
   have hF:=aN.o;subst hF;exact⟨rfl,bl⟩
theorem wA(F:Nat->Bool){j:Nat}(a1:j<32)(w:World):(Instr.index 86 (.agg (bZ F)) (.int .i64 (j:Int))).run prog w=.ok (.bool (F j)) w:=by
 simp[Instr.index,run_underlying Tryz.underlying86,asIntOf,go_sem,a1,nV F a1]
theorem xx(w:World)(F G:Nat->Bool):∃r:Bool,(Op.equalIn 10000 86 (.agg (bZ F)) (.agg (bZ G))).run prog w=.ok r w/\(r=true↔∀i,i<32->F i=G i):=by
 have ap:∀F:Nat->Bool,prog.keyLits 5 86 (Value.agg (bZ F)).cells.toList=some ((List.range 32).map λi=>Lit.bool (F i)):=λF=>by kernel_rfl
 obtain⟨r,aY,H⟩:=run_equalIn_deep (P:=prog) 9998 2 86 (by kernel_rfl) w 5 5 (.agg (bZ F)) (.agg (bZ G)) _ _ (by kernel_rfl) (by kernel_rfl) (ap F) (ap G);refine⟨r,aY,H.trans ?_⟩;rw[List.map_inj_left];constructor
 .intro h i ak;have:=h i (List.mem_range.2 ak);injection this
 .intro h i ak;rw[h i (List.mem_range.1 ak)]
def Hi:Option Value->Bool
 | some (.bool b)=>b
 | _=>false
def Ch(w:World)(g:Nat):Nat:=(List.range 32).countP λi=>Hi (w.cell? ⟨g,i,none⟩)
theorem ti{f:Nat->Bool}(h:an w g 86 (bZ f)):Ch w g=(List.range 32).countP f:=by
 unfold Ch;refine List.countP_congr λi ak=>?_;rw[iL h (List.mem_range.1 ak)];rfl
theorem wW{f g:Nat->Bool}(hs:∀i,g i=true->f i=true){i:Nat}(ak:i<32)(ac:f i=true)(J:g i=false):(List.range 32).countP g<(List.range 32).countP f:=by
 have h:(List.range 32).countP f=(List.range 32).countP g+(List.range 32).countP λi=>f i && !g i:=by
  generalize List.range 32=l
  induction l with
  | nil=>rfl
  | cons x l aa=>
   simp only[List.countP_cons,aa];cases aA:f x<;>cases aM:g x<;>simp
   .have:=hs x aM;rw[aA] at this;cases this
   .omega
   .omega
 have:0<(List.range 32).countP λi=>f i && !g i:=List.countP_pos_iff.2 ⟨i,List.mem_range.2 ak,by simp[ac,J]⟩;omega
def h5(F:Nat->Bool)(k:Nat):List Int:=((List.range k).filter F).map Int.ofNat
theorem xr{k:Nat}:(h5 F k).length<=k:=by
 unfold h5;rw[Ib];refine Ir (List.length_filter_le _ _) ?_;simp
theorem wv{k:Nat}(h:F k=true):h5 F (k+1)=h5 F k++[(k:Int)]:=by
 unfold h5;rw[List.range_succ,List.filter_append,Ig];simp[h]
theorem rA{k:Nat}(h:F k=false):h5 F (k+1)=h5 F k:=by
 unfold h5;rw[List.range_succ,List.filter_append];simp[h]
theorem uJ{l:List Int}(hn:l.length<=32)(hF:∀i,i<32->(F i=true↔(i:Int)∈ni l))(hl:dJ l):h5 F 32=ni l:=by
 unfold h5;have ac:∀k,k<=32->k<=l.length->((List.range k).filter F).map Int.ofNat=oH l k:=by
  intro k
  induction k with
  | zero=>intro _ _;rfl
  | succ k aa=>
   intro n ap;have aa:=aa ad ad;have hm:=hF k ad;rw[kL hl] at hm;by_cases I:0<=ib l (l.length+1) (k:Int)
   .have ht:F k=true:=hm.2 ⟨ad,ad,ou hl ad (dI I ad)⟩;rw[CH I,<-aa];exact wv ht
   .have ht:F k=false:=by
     cases aA:F k with
     | false=>rfl
     | true=>exact absurd ((hm.1 aA).2.2 _) I
    rw[CG I,<-aa];exact rA ht
 have J:∀m,l.length+m<=32->((List.range (l.length+m)).filter F).map Int.ofNat=oH l l.length:=by
  intro m
  induction m with
  | zero=>intro h;exact ac _ h (Hx _)
  | succ m aa=>
   intro h;have ht:F (l.length+m)=false:=by
    cases aA:F (l.length+m) with
    | false=>rfl
    | true=>
     have:=(kL hl).1 ((hF _ ad).1 aA);omega
   rw[<-aa ad];exact rA (k:=l.length+m) ht
 have:=J (32 - l.length) ad;rw[show l.length+(32 - l.length)=32 by omega] at this;exact this
namespace Af
theorem jr(h:p:=by
 obtain⟨hlen,cM,z⟩:=h.len;have aD:=ai h hlen;clear h hlen;simp only at cM z;dsimp only[UV.val,SV.val];go_enter func15,ntmps15;go_upto_region 1 with(fail);generalize ba:World.alloc _ _=W;have aw:Ext w W:=ba▸(IK.alloc _).alloc _;have bH:an W w.heap.size 30 #[.slice GA gn gc,.slice MA mn mc,.slice PA pn pc,.int .i64 u.main]:=ba▸(IL).alloc _;have bJ:an W (w.heap.size+1) 45 #[.slice bE bM br,.slice TA tn tc,.slice HA hn hc,.int .i64 s.fault]:=ba▸an.fu _ _ _ (by simp);have ay:=bF aw bH bJ (aD.1.on aw);have cE:=bJ.lt;have hl:(da u s).length=hn:=by rw[ir];exact aD.2
 have bL:=ai hl (ui aD.1.hS);obtain⟨aI,aj,af⟩:=bH.two;obtain⟨be,am,aH⟩:=bJ.two;clear ba aw bH bJ hl;go_wp2_with(fail);refine(q5 u s N W ⟨GA,gn,gc,MA,mn,mc,PA,pn,pc⟩ ⟨bE,bM,br,TA,tn,tc,HA,hn,hc⟩ ay.2.2.2).mono ?_;rintro e aO ⟨A,c,rfl,_,b8,ag⟩;dsimp only at b8 ⊢;have H1:=ai b8 (ay.1.trans ag);generalize T:da u s=l at *;have aA:=ae T;clear T;clear aI aj af be am aH b8 ag;go_upto_region 3 with(fail);generalize hV:World.alloc _ _=V;have aJ:Ext aO V:=hV▸IK.alloc _;have aQ:an V aO.heap.size 86 (bZ λ_=>false):=hV▸IL;have cG:=aQ.lt;have ce:=ai aJ aQ;clear hV aJ aQ;have au:min (hn:Int) 32=(hn:Int):=ad;go_wp2_with(fail);clear au;go_loopw [18] (λci wr=>∃k:Nat,ci=.int .i64 k/\k<=hn/\an wr aO.heap.size 86 (bZ λi=>decide (i<k))/\Fr (λb=>b=aO.heap.size) V wr) (λci _=>hn - (intOf ci).toNat)
 case atStart=>exact⟨0,rfl,ad,by simpa using ce.2,IK⟩
 case round=>
  obtain⟨k,rfl,ap,aS,hF⟩:=hrel;have a7:=ai aS hF;have hs:=hF.size;clear aS hF;by_cases al:k<hn
  .have bP:(k:Int)<(hn:Int):=ad;have ar:(k:Int)<32:=ad;have o1:=iL (k:=k) a7.1 ad;have av:=a7.1.two.2.1;have aq:=a7.1.lt;go_upto_region 7 with(fail);generalize hX:World.setCell _ _ _=X;have bQ:an X aO.heap.size 86 (bZ λi=>decide (i<k+1)):=by
    have he:(bZ λi=>decide (i<k+1))=bZ λi=>if i=k then true else decide (i<k):=by
     rw[j4];intro i _;by_cases ak:i=k
     .subst ak;simp
     .simp only[if_neg ak];congr 1
      simp;omega
    rw[<-hX,he,<-sc];exact a7.1.aI k _
   have bh:Fr (λb=>b=aO.heap.size) V X:=hX▸a7.2.setCell (.inl rfl) _;exact D4
  .have bP:¬(k:Int)<(hn:Int):=ad;have aQ:=a7.1;have h0:(bZ λi=>decide (i<k))=bZ (cy l 0):=by
    rw[j4];intro i _;have:=bL.1;unfold cy;rw[show ib l 0 (i:Int)=(i:Int) from rfl,decide_eq_true (show 0<=(i:Int) by omega),Bool.and_true];congr 1
    simp;omega
   rw[h0] at aQ;clear h0 al;have K:Ext aO wr:=Fr.low (M:=λb=>b=aO.heap.size) (Fr.trans (Fr.mono ce.1 λ_ h=>h.elim) a7.2) λb O=>ad;have a8:=aL K aQ (H1.1.dh (Fr.ext K) K.size);have cr:=K.size;have ao:=a7.2;clear K aQ a7;have aQ:=a8.2.1;go_wp2_with(refine wpList_load_row rfl 86 _ rfl aO.heap.size rfl 86 (bZ (cy l 0)) (0,0) _ aQ Tryz.underlying86 rfl (by kernel_rfl) ?_);refine(k6 A hn c l (cy l 0) wr a8.2.2 bL.2 z).mono ?_;rintro e aT ⟨rfl,aJ⟩;rw[show jc l (cy l 0)=cy l 1 from funext λt=>mq bL.2 0 t];have a3:=ai aJ (aQ.aj aJ);have b6:=ae (ao.trans (aJ.mono λ_ h=>h.elim));clear aQ aJ ao;have bz:=a3.1.size;have b1:=sX aT (cy l 1);go_upto_region 9 with(fail);generalize hX:World.alloc _ _=X;have aG:Ext aT X:=hX▸IK.alloc _;have Z:an X aT.heap.size 86 (bZ (cy l 1)):=hX▸IL;have aV:=aL aG (a3.2.aj aG) Z;have b9:=aG.size;clear hX aG Z b1;go_loopw [8] (λeu bD=>∃(m P:Nat),eu=.pointer (some ⟨P,0,none⟩)/\an bD P 86 (bZ (cy l (m+1)))/\an bD aO.heap.size 86 (bZ (cy l m))/\aO.heap.size<P/\Fr (λb=>b=aO.heap.size) V bD) (λ_ bD=>Ch bD aO.heap.size)
   case atStart=>exact⟨0,aT.heap.size,rfl,aV.2.2,aV.2.1,ad,b6.trans (aV.1.mono λ_ h=>h.elim)⟩
   case round=>
    obtain⟨m,P,rfl,cK,aQ,aB,hF⟩:=hrel;have y:=cK.lt;obtain⟨r,aY,H⟩:=xx wr (cy l (m+1)) (cy l m);have c6:=ae H;have bG:=aL cK aQ hF;have aE:=hF.size;clear H hF
    cases r with
    | true=>
     go_wp2_with(first
      | refine wpList_load_row rfl 86 _ rfl P rfl 86 (bZ (cy l (m+1))) (0,0) _ cK Tryz.underlying86 rfl (by kernel_rfl) ?_
      | refine wpList_load_row rfl 86 _ rfl aO.heap.size rfl 86 (bZ (cy l m)) (0,0) _ aQ Tryz.underlying86 rfl (by kernel_rfl) ?_)
     clear aY;have G:∀i,i<32->(cy l m i=true↔(i:Int)∈ni l):=λi ak=>by
      have b1:=c6.1 (by simp);rcases Nat.lt_or_ge i l.length with ac|ac
      .exact xy bL.2 (λt ht=>b1 t (aC bL.1)) ac
      .rw[kL bL.2];unfold cy;rw[decide_eq_false ad];constructor
       .intro h;cases h
       .intro h;omega
     have bV:=ae (uJ (aC bL.1) G bL.2);have U:=ae (show Ext aO wr from Fr.low (M:=λb=>b=aO.heap.size) (Fr.trans (Fr.mono ce.1 λ_ h=>h.elim) bG.2.2) λb O=>ad);clear G c6 cK aQ;generalize cy l m=F at *;go_loopw [9,36] (λv ci az=>∃j:Nat,ci=.int .i64 j/\j<=32/\az.ownsRow wr.heap.size 3 1 v (h5 F j).length ((h5 F j).flatMap cD)/\Below wr.heap.size wr az) (λ_ ci _=>32 - (intOf ci).toNat)
     case atStart=>exact⟨0,rfl,ad,World.ownsRow_nil _ _ _ _,Below.refl _ _⟩
     case round=>
      obtain⟨j,rfl,a1,I,O⟩:=hrel;have cb:=O.size;have b7:=xr (F:=F) (k:=j);have bX:=aL (wv (F:=F) (k:=j)) (rA (F:=F) (k:=j)) (λh:j=32=>show h5 F j=h5 F 32 by rw[h]);generalize h5 F j=D at *;have cL:=ai I O;by_cases al:j<32
      .have bP:(j:Int)<32:=ad;cases hFj:F j
       case true=>
        have bs:=ae (bX.1 hFj);have L:=λW=>(wA F al W).trans (by rw[hFj]);clear hFj bX;go_wp2_with(at_builtin;refine cI _ dT (by rfl) (.tmp 41) (.tmp 43) (by rfl) _ _ _ _ _ (by rfl) I (by rfl) (by rfl) (mg _ _) ad ad cb ?_;intro v1 eG E bT cm);go_roundw
        case rel=>exact⟨j+1,by go_num,ad,by rw[bs.o,Hz,iD];exact E,eL O I bT (Hx _) cb⟩
        case measure=>exact aF
       case false=>
        have bs:=ae (bX.2.1 hFj);have L:=λW=>(wA F al W).trans (by rw[hFj]);clear hFj bX I O;go_wp2_with(fail);go_roundw
        case rel=>exact⟨j+1,by go_num,ad,by rw[bs.o];exact cL.1,cL.2⟩
        case measure=>exact aF
      .have bP:¬(j:Int)<32:=ad;have eK:=ae (bX.2.2 ad);clear al bX I O;go_wp2_with(fail);go_ret;rw[aA.o,<-bV.o,<-eK.o];exact⟨j1.own rfl cL.1 (H1.2.trans (U.trans (Fr.of cL.2))),λb o n c he=>by
        obtain⟨cF,c1,bC,_,_,_,bq⟩:=bI cL.1;injection he with he;rw[bC] at he;injection he with e1 e2 e3;obtain⟨g,aM,O,_⟩:=bq _ e1;injection aM with aM _;have:=(H1.2.trans U.o).size
        omega⟩
    | false=>
     go_upto_region 11 with(first
      | refine wpList_load_row rfl 86 _ rfl P rfl 86 (bZ (cy l (m+1))) (0,0) _ cK Tryz.underlying86 rfl (by kernel_rfl) ?_
      | refine wpList_load_row rfl 86 _ rfl aO.heap.size rfl 86 (bZ (cy l m)) (0,0) _ aQ Tryz.underlying86 rfl (by kernel_rfl) ?_)
     clear aY;have b1:=rG aQ (cy l (m+1))
     go_upto_region 12 with(first
      | refine wpList_load_row rfl 86 _ rfl P rfl 86 (bZ (cy l (m+1))) (0,0) _ cK Tryz.underlying86 rfl (by kernel_rfl) ?_
      | refine wpList_load_row rfl 86 _ rfl aO.heap.size rfl 86 (bZ (cy l m)) (0,0) _ aQ Tryz.underlying86 rfl (by kernel_rfl) ?_)
     clear b1;generalize hX:World.setRow _ _ _=X;have R:an X aO.heap.size 86 (bZ (cy l (m+1))):=hX▸aQ.setRow _;have bh:Fr (λb=>b=aO.heap.size) wr X:=hX▸(Fr.refl (λb=>b=aO.heap.size) wr).setRow (.inl rfl) _;have Q:=cK.on bh ad;have b9:=bh.size;have b1:=sX X (cy l (m+1));clear hX cK aQ;go_upto_region 10 with(refine wpList_load_row rfl 86 _ rfl P rfl 86 (bZ (cy l (m+1))) (0,0) _ Q Tryz.underlying86 rfl (by kernel_rfl) ?_);clear b1 Q;generalize ca:World.alloc _ _=Y;have bt:Ext X Y:=ca▸IK.alloc _;have bk:an Y X.heap.size 86 (bZ (cy l (m+1))):=ca▸IL;have J:=R.aj bt;have S:=(bG.2.2.trans bh).trans (bt.mono λ_ h=>h.elim);have aa:Ext aO Y:=Fr.low (M:=λb=>b=aO.heap.size) (Fr.trans (Fr.mono ce.1 λ_ h=>h.elim) S) λb O=>ad;have bY:=bF bk J S aa;clear ca bt bk R S bh aa;go_wp2_with(refine wpList_load_row rfl 86 _ rfl aO.heap.size rfl 86 (bZ (cy l (m+1))) (0,0) _ J Tryz.underlying86 rfl (by kernel_rfl) ?_);refine(k6 A hn c l (cy l (m+1)) Y (H1.1.dh (Fr.ext bY.2.2.2) bY.2.2.2.size) bL.2 z).mono ?_;rintro e b4 ⟨rfl,aG⟩;rw[show jc l (cy l (m+1))=cy l (m+1+1) from funext λt=>mq bL.2 (m+1) t];have bO:=bY.1.aj aG;have b1:=rG bO (cy l (m+1+1));have bl:=aL bO (bY.2.1.aj aG) (bY.2.2.1.trans (aG.mono λ_ h=>h.elim));have cx:=aG.size;clear bO aG J;go_wp2_with(fail);clear b1;have cj:an (b4.setRow X.heap.size (bZ (cy l (m+1+1)))) aO.heap.size 86 (bZ (cy l (m+1))):=bl.2.1.on (M:=λb=>b=X.heap.size) ((Fr.refl (λb=>b=X.heap.size) b4).setRow (.inl rfl) _) ad;have cH:=ae cj
     clear cj;go_roundw
     case rel=>exact⟨m+1,X.heap.size,rfl,bl.1.setRow _,cH.o,ad,bl.2.2.setRow (.inr ad) _⟩
     case measure=>
      rw[ti cH.o,ti bG.2.1];have aZ:∃i,i<32/\cy l (m+1) i≠cy l m i:=Classical.byContradiction λh=>by
       have:=c6.2 λi ak=>Classical.byContradiction λbp=>h ⟨i,ak,bp⟩;cases this
      obtain⟨i,ak,bp⟩:=aZ;have ac:cy l m i=true:=by
       cases hm:cy l m i with
       | true=>rfl
       | false=>
        cases cl:cy l (m+1) i with
        | false=>rw[hm,cl] at bp;exact absurd rfl bp
        | true=>rw[sZ cl] at hm;cases hm
      exact wW (λi=>sZ) ak ac (by cases cl:cy l (m+1) i with
       | false=>rfl
       | true=>rw[cl,ac] at bp;exact absurd rfl bp)
 ):p:=h
end Af
open Af in
theorem xi(u:ax)(s:ah)(N:Nat)(w:World)(p:UV)(q:SV)(h:qV u s N w p q) :
  Calls prog 15 #[.agg (p.val u),.agg (q.val s)] w λe ab=>j1 w (ni (da u s)) e ab/\∀b o n c,e=.returned (.slice (some ⟨b,o,none⟩) n c)->w.heap.size<=b:=by
 exact jq
theorem mdead(u:ax)(s:ah)(N:Nat)(w:World)(p:UV)(q:SV)(h:qV u s N w p q) :
  Calls prog 15 #[.agg (p.val u),.agg (q.val s)] w (j1 w (ni (da u s))):=
 (xi u s N w p q h).mono λ_ _ h=>h.1
end Go.Proofs.YtajlmkkidmjgoaaGreatDoor

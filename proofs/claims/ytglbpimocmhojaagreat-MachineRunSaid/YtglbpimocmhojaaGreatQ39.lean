/- Part 39 of the proof. No condition of its own. -/
import Derived.Test.YtglbpimocmhojaaGreatQ14
import Derived.Test.YtglbpimocmhojaaGreatQ32
namespace Go.Proofs.YtglbpimocmhojaaGreat
open Go.RowKit Go.Proofs.Tryz
set_option maxRecDepth 1000000
set_option maxHeartbeats 25600000
set_option linter.unusedVariables false
variable{V:Lq}{l:List D}{cs:List Value}{bc g left n s:Nat}{M P:Nat->Prop}{A N:Lp}{p:Prop}{t:TypeId}{ab w:World}
theorem fZ.fr(h:fZ s w ab):Fr (λb=>b=s) w ab:=⟨h.os,h.tape,h.output,h.size,h.block⟩
theorem dU{X V:World}{cs:Array Value}(vs:List Value)(hs:cs.size=vs.length)(aR:aq V g t cs)(aw:Fr M w V)(a2:w.heap.size<=g)(hX:rr g V 0 vs=X):
  aq X g t vs.toArray/\Fr M w X/\Fr (λb=>b=g) V X:=by
 subst hX;have J:=mz (g:=g) vs 0 V;refine⟨?_,aw.eN (J.below aw.size λk ap h=>ad),J⟩;have ac:=kW vs 0 V cs aR;have au:iZ cs 0 vs=vs.toArray:=by
  apply Array.toList_inj.1
  rw[l7 vs 0 cs ad];simp;omega
 rwa [au] at ac
theorem cm.cO{c:Nat}{l:List Int}(h:cm w s A n c l)(O:Fr M w ab)(hM:∀b,b<=s->¬M b):cm ab s A n c l:=
 h.HP (g:=s+1) (O.below h.lt λk ap=>hM k ad) ad
theorem Sl.Dy{aS aT:World}(h:Sl aS (fresh w aS) A n l)(O:Fr M aS aT)(hM:∀b,M b->b<w.heap.size):Sl aT (fresh w aT) A n l:=
 (h.ak λb bS=>O.block b bS.2 λhm=>by have:=hM b hm;have:=bS.1;omega).mono λb bS=>⟨bS.1,KE bS.2 O.size⟩
theorem Sl.sQ(aR:aq w g t cs.toArray)(a5:D.aQ w P l cs)(aZ:P g)(hl:l.length=n):Sl w P (some ⟨g,0,none⟩) n l:=
 ⟨hl,λ_=>⟨g,0,cs,rfl,aZ,a5,λj u bi=>by rw[KV,aR.cell];simpa using bi⟩⟩
def tm(w:World)(s:Nat)(A:Lp)(n c:Nat)(l:List Int)(V:Lq)(d:Nat)(e:Ending)(ab:World):Prop:=
 ∃(x:VE) (cA:Lp) (cj cF:Nat),e=.returned (.agg #[.int .i64 x.a9,.int .i64 x.numOf,.string x.bu,.slice cA cj cF])/\x.src V d/\cj<=cF/\Sl ab (fresh w ab) cA cj (x.args.map bk)/\cm ab s A n c l/\Fr (λb=>b=s) w ab
def m3(w:World)(s:Nat)(V:Lq)(N:Lp)(bc:Nat):Prop:=Sl w (off (λb=>b=s) w) N bc (V.map .s)
theorem m3.on(h:m3 w s V N bc)(O:Fr (λb=>b=s) w ab):m3 ab s V N bc:=Sl.c8 h O
theorem uB(w:World)(s:Nat)(A:Lp)(n c:Nat)(l:List Int)(V:Lq)(N:Lp)(bc aa:Nat)(d:Nat)(hd:d<=5)(b6:bc<=1000)(h:cm w s A n c l)(hN:m3 w s V N bc)
  (ax:d≠0->∀aT:World,cm aT s A n c l->m3 aT s V N bc->Calls prog 121 #[.pointer (some ⟨s,0,none⟩),.slice N bc aa,.int .i64 ((d:Int) - 1)] aT (tm aT s A n c l V (d - 1))) :
  Calls prog 121 #[.pointer (some ⟨s,0,none⟩),.slice N bc aa,.int .i64 d] w (tm w s A n c l V d):=by
 have cq:=ae ax;have cf:=h.lt;have L:=ah h hN;clear ax h hN;go_enter func121,ntmps121;go_wp2_with(fail);generalize ba:World.alloc _ _=W;have aw:=aX ba;have aR:aq W w.heap.size 53 #[.int .i64 0,.int .i64 0,.string ⟨#[]⟩,.slice none 0 0]:=ba▸aq.gz _ _ _ rfl;have aB:Fr (λb=>b=s) w W:=aw.mono λ_ h=>h.elim;have ag:=cK (L.1.cO aw λ_ _ h=>h) (L.2.on aB) aB aR cf;clear ba aw aR aB L;refine(a2 _ s A n c l 10 ag.1 ad ad).mono ?_;rintro e aS ⟨cv,rfl,a3,bS,h,he⟩;have H1:=ah h he.fr;have m:=ah a3 bS;clear h he;have bZ:w.heap.size<W.heap.size:=ag.2.2.2.1.lt;have cp:W.heap.size<=aS.heap.size:=H1.2.size;by_cases f:((d:Int) == 0)=true\/((d:Int) == 0)=false/\decide (cv<2)=true
 .clear cq m a3 bS;rcases f with bp|⟨bp,dA⟩
  all_goals
   by_cases aM:0<bc
   .have b8:decide ((0:Int)<(bc:Int))=true:=by simp;omega
    go_wp2_with(fail);refine(a2 _ s A n c l 2 H1.1 ad ad).mono ?_;rintro e aT ⟨bO,rfl,G,bg,h,he⟩;have bJ:=ah h (H1.2.trans he.fr);clear h he;by_cases cN:bO=1
    .have bF:(bO == 1)=true:=by simpa using cN
     clear cN G bg;go_wp2_with(fail);refine(a2 _ s A n c l bc bJ.1 ad ad).mono ?_;rintro e bX ⟨cV,rfl,R,co,h,he⟩;have bW:=ah h (bJ.2.trans he.fr);clear h he;obtain⟨j,rfl⟩:=KI R;obtain⟨b,o,nm,cs,rfl,O,hm,a5,hl,hc⟩:=Sl.g0 (enc:=D.s) (z:=1) (ag.2.1.on bW.2) (λ_=>rfl) (k:=j) ad;have I:cs=[.string nm]:=by simpa only[D.rep] using a5
     subst I;have c0:=hc 0 _ rfl;simp only[Nat.mul_one,KN] at c0;have b7:=ag.2.2.2.1.on bW.2 (λh=>by have:=ag.2.2.2.2;omega);have aI:=ae b7;obtain⟨e0,a6,aP⟩:=b7.two;have aj:=ae (KG hm);clear a5 hl hc hm b7;go_wp2_with(fail);generalize ct:World.setCell _ _ _=Y;obtain⟨bE,bG,bH⟩:=dU (M:=λb=>b=s) [.int .i64 2,.int .i64 0,.string nm,.slice none 0 0] (by rfl) aI.o (ag.2.2.1.trans bW.2) (KD _) ct;obtain⟨bl,aA,aO⟩:=bE.two;refine Lk (v:=.agg #[.int .i64 2,.int .i64 0,.string nm,.slice none 0 0]) (by simp[results,Tryz.results121,go_sem,bl]) rfl ?_;exact⟨.g1 nm,none,0,0,rfl,(by cases d<;>exact aj.o),KD _,Sl.bN _,bW.1.cO bH (λb O h=>by have:=ag.2.2.2.2;omega),bG⟩
    .have bF:(bO == 1)=false:=by simpa using cN
     clear cN G bg;go_wp2_with(fail);refine(p5 _ s A n c l bJ.1).mono ?_;rintro e bX ⟨cV,rfl,R,co,h,he⟩;have bW:=ah h (bJ.2.trans he.fr);exact F6
   .obtain rfl:bc=0:=ad;go_wp2_with(fail);refine(p5 _ s A n c l H1.1).mono ?_;rintro e bX ⟨cV,rfl,R,co,h,he⟩;have bW:=ah h (H1.2.trans he.fr);exact F6
 have ay:d≠0:=λh=>f (.inl (by simp[h]));have bp:((d:Int) == 0)=false:=by simp;omega
 have dA:decide (cv<2)=false:=by
  have:¬(decide (cv<2)=true):=λh=>f (.inr ⟨bp,h⟩);simpa using this
 have F:wrap64 ((d:Int) - 1)=(d:Int) - 1:=IntWalk.wrap64_in _ ad;have cw:=ae ay;have r:=ah bZ cp;clear f ay;by_cases bj:cv<4
 .obtain aL|aL:cv=2\/cv=3:=by simp at dA;omega
  all_goals
   subst aL;clear bj a3 bS m dA cp bZ;go_wp2_with(fail);refine(cq.o cw.o _ H1.1 (ag.2.1.on H1.2)).mono ?_;rintro e aT ⟨x,cA,cj,cF,rfl,hx,aN,ca,h,he⟩;have bJ:=ah h (H1.2.trans he);have aQ:=bL hx aN ca he;have b7:=ag.2.2.2.1.on bJ.2 (λh=>by have:=ag.2.2.2.2;omega);have aI:=ae b7;obtain⟨e0,a6,aP⟩:=b7.two;clear h he hx aN ca b7;go_wp2_with(fail);generalize ct:World.setCell _ _ _=Y;have cE:Y.heap.size=aT.heap.size:=by rw[<-ct];simp
   obtain⟨bE,bG,bH⟩:=dU (M:=λb=>b=s) [.int .i64 _,.int .i64 0,.string ⟨#[]⟩,.slice (some ⟨aT.heap.size,0,none⟩) 1 1] (by rfl) aI.o (ag.2.2.1.trans bJ.2) (KD _) ct;generalize bI:World.alloc _ _=Z;have bh:=bE.alloc (.cells #[.int .i64 x.a9,.int .i64 x.numOf,.string x.bu,.slice cA cj cF] 53);rw[bI] at bh;have g:aq Z aT.heap.size 53 #[.int .i64 x.a9,.int .i64 x.numOf,.string x.bu,.slice cA cj cF]:=bI▸aq.gz _ _ _ cE.symm;have a9:Fr (λb=>b=s) w Z:=bI▸bG.alloc _;have bd:Fr (λb=>b=w.heap.size) aT Z:=bI▸bH.alloc _;obtain⟨bl,aA,aO⟩:=bh.two;obtain⟨hx,aN,ca,he⟩:=aQ.o;have cn:=ag.2.2.2.2;obtain⟨bZ,cp⟩:=r.o;have bC:=he.size;have bm:=g.lt;refine Lk (v:=.agg #[.int .i64 _,.int .i64 0,.string ⟨#[]⟩,.slice (some ⟨aT.heap.size,0,none⟩) 1 1]) (by simp[results,Tryz.results121,go_sem,bl];rfl) rfl ?_;have i:Sl Z (fresh w Z) cA cj (x.args.map bk):=(ca.ak λb O=>bd.block b O.2 (aC O.1)).mono λb O=>⟨by have:=O.1;omega,KE O.2 bd.size⟩
   refine⟨.un _ x,some ⟨aT.heap.size,0,none⟩,1,1,rfl,?_,KD _,Sl.sQ g (D.bj.2 (a1.2 ⟨cA,cj,cF,rfl,aN,i⟩)) ⟨ad,bm⟩ rfl,bJ.1.cO bd (λb O h=>ad),a9⟩;have:=cw.o;obtain⟨d2,rfl⟩:∃d2,d=d2+1:=⟨d - 1,ad⟩
   exact⟨by decide,hx⟩
 have dX:decide (cv<4)=false:=by simpa using bj
 clear a3 bS bj cp bZ;go_wp2_with(fail);refine(a2 _ s A n c l 13 H1.1 ad ad).mono ?_;rintro e aT ⟨bO,rfl,G,bg,h,he⟩;have bJ:=ah h (H1.2.trans he.fr);have bN:=he.size;clear h he;have H:wrap64 (5+bO)=5+bO:=IntWalk.wrap64_in _ ad;have bM:=ae (show 5<=5+bO/\5+bO<=17 by omega);have u:=ae bN;clear G bg bN dA dX;go_wp2_with(fail);refine(cq.o cw.o _ bJ.1 (ag.2.1.on bJ.2)).mono ?_;rintro e bX ⟨x,cA,cj,cF,rfl,hx,aN,ca,h,he⟩;have bW:=ah h (bJ.2.trans he);have aQ:=bL hx aN ca he;clear h he hx aN ca;go_wp2_with(fail);refine(cq.o cw.o _ bW.1 (ag.2.1.on bW.2)).mono ?_;rintro e cL ⟨y,cX,da,db,rfl,hx,aN,ca,h,he⟩;have bY:=ah h (bW.2.trans he);have bB:=bL hx aN ca he;have b7:=ag.2.2.2.1.on bY.2 (λh=>by have:=ag.2.2.2.2;omega);have aI:=ae b7;obtain⟨e0,a6,aP⟩:=b7.two;clear h he hx aN ca b7;go_wp2_with(fail);generalize ct:World.setCell _ _ _=Y;have cE:Y.heap.size=cL.heap.size:=by rw[<-ct];simp
 obtain⟨bE,bG,bH⟩:=dU (M:=λb=>b=s) [.int .i64 (5+bO),.int .i64 0,.string ⟨#[]⟩,.slice (some ⟨cL.heap.size,0,none⟩) 2 2] (by rfl) aI.o (ag.2.2.1.trans bY.2) (KD _) ct;generalize bI:World.alloc _ _=Z;have bh:=bE.alloc (.cells #[.int .i64 x.a9,.int .i64 x.numOf,.string x.bu,.slice cA cj cF,.int .i64 y.a9,.int .i64 y.numOf,.string y.bu,.slice cX da db] 53);rw[bI] at bh;have g:aq Z cL.heap.size 53 #[.int .i64 x.a9,.int .i64 x.numOf,.string x.bu,.slice cA cj cF,.int .i64 y.a9,.int .i64 y.numOf,.string y.bu,.slice cX da db]:=bI▸aq.gz _ _ _ cE.symm;have a9:Fr (λb=>b=s) w Z:=bI▸bG.alloc _;have bd:Fr (λb=>b=w.heap.size) cL Z:=bI▸bH.alloc _;obtain⟨bl,aA,aO⟩:=bh.two;obtain⟨hx,aN,ca,he⟩:=aQ.o;obtain⟨bb,dc,cR,bw⟩:=bB.o;have cn:=ag.2.2.2.2;obtain⟨bZ,cp⟩:=r.o;have bN:=u.o;have bC:=he.size;have bD:=bw.size;have bm:=g.lt;refine Lk (v:=.agg #[.int .i64 (5+bO),.int .i64 0,.string ⟨#[]⟩,.slice (some ⟨cL.heap.size,0,none⟩) 2 2]) (by simp[results,Tryz.results121,go_sem,bl]) rfl ?_;have i:Sl Z (fresh w Z) cA cj (x.args.map bk):=(ca.ak λb O=>(bd.block b (aC O.2) (aC O.1)).trans (bw.block b O.2 (aC O.1))).mono λb O=>⟨by have:=O.1;omega,by have:=O.2;omega⟩
 have t:Sl Z (fresh w Z) cX da (y.args.map bk):=(cR.ak λb O=>bd.block b O.2 (aC O.1)).mono λb O=>⟨by have:=O.1;omega,by have:=O.2;omega⟩
 refine⟨.bin (5+bO) x y,some ⟨cL.heap.size,0,none⟩,2,2,rfl,?_,KD _,Sl.sQ g (gP.2 ⟨_,_,rfl,a1.2 ⟨cA,cj,cF,rfl,aN,i⟩,D.bj.2 (a1.2 ⟨cX,da,db,rfl,dc,t⟩)⟩) ⟨ad,bm⟩ rfl,bY.1.cO bd (λb O h=>ad),a9⟩;have:=cw.o;obtain⟨d2,rfl⟩:∃d2,d=d2+1:=⟨d - 1,ad⟩
 exact⟨bM.o,hx,bb⟩
theorem oS(s:Nat)(A:Lp)(n c:Nat)(l:List Int)(V:Lq)(N:Lp)(bc aa:Nat)(b6:bc<=1000):∀(d:Nat),d<=5->∀(w:World),cm w s A n c l->m3 w s V N bc->
  Calls prog 121 #[.pointer (some ⟨s,0,none⟩),.slice N bc aa,.int .i64 d] w (tm w s A n c l V d)
 | 0,hd,w,h,hN=>uB w s A n c l V N bc aa 0 hd b6 h hN (λh=>absurd rfl h)
 | d+1,hd,w,h,hN=>uB w s A n c l V N bc aa (d+1) hd b6 h hN (λ_ aT au a=>by
   have:=oS s A n c l V N bc aa b6 d ad aT au a;rw[show ((d+1:Nat):Int) - 1=d by omega];exact this)
structure kj where
 s:Nat
 wb:Nat
 A:Option Addr
 n:Nat
 c:Nat
 l:List Int
 GA:Option Addr
 gn:Nat
 gc:Nat
 MA:Option Addr
 mn:Nat
 mc:Nat
 FA:Option Addr
 fn:Nat
 fc:Nat
 M:List bG
 F:List aJ
 ar:Bool
abbrev kj.MW(p:kj):Nat->Prop:=λb=>b=p.s\/b=p.wb
structure gw(w:World)(p:kj)(left:Nat):Prop where
 src:cm w p.s p.A p.n p.c p.l
 blk:aq w p.wb 125 #[.pointer (some ⟨p.s,0,none⟩),.slice p.GA p.gn p.gc,.slice p.MA p.mn p.mc,.slice p.FA p.fn p.fc,.int .i64 left,.bool p.ar]
 ne:p.s<p.wb
 ms:Sl w (off p.MW w) p.MA p.mn (p.M.map ey)
 fs:Sl w (off p.MW w) p.FA p.fn (p.F.map dr)
 nm:1<=p.mn/\p.mn<=4
 nf:1<=p.fn/\p.fn<=4
 fx:∀m∈p.M,0<=m.size/\m.size<=3
 jy:∀f∈p.F,f.params.length<=2
 kA:left<=24
theorem gw.next{p:kj}(h:gw w p left)(hs:cm ab p.s p.A p.n p.c p.l)(O:Fr (λb=>b=p.s) w ab):gw ab p left:=
 ⟨hs,h.blk.on O (aC h.ne),h.ne,Sl.c8 h.ms (O.mono λ_ h=>.inl h),Sl.c8 h.fs (O.mono λ_ h=>.inl h),h.nm,h.nf,h.fx,h.jy,h.kA⟩
theorem gw.ai{p:kj}(h:gw w p left)(O:Ext w ab):gw ab p left:=h.next (h.src.cO O λ_ _ h=>h) (O.mono λ_ h=>h.elim)
theorem m3.ai(h:m3 w s V N bc)(O:Ext w ab):m3 ab s V N bc:=h.on (O.mono λ_ h=>h.elim)
theorem iK{V:Lq}:∀(d:Nat) (x:VE),x.src V d->x.src V (d+1)
 | d,.num _,h=>by cases d<;>exact h
 | d,.g1 _,h=>by cases d<;>exact h
 | d,.loc _,h=>by cases d<;>exact h.elim
 | d,.iB _,h=>by cases d<;>exact h.elim
 | 0,.un _ _,h=>h.elim
 | 0,.bin _ _ _,h=>h.elim
 | d+1,.un _ x,h=>⟨h.1,iK d x h.2⟩
 | d+1,.bin _ x y,h=>⟨h.1,iK d x h.2.1,iK d y h.2.2⟩
namespace Bo
theorem z2(h:p:=by
 refine Lk (v:=.agg #[.int .i64 x.a9,.int .i64 x.numOf,.string x.bu,.slice cA cj cF]) (by simp[results,Tryz.results120,go_sem,bl]) rfl ?_;obtain⟨hx,aN,ca,cp,bN⟩:=aQ.o;have bS:=H1.2.2.2.lt;exact⟨x,cA,cj,cF,rfl,iK 1 x hx,aN,(ca.ak λb O=>bH.block b O.2 (aC O.1)).mono λb O=>⟨by have:=O.1;omega,KE O.2 bH.size⟩,bJ.1.cO bH (λb O h=>ad),bG⟩
 ):p:=h
theorem Ag(h:p:=by
 cases ar with
 | false=>
  go_wp2_with(fail);refine(a2 _ s A n c l sz ag.1.src ac ad).mono ?_;rintro e aS ⟨cv,rfl,a3,bS,h,he⟩;have aR:=ag.2.2.2.on he.fr ad;have H1:=ah h (ag.2.2.1.trans he.fr);have c5:=ah a3 bS;obtain⟨e0,a6,aP⟩:=aR.two;have b1:=ae aR;clear a0 ai af h he aR a3 bS;go_wp2_with(fail);generalize ct:World.setCell _ _ _=Y;obtain⟨bE,bG,bH⟩:=dU (M:=λb=>b=s) [.int .i64 1,.int .i64 cv,.string ⟨#[]⟩,.slice none 0 0] (by rfl) b1.o H1.2 (KD _) ct;obtain⟨bl,aA,aO⟩:=bE.two;refine Lk (v:=.agg #[.int .i64 1,.int .i64 cv,.string ⟨#[]⟩,.slice none 0 0]) (by simp[results,Tryz.results120,go_sem,bl]) rfl ?_
  exact⟨.num cv,none,0,0,rfl,⟨c5.1,by have:=c5.2;omega⟩,KD _,Sl.bN _,H1.1.cO bH (λb O h=>ad),bG⟩
 | true=>
  go_wp2_with(fail);refine(a2 _ s A n c l 3 ag.1.src ad ad).mono ?_;rintro e aS ⟨cv,rfl,a3,bS,h,he⟩;have aR:=ag.2.2.2.on he.fr ad;have H1:=bL (ag.1.next h he.fr) (ag.2.1.on he.fr) (ag.2.2.1.trans he.fr) aR;clear a0 ai af h he aR ag;obtain⟨a0,ai,af⟩:=H1.1.blk.two;by_cases ap:cv=1
  .have q:(cv == 1)=true:=by simpa using ap
   clear ap a3 bS;go_wp2_with(fail);refine(oS s A n c l V N bc aa b6 1 ad aS H1.1.src H1.2.1).mono ?_;rintro e aT ⟨x,cA,cj,cF,rfl,hx,aN,ca,h,he⟩;have aR:=H1.2.2.2.on he ad;have bJ:=ah h (H1.2.2.1.trans he);have aQ:=cK hx aN ca he.size H1.2.2.1.size;exact A4
  .have q:(cv == 1)=false:=by simpa using ap
   clear ap a3 bS;go_wp2_with(fail);refine(a2 _ s A n c l sz H1.1.src ac ad).mono ?_;rintro e aT ⟨bO,rfl,G,bg,h,he⟩;have aR:=H1.2.2.2.on he.fr ad;have bJ:=ah h (H1.2.2.1.trans he.fr);have c5:=ah G bg;obtain⟨e0,a6,aP⟩:=aR.two;have b1:=ae aR;clear a0 ai af h he aR G bg;go_wp2_with(fail);generalize ct:World.setCell _ _ _=Y;obtain⟨bE,bG,bH⟩:=dU (M:=λb=>b=s) [.int .i64 1,.int .i64 bO,.string ⟨#[]⟩,.slice none 0 0] (by rfl) b1.o bJ.2 (KD _) ct;obtain⟨bl,aA,aO⟩:=bE.two;refine Lk (v:=.agg #[.int .i64 1,.int .i64 bO,.string ⟨#[]⟩,.slice none 0 0]) (by simp[results,Tryz.results120,go_sem,bl]) rfl ?_;exact⟨.num bO,none,0,0,rfl,⟨c5.1,by have:=c5.2;omega⟩,KD _,Sl.bN _,bJ.1.cO bH (λb O h=>ad),bG⟩
 ):p:=h
end Bo
open Bo in
theorem yj(p:kj)(left:Nat)(V:Lq)(N:Lp)(bc aa:Nat)(sz:Int)(ac:0<sz)(au:sz<=3)(w:World)(h:gw w p left)(hN:m3 w p.s V N bc)(b6:bc<=1000) :
  Calls prog 120 #[.pointer (some ⟨p.wb,0,none⟩),.slice N bc aa,.int .i64 sz] w (tm w p.s p.A p.n p.c p.l V 2):=by
 obtain⟨s,wb,A,n,c,l,GA,gn,gc,MA,mn,mc,FA,fn,fc,M,F,ar⟩:=p;have H:=ah h hN;have ak:=h.blk.lt;have cf:=h.src.lt;simp only at ak cf;clear h hN;go_enter func120,ntmps120;exact Af
namespace Bp
theorem dB(h:p:=by
 generalize ct:World.setCell _ _ _=Y;obtain⟨bE,bG,bH⟩:=dU (M:=λb=>b=s) [.int .i64 x.a9,.int .i64 x.numOf,.string x.bu,.slice cA cj cF] (by rfl) b1.o bJ.2 (KD _) ct;obtain⟨bl,aA,aO⟩:=bE.two;go_wp2_with(fail);refine Lk (v:=.agg #[.int .i64 x.a9,.int .i64 x.numOf,.string x.bu,.slice cA cj cF]) (by simp[results,Tryz.results98,go_sem,bl]) rfl ?_;obtain⟨hx,aN,ca,cp,bN⟩:=aQ.o;have bi:x.src V 2:=by
  obtain rfl|rfl:k=0\/k=1:=ad
  .exact iK 1 x hx
  .exact hx
 exact⟨x,cA,cj,cF,rfl,bi,aN,(ca.ak λb O=>bH.block b O.2 (aC O.1)).mono λb O=>⟨by have:=O.1;omega,KE O.2 bH.size⟩,bJ.1.cO bH (λb O h=>ad),bG⟩
 ):p:=h
theorem z2(h:p:=by
 refine Lk (v:=.agg #[.int .i64 x.a9,.int .i64 x.numOf,.string x.bu,.slice cA cj cF]) (by simp[results,Tryz.results98,go_sem,bl]) rfl ?_;obtain⟨hx,aN,ca,cp,bN⟩:=aQ.o;exact⟨x,cA,cj,cF,rfl,iK 1 x (iK 0 x hx),aN,(ca.ak λb O=>bH.block b O.2 (aC O.1)).mono λb O=>⟨by have:=O.1;omega,KE O.2 bH.size⟩,bJ.1.cO bH (λb O h=>ad),bG⟩
 ):p:=h
theorem Ag(h:p:=by
 cases ar with
 | false=>
  go_wp2_with(fail);refine(oS s A n c l V N bc aa b6 0 ad W ag.1.src ag.2.1).mono ?_;rintro e aT ⟨x,cA,cj,cF,rfl,hx,aN,ca,h,he⟩;have aR:=ag.2.2.2.on he ad;have bJ:=ah h (ag.2.2.1.trans he);have aQ:=cK hx aN ca he.size ag.2.2.2.lt
  exact A4
 | true=>
  have c3:¬wb=s:=by have:=ag.1.ne;simp only at this;omega
  go_upto_region 3 with(fail);refine eK (λb=>b=s) [(0,3),(1,3),(2,3),(3,0),(4,3),(5,3),(6,3),(7,3),(8,0),(9,1),(10,3),(11,2),(12,2)] ?_
  iterate 3 refine pf ?_
  refine oq ?_
  iterate 4 refine pf ?_
  refine oq ?_;refine aI rfl (λK hK=>?_);go_simp;refine(a2 W.drew s A n c l 2 (ag.1.ai Ll.drew).src ad ad).mono ?_;rintro e aS ⟨cv,rfl,a3,bS,h,he⟩;obtain⟨k,rfl⟩:=KI a3;have cN:k<2:=ad;have aj:Fr (λb=>b=s) W aS:=Fr.aF he.fr;have H1:=bL (ag.1.next h aj) (ag.2.1.on aj) (ag.2.2.1.trans aj) (ag.2.2.2.on aj ad);refine dz hK (he.fr) ?_;clear hK K;clear h he aj a0 ai af a3 bS;refine pf ?_;refine ax rfl (λK hK=>?_);go_simp;have cb:(1:Int)+(k:Int)=((k+1:Nat):Int):=ad;rw[cb,show IntKind.i64.wrap ((k+1:Nat):Int)=((k+1:Nat):Int) from IntWalk.i64_in _ ad];refine(oS s A n c l V N bc aa b6 (k+1) ad aS H1.1.src H1.2.1).mono ?_;rintro e aT ⟨x,cA,cj,cF,rfl,hx,aN,ca,h,he⟩;have aR:=H1.2.2.2.on he ad;have bJ:=ah h (H1.2.2.1.trans he);have aQ:=cK hx aN ca he.size H1.2.2.2.lt;obtain⟨e0,a6,aP⟩:=aR.two;have b1:=ae aR;clear h he aR hx aN ca;refine dO hK ?_;clear hK K;exact eP
 ):p:=h
end Bp
open Bp in
theorem jK(p:kj)(left:Nat)(V:Lq)(N:Lp)(bc aa:Nat)(w:World)(h:gw w p left)(hN:m3 w p.s V N bc)(b6:bc<=1000) :
  Calls prog 98 #[.pointer (some ⟨p.wb,0,none⟩),.slice N bc aa] w (tm w p.s p.A p.n p.c p.l V 2):=by
 obtain⟨s,wb,A,n,c,l,GA,gn,gc,MA,mn,mc,FA,fn,fc,M,F,ar⟩:=p;have H:=ah h hN;have ak:=h.blk.lt;have cf:=h.src.lt;simp only at ak cf;clear h hN;go_enter func98,ntmps98;exact Af
def H2(w:World)(p:kj)(V:Lq)(ps:List (ByteArray×Bool))(e:Ending)(ab:World):Prop:=
 ∃(r:eO) (IA:Lp) (i ic:Nat),e=.returned (.agg #[.string r.name,.slice IA i ic])/\(∀fs,rT ⟨p.M,ps,fs⟩ V r)/\i<=ic/\Sl ab (fresh w ab) IA i (r.idx.toList.map bk)/\cm ab p.s p.A p.n p.c p.l/\Fr (λb=>b=p.s) w ab
theorem sX{x:ByteArray×Bool}:(ds x).rep w P cs↔cs=[.string x.1,.bool x.2]:=by
 exact Gt
theorem um{x:ByteArray}:(D.s x).rep w P cs↔cs=[.string x]:=by simp only[D.rep]
theorem qG(p:kj)(left:Nat)(V:Lq)(N:Lp)(bc aa:Nat)(aZ:ByteArray)(ps:List (ByteArray×Bool))(QA:Lp)(cg qc:Nat)(bx:Value)(w:World)(h:gw w p left)(hN:m3 w p.s V N bc)(b6:bc<=1000)
  (cl:Sl w (off (λb=>b=p.s) w) QA cg (ps.map ds)) (bv:cg<=2) :
  Calls prog 97 #[.pointer (some ⟨p.wb,0,none⟩),.agg #[.string aZ,.slice QA cg qc,bx],.slice N bc aa] w (H2 w p V ps):=by
 obtain⟨s,wb,A,n,c,l,GA,gn,gc,MA,mn,mc,FA,fn,fc,M,F,ar⟩:=p;have H:=aD h hN cl;have ak:=h.blk.lt;have cf:=h.src.lt;have I:=h.nm;have aW:M.length=mn:=by have:=h.ms.1;simpa using this
 simp only at ak cf I;clear h hN cl;go_enter func97,ntmps97;go_wp2_with(fail);generalize ba:World.alloc _ _=W;have aw:=iN ba;have cE:=gC ba;have bs:=ga ba;have cZ:W.heap.size=w.heap.size+1+1:=by rw[<-ba];simp
 have ag:=aD aw cE bs;clear ba aw cE bs;obtain⟨bO,r⟩:∃bO:Nat->List D,bO=λj=>(M.take j).map λm=>D.s m.name:=⟨_,rfl⟩
 have ao:bO 0=[]:=by rw[r];rfl
 have aJ:∀j m,M[j]?=some m->bO (j+1)=bO j++[.s m.name]:=λj m h=>by rw[r];simp only;rw[List.take_add_one,h];simp
 obtain⟨bf,S,bw⟩:=eh r ao aJ;clear r ao aJ;go_loopw [7,8] (λhj cu wr=>∃(k:Nat) (cc:Lp) (rc:Nat),k<=mn/\cu=.int .i64 k/\hj=.slice cc k rc/\Ext W wr/\Gr (λ_=>False) (w.heap.size+1+1) 9 1 wr cc k rc (bO k)) (λ_ cu _=>mn - (intOf cu).toNat)
 case atStart=>exact⟨0,none,0,KZ _,rfl,rfl,Ll,by rw[S.o];exact Gr.nil _ _ _ _ _⟩
 case round=>
  obtain⟨k,cc,rc,ap,rfl,rfl,aw,hG⟩:=hrel;obtain⟨bq,cC⟩:=aH aw hG;have J:=H.1.ai (ag.1.trans aw);obtain⟨a0,ai,af⟩:=J.blk.two;by_cases dq:k<mn
  .obtain⟨b,o,m,cs,aQ,O,hm,a5,bj,hc⟩:=Sl.g0 (z:=3) J.ms (λ_=>rfl) dq;simp only at aQ;subst aQ;obtain rfl:=fb.1 a5;have c0:=hc 0 _ rfl;simp only[KN] at c0;have cQ:=ae hm;have bz:(0:Int)<=(k:Int):=ad;have cb:(k:Int)<(mn:Int):=ad;have b2:w.heap.size+1+1<=wr.heap.size:=by have:=aw.size;omega
   clear aw hG J a5 hc bj hm;go_wp2_with((at_builtin;refine bP kq rfl (.tmp 23) (.tmp 33) rfl cC.o (um.2 rfl) rfl rfl rfl ad ad b2 ?_;intro aV c2 aT bF az al ci;have b4:=ah bF az;clear bF az al ci));have a3:Ext W aT:=bq.eN (b4.2.below bq.size λj bi O=>by have:=(cC.lt O).1;omega);have a4:=ae a3;clear a3;go_roundw
   case rel=>exact⟨k+1,aV,c2,ad,by go_num,rfl,a4.o,by rw[bw.o k m cQ.o];exact b4.1⟩
   case measure=>exact aG
  .obtain rfl:k=mn:=ad;have bN:Gr (λ_=>False) (w.heap.size+1+1) 9 1 wr cc k rc ((M.map (·.name)).map D.s):=by
    have:=cC.o;rw[bf.o] at this;simp only at this;rw[KL ad] at this;rw[List.map_map];exact this
   have bC:=ae bN;clear aw hG J cC bN bf S bw;go_wp2_with(fail);go_loopw [7,10] (λhj cu wr=>∃(j:Nat) (cc:Lp) (rc:Nat) (a6:Lq),j<=cg/\cu=.int .i64 j/\hj=.slice cc (k+a6.length) rc/\a6.length<=2*j/\(∀x∈a6,(x,true)∈ps)/\Ext W wr/\Gr (λ_=>False) (w.heap.size+1+1) 9 1 wr cc (k+a6.length) rc ((M.map (·.name)++a6).map D.s)) (λ_ cu _=>cg - (intOf cu).toNat)
   case atStart=>exact⟨0,cc,rc,[],KZ _,rfl,rfl,by simp,(λx hx=>by cases hx),bq.o,by rw[Ld];exact bC.o⟩
   case round=>
    obtain⟨j,cc,rc,a6,bi,rfl,rfl,b1,aI,aw,hG⟩:=hrel;clear bC bq;obtain⟨bq,cC,L⟩:=eh aw hG aI;have b2:w.heap.size+1+1<=wr.heap.size:=by have:=aw.size;omega
    by_cases dq:j<cg
    .obtain⟨d0,aL,aM⟩:=(ag.2.1.ai aw).two;obtain⟨b,o,q,cs,bu,O,hm,a5,bj,hc⟩:=Sl.g0 (z:=2) (Sl.c8 H.2.2 ((ag.1.trans aw).mono (M':=λb=>b=s) λ_ h=>h.elim)) (λ_=>rfl) dq;subst bu;obtain rfl:=sX.1 a5;have c0:=hc 0 _ rfl;have c1:=hc 1 _ rfl;simp only[KN] at c0;have cQ:=ae hm;have T:=O.1;have dH:(0:Int)<=(j:Int):=ad;have dL:(j:Int)<(cg:Int):=ad;clear aw hG a5 hc bj hm aI O;obtain⟨q1,cI⟩:=q
     cases cI with
     | false=>
      go_wp2_with(fail);go_roundw
      case rel=>exact⟨j+1,cc,rc,a6,ad,by go_num,rfl,ad,L.o,bq.o,cC.o⟩
      case measure=>exact aG
     | true=>
      go_upto_region 11 with(fail);refine eK (λ_=>False) [(0,3),(1,3),(2,0),(3,3),(4,3),(5,3),(6,0),(7,3),(8,0),(9,3),(10,3),(11,3),(12,0),(13,2),(14,2),(15,3)] ?_
      iterate 2 refine pf ?_
      refine ph ?_
      iterate 3 refine pf ?_
      refine ph ?_;refine pf ?_;refine ph ?_
      iterate 3 refine pf ?_
      refine ph ?_;refine ax rfl (λK hK=>?_);go_simp;refine dO hK ?_;clear hK K;generalize bI:World.drew (World.alloc _ _)=Z;have a9:=gG bI;have bh:=kp bI;have ay:Src Z 1 (some ⟨wr.heap.size,0,none⟩) 2 [.string q1,.string q1]:=⟨rfl,λu hu=>by
       simp only[KT,List.not_mem_nil,or_false] at hu;rcases hu with rfl|rfl<;>rfl,λ_=>⟨_,0,rfl,λj u bi=>by rw[KV,bh.cell];simpa using bi⟩⟩
      have dN:=cC.ai a9;have bm:=a9.size;clear bI d0 aL aM c0 c1;refine ax rfl (λK hK=>?_);rw[if_pos (by rfl)];refine wX kq (.tmp 50) (.tmp 63) (by rfl) dN (m:=2) (k:=[D.s q1,D.s q1]) (cp.2 ⟨_,rfl,cp.2 ⟨_,rfl,aP.2 rfl⟩⟩) rfl ay (λh=>by cases h) (by rfl) (by rfl) ad ad ad ?_;intro aV c2 aT bF az al ci;have a3:Ext W aT:=(bq.trans a9).eN (az.below (aC bq.size) λi an O=>by have:=(cC.lt O).1;omega);have b4:=ah bF a3;clear bF az al ci a3 dN a9 bh ay;refine dO hK ?_;clear hK K;refine pf ?_;refine aE ?_;go_wp2_with(fail);go_roundw
      case rel=>
       refine⟨j+1,aV,c2,a6++[q1,q1],ad,by go_num,by simp[Nat.add_assoc],by simp;omega,?_,b4.2,?_⟩
       .intro x hx;rcases KM.1 hx with hx|hx
        .exact L.o x hx
        .simp at hx;subst hx;exact KG cQ.o
       .have:=b4.1;rw[<-List.append_assoc,KK,KF];exact this
      case measure=>exact aG
    .obtain rfl:j=cg:=ad;have J:=H.1.ai (ag.1.trans aw);obtain⟨a0,ai,af⟩:=J.blk.two;obtain⟨d0,aL,aM⟩:=(ag.2.1.ai aw).two;have b3:1<=k+a6.length/\k+a6.length<=8:=ad;have br:=ae J;clear aw hG aI J;go_wp2_with(fail);refine(a2 wr s A n c l ((k+a6.length:Nat):Int) br.src ad ad).mono ?_;rintro e aS ⟨cV,rfl,R,co,h,he⟩;obtain⟨i3,rfl⟩:=KI R;have e2:i3<k+a6.length:=ad;have cn:s<w.heap.size:=cf;have bo:=br.next h he.fr;have aB:Fr (λb=>b=s) w aS:=((ag.1.trans bq.o).mono λ_ h=>h.elim).trans he.fr;have cD:=cC.c8 he.fr (λb O _=>⟨λh=>h,ad⟩);have bs:=(ag.2.2.ai bq.o).on he.fr (λh=>ad);have H1:=bL bo aB cD bs;have U:Sl aS (av aS) cc (k+a6.length) ((M.map (·.name)++a6).map D.s):=cD.sl (λ_ _ h=>h.elim) (λ_ h _=>h);obtain⟨b,o,x,cs,bS,O,hm,a5,bj,hc⟩:=Sl.g0 (z:=1) U (λ_=>rfl) e2;subst bS;obtain rfl:=um.1 a5;have c0:=hc 0 _ rfl;simp only[Nat.mul_one,KN] at c0;have cQ:=ae hm;have bW:(0:Int)<=(i3:Int):=ad;have bY:(i3:Int)<((k+a6.length:Nat):Int):=ad;clear h he bo aB cD U a5 hc bj hm a0 ai af d0 aL aM br R co bs;go_upto_region 14 with(fail);generalize hX:World.alloc _ _=X;have bp:=aX hX;have b9:=aK hX;have b0:w.heap.size+1+1<=aS.heap.size:=by have:=H1.2.2.2.lt;omega
     have bJ:=cK (H1.1.ai bp) (H1.2.1.trans (bp.mono λ_ h=>h.elim)) (H1.2.2.2.ai bp) b9 (H.2.1.on (H1.2.1.trans (bp.mono λ_ h=>h.elim)));clear hX bp b9 H1 c0;obtain⟨a0,ai,af⟩:=bJ.1.blk.two;obtain⟨a8,am,aF⟩:=bJ.2.2.1.two;obtain⟨d0,aL,aM⟩:=bJ.2.2.2.1.two;have c3:¬wb=s:=by have:=bJ.1.ne;simp only at this;omega
     by_cases bK:i3<k
     .obtain⟨hq,bn,m,cs,aQ,aU,P,a5,bj,hc⟩:=Sl.g0 (z:=3) bJ.1.ms (λ_=>rfl) bK;simp only at aQ;subst aQ;obtain rfl:=fb.1 a5;have c2:=hc 2 _ rfl;have aN:x=m.name:=by
       have:=cQ.o;rw[List.getElem?_append_left (by simp;omega),List.getElem?_map,P] at this;injection this with this;exact this.symm
      have bA:m∈M:=KG P;have a7:=bJ.1.fx m bA;have au:=ah aN bA;have bR:(i3:Int)<(k:Int):=ad;clear a5 hc bj P aN bA aU;by_cases bZ:0<m.size
      .go_wp2_with(fail);refine(yj ⟨s,wb,A,n,c,l,GA,gn,gc,_,k,mc,FA,fn,fc,M,F,ar⟩ left V N bc aa m.size bZ a7.2 X bJ.1 bJ.2.2.2.2 b6).mono ?_;rintro e bX ⟨y,cX,da,db,rfl,bb,dc,cR,ay,aj⟩;simp only at ay aj;have bD:=bJ.2.2.1.on aj ad;have cG:=bJ.2.2.2.1.on aj ad;have aY:=bJ.2.1.trans aj;have b7:=aj.size;clear a0 ai af a8 am aF d0 aL aM c2;obtain⟨a8,am,aF⟩:=bD.two;obtain⟨d0,aL,aM⟩:=cG.two;have bB:=hP bb dc cR ay aY bD cG;clear bb dc cR ay aY aj bD cG;go_upto_region 16 with(fail);generalize bI:World.setCell _ _ _=Z;have bm:Z.heap.size=bX.heap.size:=by rw[<-bI];simp
       generalize hQ:World.alloc _ _=Q;have bd:=cJ bI;have ab:=aX hQ;have aR:aq Q bX.heap.size 53 #[.int .i64 y.a9,.int .i64 y.numOf,.string y.bu,.slice cX da db]:=hQ▸aq.gz _ _ _ bm.symm;have bQ:aq Q aS.heap.size 171 #[.string x,.slice (some ⟨bX.heap.size,0,none⟩) 1 1]:=by
        have ac:aq Z aS.heap.size 171 #[.string x,.slice (some ⟨bX.heap.size,0,none⟩) 1 1]:=bI▸bB.2.2.2.2.2.2.aM 1 _;exact ac.ai ab
       have bt:=((bB.2.2.2.2.2.1.on bd ad).ai ab)
       have bM:Fr (λb=>b=s) w Q:=(bB.2.2.2.2.1.eN (bd.below bB.2.2.2.2.1.size λi an h=>ad)).trans (ab.mono λ_ h=>h.elim);have be:cm Q s A n c l:=(bB.2.2.2.1.cO bd λb O h=>ad).cO ab λ_ _ h=>h;have dQ:aS.heap.size<X.heap.size:=bJ.2.2.2.1.lt;have bg:Sl Q (fresh X Q) cX da (y.args.map bk):=(bB.2.2.1.ak λb O=>(ab.block b (aC O.2) λh=>h).trans (bd.block b O.2 (aC O.1))).mono λb O=>⟨O.1,by have:=O.2;have:=ab.size;omega⟩
       have bU:=cK aR bt bM be bg;have b5:=aR.lt;clear a8 am aF d0 aL aM;obtain⟨a8,am,aF⟩:=bt.two;obtain⟨d0,aL,aM⟩:=bQ.two;clear bI hQ bd ab aR bQ bt bM be bg;go_wp2_with(fail);generalize ct:World.setCell _ _ _=Y;obtain⟨bE,bG,bH⟩:=dU (M:=λb=>b=s) [.string x,.slice (some ⟨bX.heap.size,0,none⟩) 1 1] (by rfl) bU.2.1 bU.2.2.1 ad ct;obtain⟨bl,aA,aO⟩:=bE.two;refine Lk (v:=.agg #[.string x,.slice (some ⟨bX.heap.size,0,none⟩) 1 1]) (by simp[results,Tryz.results97,go_sem,bl]) rfl ?_;obtain⟨aR,_,_,be,bg⟩:=bU.o;have bV:Sl Y (fresh w Y) cX da (y.args.map bk):=(bg.ak λb O=>bH.block b O.2 (aC O.1)).mono λb O=>⟨by have:=O.1;omega,KE O.2 bH.size⟩
       refine⟨⟨x,some y⟩,some ⟨bX.heap.size,0,none⟩,1,1,rfl,λfs=>.inl ⟨m,au.2,au.1.symm,λ_=>⟨y,rfl,bB.1⟩,λh=>absurd bZ h⟩,KD _,?_,be.cO bH (λb O h=>ad),bG⟩;exact Sl.sQ (aR.on bH ad) (D.bj.2 (a1.2 ⟨cX,da,db,rfl,bB.2.1,bV⟩)) ⟨ad,by have:=bH.size;omega⟩ rfl
      .go_wp2_with(fail);generalize ct:World.setCell _ _ _=Y;obtain⟨bE,bG,bH⟩:=dU (M:=λb=>b=s) [.string x,.slice none 0 0] (by rfl) bJ.2.2.1 bJ.2.1 ad ct;obtain⟨bl,aA,aO⟩:=bE.two;refine Lk (v:=.agg #[.string x,.slice none 0 0]) (by simp[results,Tryz.results97,go_sem,bl]) rfl ?_;exact⟨⟨x,none⟩,none,0,0,rfl,λfs=>.inl ⟨m,au.2,au.1.symm,λh=>absurd h ad,λ_=>rfl⟩,KD _,Sl.bN _,bJ.1.src.cO bH (λb O h=>by simp only at O;omega),bG⟩
     .have bR:¬(i3:Int)<(k:Int):=ad;go_wp2_with(fail);generalize ct:World.setCell _ _ _=Y;obtain⟨bE,bG,bH⟩:=dU (M:=λb=>b=s) [.string x,.slice none 0 0] (by rfl) bJ.2.2.1 bJ.2.1 ad ct;obtain⟨bl,aA,aO⟩:=bE.two;refine Lk (v:=.agg #[.string x,.slice none 0 0]) (by simp[results,Tryz.results97,go_sem,bl]) rfl ?_;have bT:x∈a6:=by
       have:=cQ.o;rw[List.getElem?_append_right (by simp;omega)] at this;exact KG this
      exact⟨⟨x,none⟩,none,0,0,rfl,λfs=>.inr ⟨L.o x bT,rfl⟩,KD _,Sl.bN _,bJ.1.src.cO bH (λb O h=>by simp only at O;omega),bG⟩
theorem xj:ch prog 172 208 (.agg #[.bool false,.string ⟨#[]⟩,.slice none 0 0,.int .i64 0,.int .i64 0,.string ⟨#[]⟩,.slice none 0 0]) 7 104:=ch.mk' Tryz.underlying172 (by kernel_rfl) rfl ad
theorem Fx{r:eO}{IA:Lp}{i ic:Nat}(h:Sl w P IA i (r.idx.toList.map bk))(hc:i<=ic):(gI (.mx r)).rep w P [.bool true,.string r.name,.slice IA i ic,.int .i64 0,.int .i64 0,.string ⟨#[]⟩,.slice none 0 0]:=by
 unfold gI;rw[bI];exact fp.2 ⟨_,rfl,gP.2 ⟨[.string r.name,.slice IA i ic],_,rfl,jw.2 ⟨IA,i,ic,rfl,hc,h⟩,D.bj.2 (fh.2 ⟨none,0,rfl⟩)⟩⟩
theorem Fw{x:VE}{cA:Lp}{cj cF:Nat}(h:Sl w P cA cj (x.args.map bk))(hc:cj<=cF):(gI (.ex x)).rep w P [.bool false,.string ⟨#[]⟩,.slice none 0 0,.int .i64 x.a9,.int .i64 x.numOf,.string x.bu,.slice cA cj cF]:=by
 unfold gI;rw[bI];refine fp.2 ⟨_,rfl,gP.2 ⟨[.string ⟨#[]⟩,.slice none 0 0],_,rfl,?_,D.bj.2 (a1.2 ⟨cA,cj,cF,rfl,hc,h⟩)⟩⟩;exact zd
theorem nH{G:Env}{V:Lq}{q:ByteArray×Bool}{a:dn}:∀(ps:List (ByteArray×Bool)) (a1:List dn),iM G V ps a1->IT G V q a->iM G V (ps++[q]) (a1++[a])
 | [],[],_,h=>⟨h,trivial⟩
 | _::ps,_::a1,h,au=>⟨h.1,nH ps a1 h.2 au⟩
 | [],_::_,h,_=>h.elim
 | _::_,[],h,_=>h.elim
def HR(w:World)(p:kj)(V:Lq)(ps gs:List (ByteArray×Bool))(e:Ending)(ab:World):Prop:=
 ∃(a1:List dn) (KA:Lp) (k kc:Nat),e=.returned (.slice KA k kc)/\(∀fs,iM ⟨p.M,ps,fs⟩ V gs a1)/\k<=kc/\Sl ab (fresh w ab) KA k (a1.map gI)/\cm ab p.s p.A p.n p.c p.l/\Fr (λb=>b=p.s) w ab
theorem yI(p:kj)(left:Nat)(V:Lq)(N:Lp)(bc aa:Nat)(aZ:ByteArray)(ps:List (ByteArray×Bool))(QA:Lp)(cg qc:Nat)(bx:Value)(m:ByteArray)(gs:List (ByteArray×Bool))(bR:Lp)(bV bC:Nat)(u:Value)(w:World)(h:gw w p left)(hN:m3 w p.s V N bc)(b6:bc<=1000)
  (cl:Sl w (off (λb=>b=p.s) w) QA cg (ps.map ds)) (bv:cg<=2) (co:Sl w (off (λb=>b=p.s) w) bR bV (gs.map ds)) (c6:bV<=2) :
  Calls prog 99 #[.pointer (some ⟨p.wb,0,none⟩),.agg #[.string aZ,.slice QA cg qc,bx],.agg #[.string m,.slice bR bV bC,u],.slice N bc aa] w (HR w p V ps gs):=by
 obtain⟨s,wb,A,n,c,l,GA,gn,gc,MA,mn,mc,FA,fn,fc,M,F,ar⟩:=p;have ak:=h.blk.lt;have cf:=h.src.lt;have ck:gs.length=bV:=by have:=co.1;simpa using this
 simp only at ak cf;have H:=bL h hN cl co;clear h hN cl co;go_enter func99,ntmps99;go_wp2_with(fail);generalize ba:World.alloc _ _=W;have aw:=iN ba;have cE:=gC ba;have bs:=ga ba;have cZ:W.heap.size=w.heap.size+1+1:=by rw[<-ba];simp
 have ag:=bL (H.1.ai aw) (aw.mono (M':=λb=>b=s) λ_ h=>h.elim) cE bs;clear ba aw cE bs;go_loopw [9,10] (λaU cu wr=>∃(j:Nat) (cc:Lp) (rc:Nat) (a1:List dn),j<=bV/\cu=.int .i64 j/\aU=.slice cc j rc/\(∀fs,iM ⟨M,ps,fs⟩ V (gs.take j) a1)/\gw wr ⟨s,wb,A,n,c,l,GA,gn,gc,MA,mn,mc,FA,fn,fc,M,F,ar⟩ left/\Fr (λb=>b=s) w wr/\aq wr w.heap.size 136 #[.string aZ,.slice QA cg qc,bx]/\aq wr (w.heap.size+1) 136 #[.string m,.slice bR bV bC,u]/\
  Gr (λb=>w.heap.size<=b) (w.heap.size+1+1) 208 7 wr cc j rc (a1.map gI)) (λ_ cu _=>bV - (intOf cu).toNat)
 case atStart=>exact⟨0,none,0,[],KZ _,rfl,rfl,λfs=>trivial,ag.1,ag.2.1,ag.2.2.1,ag.2.2.2,Gr.nil _ _ _ _ _⟩
 case round=>
  obtain⟨j,cc,rc,a1,bi,rfl,rfl,aJ,J,hF,bS,bg,hG⟩:=hrel;clear ag;have aW:=cK J hF bS bg hG;have ao:=ae aJ;obtain⟨d0,aL,aM⟩:=bg.two;obtain⟨e0,a6,aP⟩:=bS.two;by_cases dq:j<bV
  .obtain⟨b,o,q,cs,eL,O,hm,a5,bj,hc⟩:=Sl.g0 (z:=2) (Sl.c8 H.2.2.2 hF) (λ_=>rfl) dq;subst eL;obtain rfl:=sX.1 a5;have c1:=hc 1 _ rfl;have cQ:=ae hm;have dH:(0:Int)<=(j:Int):=ad;have dL:(j:Int)<(bV:Int):=ad;have m0:=hF.size;clear a5 hc bj hm O J hF bS bg hG aJ;obtain⟨q1,cI⟩:=q;simp only at c1
   cases cI with
   | true=>
    go_wp2_with(fail);refine(qG ⟨s,wb,A,n,c,l,GA,gn,gc,MA,mn,mc,FA,fn,fc,M,F,ar⟩ left V N bc aa aZ ps QA cg qc bx wr aW.1 (H.2.1.on aW.2.1) b6 (Sl.c8 H.2.2.1 aW.2.1) bv).mono ?_;rintro e aT ⟨r,IA,i,ic,rfl,a4,aN,ax,ay,aj⟩;simp only at a4 ay aj;have L:=aW.2.2.2.2.c8 aj (λb O _=>⟨ad,ad⟩);have hd:(gI (.mx r)).rep aT (lu (λb=>w.heap.size<=b) aT (.slice cc j rc)) [.bool true,.string r.name,.slice IA i ic,.int .i64 0,.int .i64 0,.string ⟨#[]⟩,.slice none 0 0]:=
     Fx (ax.mono λb O=>⟨by have:=O.1;omega,O.2,λh=>by have:=(aW.2.2.2.2.lt h).2;have:=O.1;omega⟩) aN
    have bJ:=cS (aW.1.next ay aj) (aW.2.1.trans aj) (aW.2.2.1.on aj ad) (aW.2.2.2.1.on aj ad) L hd;have g:=ae a4;have b2:w.heap.size+1+1<=aT.heap.size:=by have:=aj.size;omega
    clear d0 aL aM e0 a6 aP c1 L hd aj ay ax aN a4 aW;go_wp2_with((at_builtin;refine bP xj rfl (.tmp 24) (.tmp 30) rfl bJ.2.2.2.2.1 bJ.2.2.2.2.2 rfl rfl rfl ad ad b2 ?_;intro aV c2 bX bF az al ci;have b4:=ah bF az;clear bF az al ci));have br:∀b,(Value.slice cc j rc).ownBlock=some b->w.heap.size+1+1<=b:=λb O=>(bJ.2.2.2.2.1.lt O).1;have a7:Fr (λb=>b=s) w bX:=bJ.2.1.eN (b4.2.below bJ.2.1.size λk ap h=>by have:=br k h;omega);have cN:gw bX ⟨s,wb,A,n,c,l,GA,gn,gc,MA,mn,mc,FA,fn,fc,M,F,ar⟩ left:=(H.1).next (bJ.1.src.cO b4.2 λb O h=>by have:=br b h;simp only at O;omega) a7;have bT:=cK cN a7 (bJ.2.2.1.on b4.2 (λh=>by have:=br _ h;omega)) (bJ.2.2.2.1.on b4.2 (λh=>by have:=br _ h;omega)) b4.1;clear br a7 cN;go_roundw
    case rel=>
     refine⟨j+1,aV,c2,a1++[.mx r],ad,by go_num,rfl,λfs=>?_,bT.1,bT.2.1,bT.2.2.1,bT.2.2.2.1,by rw[KK];exact bT.2.2.2.2⟩;rw[List.take_add_one,cQ.o];exact nH _ _ (ao.o fs) ⟨rfl,g.o fs⟩
    case measure=>exact aG
   | false=>
    go_wp2_with(fail);refine(jK ⟨s,wb,A,n,c,l,GA,gn,gc,MA,mn,mc,FA,fn,fc,M,F,ar⟩ left V N bc aa wr aW.1 (H.2.1.on aW.2.1) b6).mono ?_;rintro e aT ⟨x,cA,cj,cF,rfl,a4,aN,ax,ay,aj⟩;simp only at ay aj;have L:=aW.2.2.2.2.c8 aj (λb O _=>⟨ad,ad⟩);have hd:(gI (.ex x)).rep aT (lu (λb=>w.heap.size<=b) aT (.slice cc j rc)) [.bool false,.string ⟨#[]⟩,.slice none 0 0,.int .i64 x.a9,.int .i64 x.numOf,.string x.bu,.slice cA cj cF]:=
     Fw (ax.mono λb O=>⟨by have:=O.1;omega,O.2,λh=>by have:=(aW.2.2.2.2.lt h).2;have:=O.1;omega⟩) aN
    have bJ:=cS (aW.1.next ay aj) (aW.2.1.trans aj) (aW.2.2.1.on aj ad) (aW.2.2.2.1.on aj ad) L hd;have g:=ae a4;have b2:w.heap.size+1+1<=aT.heap.size:=by have:=aj.size;omega
    clear d0 aL aM e0 a6 aP c1 L hd aj ay ax aN a4 aW;go_wp2_with((at_builtin;refine bP xj rfl (.tmp 32) (.tmp 37) rfl bJ.2.2.2.2.1 bJ.2.2.2.2.2 rfl rfl rfl ad ad b2 ?_;intro aV c2 bX bF az al ci;have b4:=ah bF az;clear bF az al ci));have br:∀b,(Value.slice cc j rc).ownBlock=some b->w.heap.size+1+1<=b:=λb O=>(bJ.2.2.2.2.1.lt O).1;have a7:Fr (λb=>b=s) w bX:=bJ.2.1.eN (b4.2.below bJ.2.1.size λk ap h=>by have:=br k h;omega);have cN:gw bX ⟨s,wb,A,n,c,l,GA,gn,gc,MA,mn,mc,FA,fn,fc,M,F,ar⟩ left:=(H.1).next (bJ.1.src.cO b4.2 λb O h=>by have:=br b h;simp only at O;omega) a7;have bT:=cK cN a7 (bJ.2.2.1.on b4.2 (λh=>by have:=br _ h;omega)) (bJ.2.2.2.1.on b4.2 (λh=>by have:=br _ h;omega)) b4.1;clear br a7 cN;go_roundw
    case rel=>
     refine⟨j+1,aV,c2,a1++[.ex x],ad,by go_num,rfl,λfs=>?_,bT.1,bT.2.1,bT.2.2.1,bT.2.2.2.1,by rw[KK];exact bT.2.2.2.2⟩;rw[List.take_add_one,cQ.o];exact nH _ _ (ao.o fs) ⟨rfl,g.o⟩
    case measure=>exact aG
  .obtain rfl:j=bV:=ad;clear J hF bS bg hG aJ;go_wp2_with(fail);go_ret;have ac:=ao.o;rw[KL ad] at ac;exact⟨a1,cc,j,rc,rfl,ac,aW.2.2.2.2.cap.1,aW.2.2.2.2.sl (λb h hp=>⟨hp,h⟩) (λb h hp=>⟨ad,h⟩),aW.1.src,aW.2.1⟩
end Go.Proofs.YtglbpimocmhojaaGreat

/- Part 35 of the proof. No condition of its own. -/
import Derived.Test.YtkhnkojkplbioaaGreatQ14
import Derived.Test.YtkhnkojkplbioaaGreatQ28
namespace Go.Proofs.YtkhnkojkplbioaaGreat
open Go.RowKit Go.Proofs.Tryz
set_option maxRecDepth 1000000
set_option maxHeartbeats 25600000
set_option linter.unusedVariables false
variable{V:L4}{l:List D}{cs:List Value}{bn g left n s:Nat}{M P:Nat->Prop}{A N:L3}{p:Prop}{t:TypeId}{ab w:World}
theorem gd.fr(h:gd s w ab):Fr (λb=>b=s) w ab:=⟨h.os,h.tape,h.output,h.size,h.block⟩
theorem dY{X V:World}{cs:Array Value}(vs:List Value)(hs:cs.size=vs.length)(aR:aq V g t cs)(aw:Fr M w V)(a9:w.heap.size<=g)(hX:rZ g V 0 vs=X):
  aq X g t vs.toArray/\Fr M w X/\Fr (λb=>b=g) V X:=by
 subst hX;have J:=mM (g:=g) vs 0 V;refine⟨?_,aw.eR (J.below aw.size λk ap h=>ad),J⟩;have ac:=k8 vs 0 V cs aR;have au:je cs 0 vs=vs.toArray:=by
  apply Array.toList_inj.1
  rw[mq vs 0 cs ad];simp;omega
 rwa [au] at ac
theorem cn.cS{c:Nat}{l:List Int}(h:cn w s A n c l)(O:Fr M w ab)(hM:∀b,b<=s->¬M b):cn ab s A n c l:=
 h.IH (g:=s+1) (O.below h.lt λk ap=>hM k ad) ad
theorem Sl.Ek{aS aU:World}(h:Sl aS (fresh w aS) A n l)(O:Fr M aS aU)(hM:∀b,M b->b<w.heap.size):Sl aU (fresh w aU) A n l:=
 (h.al λb b1=>O.block b b1.2 λhm=>by have:=hM b hm;have:=b1.1;omega).mono λb b1=>⟨b1.1,Ll b1.2 O.size⟩
theorem Sl.tv(aR:aq w g t cs.toArray)(ba:D.aQ w P l cs)(a1:P g)(hl:l.length=n):Sl w P (some ⟨g,0,none⟩) n l:=
 ⟨hl,λ_=>⟨g,0,cs,rfl,a1,ba,λj u bi=>by rw[LF,aR.cell];simpa using bi⟩⟩
def tZ(w:World)(s:Nat)(A:L3)(n c:Nat)(l:List Int)(V:L4)(d:Nat)(e:Ending)(ab:World):Prop:=
 ∃(x:VE) (cw:L3) (cc cC:Nat),e=.returned (.agg #[.int .i64 x.bg,.int .i64 x.numOf,.string x.bA,.slice cw cc cC])/\x.src V d/\cc<=cC/\Sl ab (fresh w ab) cw cc (x.args.map bp)/\cn ab s A n c l/\Fr (λb=>b=s) w ab
def nv(w:World)(s:Nat)(V:L4)(N:L3)(bn:Nat):Prop:=Sl w (off (λb=>b=s) w) N bn (V.map .s)
theorem nv.on(h:nv w s V N bn)(O:Fr (λb=>b=s) w ab):nv ab s V N bn:=Sl.c8 h O
theorem vn(w:World)(s:Nat)(A:L3)(n c:Nat)(l:List Int)(V:L4)(N:L3)(bn aa:Nat)(d:Nat)(hd:d<=5)(bq:bn<=1000)(h:cn w s A n c l)(hN:nv w s V N bn)
  (aB:d≠0->∀aU:World,cn aU s A n c l->nv aU s V N bn->Calls prog 149 #[.pointer (some ⟨s,0,none⟩),.slice N bn aa,.int .i64 ((d:Int) - 1)] aU (tZ aU s A n c l V (d - 1))) :
  Calls prog 149 #[.pointer (some ⟨s,0,none⟩),.slice N bn aa,.int .i64 d] w (tZ w s A n c l V d):=by
 have ck:=ae aB;have cm:=h.lt;have L:=ag h hN;clear aB h hN;go_enter func149,ntmps149;go_wp2_with(fail);generalize be:World.alloc _ _=W;have aw:=aW be;have aR:aq W w.heap.size 53 #[.int .i64 0,.int .i64 0,.string ⟨#[]⟩,.slice none 0 0]:=be▸aq.gC _ _ _ rfl;have aT:Fr (λb=>b=s) w W:=aw.mono λ_ h=>h.elim;have ah:=cJ (L.1.cS aw λ_ _ h=>h) (L.2.on aT) aT aR cm;clear be aw aR aT L;refine(a9 _ s A n c l 10 ah.1 ad ad).mono ?_;rintro e aS ⟨cv,rfl,aZ,b1,h,he⟩;have H1:=ag h he.fr;have m:=ag aZ b1;clear h he;have bI:w.heap.size<W.heap.size:=ah.2.2.2.1.lt;have cr:W.heap.size<=aS.heap.size:=H1.2.size;by_cases f:((d:Int) == 0)=true\/((d:Int) == 0)=false/\decide (cv<2)=true
 .clear ck m aZ b1;rcases f with bs|⟨bs,dz⟩
  all_goals
   by_cases aM:0<bn
   .have cI:decide ((0:Int)<(bn:Int))=true:=by simp;omega
    go_wp2_with(fail);refine(a9 _ s A n c l 2 H1.1 ad ad).mono ?_;rintro e aU ⟨bS,rfl,u,bj,h,he⟩;have bc:=ag h (H1.2.trans he.fr);clear h he;by_cases b0:bS=1
    .have br:(bS == 1)=true:=by simpa using b0
     clear b0 u bj;go_wp2_with(fail);refine(a9 _ s A n c l bn bc.1 ad ad).mono ?_;rintro e b6 ⟨cW,rfl,R,aV,h,he⟩;have bP:=ag h (bc.2.trans he.fr);clear h he;obtain⟨j,rfl⟩:=Lp R;obtain⟨b,o,nm,cs,rfl,O,hm,ba,hl,hc⟩:=Sl.g6 (enc:=D.s) (z:=1) (ah.2.1.on bP.2) (λ_=>rfl) (k:=j) ad;have I:cs=[.string nm]:=by simpa only[D.rep] using ba
     subst I;have c0:=hc 0 _ rfl;simp only[Nat.mul_one,Lu] at c0;have b7:=ah.2.2.2.1.on bP.2 (λh=>by have:=ah.2.2.2.2;omega);have aG:=ae b7;obtain⟨e0,a6,aP⟩:=b7.two;have ax:=ae (Ln hm);clear ba hl hc hm b7;go_wp2_with(fail);generalize cu:World.setCell _ _ _=Y;obtain⟨bK,bt,bR⟩:=dY (M:=λb=>b=s) [.int .i64 2,.int .i64 0,.string nm,.slice none 0 0] (by rfl) aG.o (ah.2.2.1.trans bP.2) (Lk _) cu;obtain⟨bl,aA,aO⟩:=bK.two;refine LU (v:=.agg #[.int .i64 2,.int .i64 0,.string nm,.slice none 0 0]) (by simp[results,Tryz.results149,go_sem,bl]) rfl ?_;exact⟨.g7 nm,none,0,0,rfl,(by cases d<;>exact ax.o),Lk _,Sl.bR _,bP.1.cS bR (λb O h=>by have:=ah.2.2.2.2;omega),bt⟩
    .have br:(bS == 1)=false:=by simpa using b0
     clear b0 u bj;go_wp2_with(fail);refine(qA _ s A n c l bc.1).mono ?_;rintro e b6 ⟨cW,rfl,R,aV,h,he⟩;have bP:=ag h (bc.2.trans he.fr);exact GW
   .obtain rfl:bn=0:=ad;go_wp2_with(fail);refine(qA _ s A n c l H1.1).mono ?_;rintro e b6 ⟨cW,rfl,R,aV,h,he⟩;have bP:=ag h (H1.2.trans he.fr);exact GW
 have ay:d≠0:=λh=>f (.inl (by simp[h]));have bs:((d:Int) == 0)=false:=by simp;omega
 have dz:decide (cv<2)=false:=by
  have:¬(decide (cv<2)=true):=λh=>f (.inr ⟨bs,h⟩);simpa using this
 have F:wrap64 ((d:Int) - 1)=(d:Int) - 1:=IntWalk.wrap64_in _ ad;have cb:=ae ay;have r:=ag bI cr;clear f ay;by_cases ab:cv<4
 .obtain av|av:cv=2\/cv=3:=by simp at dz;omega
  all_goals
   subst av;clear ab aZ b1 m dz cr bI;go_wp2_with(fail);refine(ck.o cb.o _ H1.1 (ah.2.1.on H1.2)).mono ?_;rintro e aU ⟨x,cw,cc,cC,rfl,hx,aN,bo,h,he⟩;have bc:=ag h (H1.2.trans he);have aQ:=bJ hx aN bo he;have b7:=ah.2.2.2.1.on bc.2 (λh=>by have:=ah.2.2.2.2;omega);have aG:=ae b7;obtain⟨e0,a6,aP⟩:=b7.two;clear h he hx aN bo b7;go_wp2_with(fail);generalize cu:World.setCell _ _ _=Y;have dl:Y.heap.size=aU.heap.size:=by rw[<-cu];simp
   obtain⟨bK,bt,bR⟩:=dY (M:=λb=>b=s) [.int .i64 _,.int .i64 0,.string ⟨#[]⟩,.slice (some ⟨aU.heap.size,0,none⟩) 1 1] (by rfl) aG.o (ah.2.2.1.trans bc.2) (Lk _) cu;generalize bF:World.alloc _ _=Z;have bk:=bK.alloc (.cells #[.int .i64 x.bg,.int .i64 x.numOf,.string x.bA,.slice cw cc cC] 53);rw[bF] at bk;have g:aq Z aU.heap.size 53 #[.int .i64 x.bg,.int .i64 x.numOf,.string x.bA,.slice cw cc cC]:=bF▸aq.gC _ _ _ dl.symm;have bd:Fr (λb=>b=s) w Z:=bF▸bt.alloc _;have bg:Fr (λb=>b=w.heap.size) aU Z:=bF▸bR.alloc _;obtain⟨bl,aA,aO⟩:=bk.two;obtain⟨hx,aN,bo,he⟩:=aQ.o;have cq:=ah.2.2.2.2;obtain⟨bI,cr⟩:=r.o;have bw:=he.size;have bv:=g.lt;refine LU (v:=.agg #[.int .i64 _,.int .i64 0,.string ⟨#[]⟩,.slice (some ⟨aU.heap.size,0,none⟩) 1 1]) (by simp[results,Tryz.results149,go_sem,bl];rfl) rfl ?_;have i:Sl Z (fresh w Z) cw cc (x.args.map bp):=(bo.al λb O=>bg.block b O.2 (aD O.1)).mono λb O=>⟨by have:=O.1;omega,Ll O.2 bg.size⟩
   refine⟨.un _ x,some ⟨aU.heap.size,0,none⟩,1,1,rfl,?_,Lk _,Sl.tv g (D.bm.2 (a5.2 ⟨cw,cc,cC,rfl,aN,i⟩)) ⟨ad,bv⟩ rfl,bc.1.cS bg (λb O h=>ad),bd⟩;have:=cb.o;obtain⟨d2,rfl⟩:∃d2,d=d2+1:=⟨d - 1,ad⟩
   exact⟨by decide,hx⟩
 have dZ:decide (cv<4)=false:=by simpa using ab
 clear aZ b1 ab cr bI;go_wp2_with(fail);refine(a9 _ s A n c l 13 H1.1 ad ad).mono ?_;rintro e aU ⟨bS,rfl,u,bj,h,he⟩;have bc:=ag h (H1.2.trans he.fr);have bN:=he.size;clear h he;have G:wrap64 (5+bS)=5+bS:=IntWalk.wrap64_in _ ad;have bQ:=ae (show 5<=5+bS/\5+bS<=17 by omega);have am:=ae bN;clear u bj bN dz dZ;go_wp2_with(fail);refine(ck.o cb.o _ bc.1 (ah.2.1.on bc.2)).mono ?_;rintro e b6 ⟨x,cw,cc,cC,rfl,hx,aN,bo,h,he⟩;have bP:=ag h (bc.2.trans he);have aQ:=bJ hx aN bo he;clear h he hx aN bo;go_wp2_with(fail);refine(ck.o cb.o _ bP.1 (ah.2.1.on bP.2)).mono ?_;rintro e cK ⟨y,aY,cP,cZ,rfl,hx,aN,bo,h,he⟩;have b5:=ag h (bP.2.trans he);have bu:=bJ hx aN bo he;have b7:=ah.2.2.2.1.on b5.2 (λh=>by have:=ah.2.2.2.2;omega);have aG:=ae b7;obtain⟨e0,a6,aP⟩:=b7.two;clear h he hx aN bo b7;go_wp2_with(fail);generalize cu:World.setCell _ _ _=Y;have dl:Y.heap.size=cK.heap.size:=by rw[<-cu];simp
 obtain⟨bK,bt,bR⟩:=dY (M:=λb=>b=s) [.int .i64 (5+bS),.int .i64 0,.string ⟨#[]⟩,.slice (some ⟨cK.heap.size,0,none⟩) 2 2] (by rfl) aG.o (ah.2.2.1.trans b5.2) (Lk _) cu;generalize bF:World.alloc _ _=Z;have bk:=bK.alloc (.cells #[.int .i64 x.bg,.int .i64 x.numOf,.string x.bA,.slice cw cc cC,.int .i64 y.bg,.int .i64 y.numOf,.string y.bA,.slice aY cP cZ] 53);rw[bF] at bk;have g:aq Z cK.heap.size 53 #[.int .i64 x.bg,.int .i64 x.numOf,.string x.bA,.slice cw cc cC,.int .i64 y.bg,.int .i64 y.numOf,.string y.bA,.slice aY cP cZ]:=bF▸aq.gC _ _ _ dl.symm;have bd:Fr (λb=>b=s) w Z:=bF▸bt.alloc _;have bg:Fr (λb=>b=w.heap.size) cK Z:=bF▸bR.alloc _;obtain⟨bl,aA,aO⟩:=bk.two;obtain⟨hx,aN,bo,he⟩:=aQ.o;obtain⟨bb,dd,cV,bL⟩:=bu.o;have cq:=ah.2.2.2.2;obtain⟨bI,cr⟩:=r.o;have bN:=am.o;have bw:=he.size;have bC:=bL.size;have bv:=g.lt;refine LU (v:=.agg #[.int .i64 (5+bS),.int .i64 0,.string ⟨#[]⟩,.slice (some ⟨cK.heap.size,0,none⟩) 2 2]) (by simp[results,Tryz.results149,go_sem,bl]) rfl ?_;have i:Sl Z (fresh w Z) cw cc (x.args.map bp):=(bo.al λb O=>(bg.block b (aD O.2) (aD O.1)).trans (bL.block b O.2 (aD O.1))).mono λb O=>⟨by have:=O.1;omega,by have:=O.2;omega⟩
 have t:Sl Z (fresh w Z) aY cP (y.args.map bp):=(cV.al λb O=>bg.block b O.2 (aD O.1)).mono λb O=>⟨by have:=O.1;omega,by have:=O.2;omega⟩
 refine⟨.bin (5+bS) x y,some ⟨cK.heap.size,0,none⟩,2,2,rfl,?_,Lk _,Sl.tv g (gU.2 ⟨_,_,rfl,a5.2 ⟨cw,cc,cC,rfl,aN,i⟩,D.bm.2 (a5.2 ⟨aY,cP,cZ,rfl,dd,t⟩)⟩) ⟨ad,bv⟩ rfl,b5.1.cS bg (λb O h=>ad),bd⟩;have:=cb.o;obtain⟨d2,rfl⟩:∃d2,d=d2+1:=⟨d - 1,ad⟩
 exact⟨bQ.o,hx,bb⟩
theorem py(s:Nat)(A:L3)(n c:Nat)(l:List Int)(V:L4)(N:L3)(bn aa:Nat)(bq:bn<=1000):∀(d:Nat),d<=5->∀(w:World),cn w s A n c l->nv w s V N bn->
  Calls prog 149 #[.pointer (some ⟨s,0,none⟩),.slice N bn aa,.int .i64 d] w (tZ w s A n c l V d)
 | 0,hd,w,h,hN=>vn w s A n c l V N bn aa 0 hd bq h hN (λh=>absurd rfl h)
 | d+1,hd,w,h,hN=>vn w s A n c l V N bn aa (d+1) hd bq h hN (λ_ aU au a=>by
   have:=py s A n c l V N bn aa bq d ad aU au a;rw[show ((d+1:Nat):Int) - 1=d by omega];exact this)
structure kr where
 s:Nat
 wb:Nat
 A:Option Addr
 n:Nat
 c:Nat
 l:List Int
 GA:Option Addr
 gn:Nat
 gc:Nat
 MA:Option Addr
 mn:Nat
 mc:Nat
 FA:Option Addr
 fn:Nat
 fc:Nat
 M:List bD
 F:List aK
 ar:Bool
abbrev kr.MW(p:kr):Nat->Prop:=λb=>b=p.s\/b=p.wb
structure gA(w:World)(p:kr)(left:Nat):Prop where
 src:cn w p.s p.A p.n p.c p.l
 blk:aq w p.wb 149 #[.pointer (some ⟨p.s,0,none⟩),.slice p.GA p.gn p.gc,.slice p.MA p.mn p.mc,.slice p.FA p.fn p.fc,.int .i64 left,.bool p.ar]
 ne:p.s<p.wb
 ms:Sl w (off p.MW w) p.MA p.mn (p.M.map eD)
 fs:Sl w (off p.MW w) p.FA p.fn (p.F.map du)
 nm:1<=p.mn/\p.mn<=4
 nf:1<=p.fn/\p.fn<=4
 fB:∀m∈p.M,0<=m.size/\m.size<=3
 jF:∀f∈p.F,f.params.length<=2
 kJ:left<=24
theorem gA.next{p:kr}(h:gA w p left)(hs:cn ab p.s p.A p.n p.c p.l)(O:Fr (λb=>b=p.s) w ab):gA ab p left:=
 ⟨hs,h.blk.on O (aD h.ne),h.ne,Sl.c8 h.ms (O.mono λ_ h=>.inl h),Sl.c8 h.fs (O.mono λ_ h=>.inl h),h.nm,h.nf,h.fB,h.jF,h.kJ⟩
theorem gA.aj{p:kr}(h:gA w p left)(O:Ext w ab):gA ab p left:=h.next (h.src.cS O λ_ _ h=>h) (O.mono λ_ h=>h.elim)
theorem nv.aj(h:nv w s V N bn)(O:Ext w ab):nv ab s V N bn:=h.on (O.mono λ_ h=>h.elim)
theorem iO{V:L4}:∀(d:Nat) (x:VE),x.src V d->x.src V (d+1)
 | d,.num _,h=>by cases d<;>exact h
 | d,.g7 _,h=>by cases d<;>exact h
 | d,.loc _,h=>by cases d<;>exact h.elim
 | d,.iF _,h=>by cases d<;>exact h.elim
 | 0,.un _ _,h=>h.elim
 | 0,.bin _ _ _,h=>h.elim
 | d+1,.un _ x,h=>⟨h.1,iO d x h.2⟩
 | d+1,.bin _ x y,h=>⟨h.1,iO d x h.2.1,iO d y h.2.2⟩
namespace B9
theorem AM(h:p:=by
 refine LU (v:=.agg #[.int .i64 x.bg,.int .i64 x.numOf,.string x.bA,.slice cw cc cC]) (by simp[results,Tryz.results148,go_sem,bl]) rfl ?_;obtain⟨hx,aN,bo,cr,bN⟩:=aQ.o;have b1:=H1.2.2.2.lt;exact⟨x,cw,cc,cC,rfl,iO 1 x hx,aN,(bo.al λb O=>bR.block b O.2 (aD O.1)).mono λb O=>⟨by have:=O.1;omega,Ll O.2 bR.size⟩,bc.1.cS bR (λb O h=>ad),bt⟩
 ):p:=h
theorem A0(h:p:=by
 cases ar with
 | false=>
  go_wp2_with(fail);refine(a9 _ s A n c l sz ah.1.src ac ad).mono ?_;rintro e aS ⟨cv,rfl,aZ,b1,h,he⟩;have aR:=ah.2.2.2.on he.fr ad;have H1:=ag h (ah.2.2.1.trans he.fr);have c8:=ag aZ b1;obtain⟨e0,a6,aP⟩:=aR.two;have bO:=ae aR;clear a0 aj af h he aR aZ b1;go_wp2_with(fail);generalize cu:World.setCell _ _ _=Y;obtain⟨bK,bt,bR⟩:=dY (M:=λb=>b=s) [.int .i64 1,.int .i64 cv,.string ⟨#[]⟩,.slice none 0 0] (by rfl) bO.o H1.2 (Lk _) cu;obtain⟨bl,aA,aO⟩:=bK.two;refine LU (v:=.agg #[.int .i64 1,.int .i64 cv,.string ⟨#[]⟩,.slice none 0 0]) (by simp[results,Tryz.results148,go_sem,bl]) rfl ?_
  exact⟨.num cv,none,0,0,rfl,⟨c8.1,by have:=c8.2;omega⟩,Lk _,Sl.bR _,H1.1.cS bR (λb O h=>ad),bt⟩
 | true=>
  go_wp2_with(fail);refine(a9 _ s A n c l 3 ah.1.src ad ad).mono ?_;rintro e aS ⟨cv,rfl,aZ,b1,h,he⟩;have aR:=ah.2.2.2.on he.fr ad;have H1:=bJ (ah.1.next h he.fr) (ah.2.1.on he.fr) (ah.2.2.1.trans he.fr) aR;clear a0 aj af h he aR ah;obtain⟨a0,aj,af⟩:=H1.1.blk.two;by_cases ap:cv=1
  .have q:(cv == 1)=true:=by simpa using ap
   clear ap aZ b1;go_wp2_with(fail);refine(py s A n c l V N bn aa bq 1 ad aS H1.1.src H1.2.1).mono ?_;rintro e aU ⟨x,cw,cc,cC,rfl,hx,aN,bo,h,he⟩;have aR:=H1.2.2.2.on he ad;have bc:=ag h (H1.2.2.1.trans he);have aQ:=cJ hx aN bo he.size H1.2.2.1.size;exact BO
  .have q:(cv == 1)=false:=by simpa using ap
   clear ap aZ b1;go_wp2_with(fail);refine(a9 _ s A n c l sz H1.1.src ac ad).mono ?_;rintro e aU ⟨bS,rfl,u,bj,h,he⟩;have aR:=H1.2.2.2.on he.fr ad;have bc:=ag h (H1.2.2.1.trans he.fr);have c8:=ag u bj;obtain⟨e0,a6,aP⟩:=aR.two;have bO:=ae aR;clear a0 aj af h he aR u bj;go_wp2_with(fail);generalize cu:World.setCell _ _ _=Y;obtain⟨bK,bt,bR⟩:=dY (M:=λb=>b=s) [.int .i64 1,.int .i64 bS,.string ⟨#[]⟩,.slice none 0 0] (by rfl) bO.o bc.2 (Lk _) cu;obtain⟨bl,aA,aO⟩:=bK.two;refine LU (v:=.agg #[.int .i64 1,.int .i64 bS,.string ⟨#[]⟩,.slice none 0 0]) (by simp[results,Tryz.results148,go_sem,bl]) rfl ?_;exact⟨.num bS,none,0,0,rfl,⟨c8.1,by have:=c8.2;omega⟩,Lk _,Sl.bR _,bc.1.cS bR (λb O h=>ad),bt⟩
 ):p:=h
end B9
open B9 in
theorem y1(p:kr)(left:Nat)(V:L4)(N:L3)(bn aa:Nat)(sz:Int)(ac:0<sz)(au:sz<=3)(w:World)(h:gA w p left)(hN:nv w p.s V N bn)(bq:bn<=1000) :
  Calls prog 148 #[.pointer (some ⟨p.wb,0,none⟩),.slice N bn aa,.int .i64 sz] w (tZ w p.s p.A p.n p.c p.l V 2):=by
 obtain⟨s,wb,A,n,c,l,GA,gn,gc,MA,mn,mc,FA,fn,fc,M,F,ar⟩:=p;have H:=ag h hN;have al:=h.blk.lt;have cm:=h.src.lt;simp only at al cm;clear h hN;go_enter func148,ntmps148;exact AZ
namespace Ca
theorem dE(h:p:=by
 generalize cu:World.setCell _ _ _=Y;obtain⟨bK,bt,bR⟩:=dY (M:=λb=>b=s) [.int .i64 x.bg,.int .i64 x.numOf,.string x.bA,.slice cw cc cC] (by rfl) bO.o bc.2 (Lk _) cu;obtain⟨bl,aA,aO⟩:=bK.two;go_wp2_with(fail);refine LU (v:=.agg #[.int .i64 x.bg,.int .i64 x.numOf,.string x.bA,.slice cw cc cC]) (by simp[results,Tryz.results128,go_sem,bl]) rfl ?_;obtain⟨hx,aN,bo,cr,bN⟩:=aQ.o;have a1:x.src V 2:=by
  obtain rfl|rfl:k=0\/k=1:=ad
  .exact iO 1 x hx
  .exact hx
 exact⟨x,cw,cc,cC,rfl,a1,aN,(bo.al λb O=>bR.block b O.2 (aD O.1)).mono λb O=>⟨by have:=O.1;omega,Ll O.2 bR.size⟩,bc.1.cS bR (λb O h=>ad),bt⟩
 ):p:=h
theorem AM(h:p:=by
 refine LU (v:=.agg #[.int .i64 x.bg,.int .i64 x.numOf,.string x.bA,.slice cw cc cC]) (by simp[results,Tryz.results128,go_sem,bl]) rfl ?_;obtain⟨hx,aN,bo,cr,bN⟩:=aQ.o;exact⟨x,cw,cc,cC,rfl,iO 1 x (iO 0 x hx),aN,(bo.al λb O=>bR.block b O.2 (aD O.1)).mono λb O=>⟨by have:=O.1;omega,Ll O.2 bR.size⟩,bc.1.cS bR (λb O h=>ad),bt⟩
 ):p:=h
theorem A0(h:p:=by
 cases ar with
 | false=>
  go_wp2_with(fail);refine(py s A n c l V N bn aa bq 0 ad W ah.1.src ah.2.1).mono ?_;rintro e aU ⟨x,cw,cc,cC,rfl,hx,aN,bo,h,he⟩;have aR:=ah.2.2.2.on he ad;have bc:=ag h (ah.2.2.1.trans he);have aQ:=cJ hx aN bo he.size ah.2.2.2.lt
  exact BO
 | true=>
  have gP:¬wb=s:=by have:=ah.1.ne;simp only at this;omega
  go_upto_region 3 with(fail);refine eC (λb=>b=s) [(0,3),(1,3),(2,3),(3,0),(4,3),(5,3),(6,3),(7,3),(8,0),(9,1),(10,3),(11,2),(12,2)] ?_
  iterate 3 refine pf ?_
  refine oQ ?_
  iterate 4 refine pf ?_
  refine oQ ?_;refine aG rfl (λK hK=>?_);go_simp;refine(a9 W.drew s A n c l 2 (ah.1.aj LW.drew).src ad ad).mono ?_;rintro e aS ⟨cv,rfl,aZ,b1,h,he⟩;obtain⟨k,rfl⟩:=Lp aZ;have b0:k<2:=ad;have ai:Fr (λb=>b=s) W aS:=Fr.aF he.fr;have H1:=bJ (ah.1.next h ai) (ah.2.1.on ai) (ah.2.2.1.trans ai) (ah.2.2.2.on ai ad);refine dq hK (he.fr) ?_;clear hK K;clear h he ai a0 aj af aZ b1;refine pf ?_;refine ax rfl (λK hK=>?_);go_simp;have cd:(1:Int)+(k:Int)=((k+1:Nat):Int):=ad;rw[cd,show IntKind.i64.wrap ((k+1:Nat):Int)=((k+1:Nat):Int) from IntWalk.i64_in _ ad];refine(py s A n c l V N bn aa bq (k+1) ad aS H1.1.src H1.2.1).mono ?_;rintro e aU ⟨x,cw,cc,cC,rfl,hx,aN,bo,h,he⟩;have aR:=H1.2.2.2.on he ad;have bc:=ag h (H1.2.2.1.trans he);have aQ:=cJ hx aN bo he.size H1.2.2.2.lt;obtain⟨e0,a6,aP⟩:=aR.two;have bO:=ae aR;clear h he aR hx aN bo;refine dP hK ?_;clear hK K;exact eT
 ):p:=h
end Ca
open Ca in
theorem jQ(p:kr)(left:Nat)(V:L4)(N:L3)(bn aa:Nat)(w:World)(h:gA w p left)(hN:nv w p.s V N bn)(bq:bn<=1000) :
  Calls prog 128 #[.pointer (some ⟨p.wb,0,none⟩),.slice N bn aa] w (tZ w p.s p.A p.n p.c p.l V 2):=by
 obtain⟨s,wb,A,n,c,l,GA,gn,gc,MA,mn,mc,FA,fn,fc,M,F,ar⟩:=p;have H:=ag h hN;have al:=h.blk.lt;have cm:=h.src.lt;simp only at al cm;clear h hN;go_enter func128,ntmps128;exact AZ
def IW(w:World)(p:kr)(V:L4)(ps:List (ByteArray×Bool))(e:Ending)(ab:World):Prop:=
 ∃(r:eS) (IA:L3) (i ic:Nat),e=.returned (.agg #[.string r.name,.slice IA i ic])/\(∀fs,su ⟨p.M,ps,fs⟩ V r)/\i<=ic/\Sl ab (fresh w ab) IA i (r.idx.toList.map bp)/\cn ab p.s p.A p.n p.c p.l/\Fr (λb=>b=p.s) w ab
theorem tD{x:ByteArray×Bool}:(dv x).rep w P cs↔cs=[.string x.1,.bool x.2]:=by
 exact Hh
theorem vf{x:ByteArray}:(D.s x).rep w P cs↔cs=[.string x]:=by simp only[D.rep]
theorem rf(p:kr)(left:Nat)(V:L4)(N:L3)(bn aa:Nat)(bm:ByteArray)(ps:List (ByteArray×Bool))(QA:L3)(co qc:Nat)(bS:Value)(w:World)(h:gA w p left)(hN:nv w p.s V N bn)(bq:bn<=1000)
  (cg:Sl w (off (λb=>b=p.s) w) QA co (ps.map dv)) (bA:co<=2) :
  Calls prog 127 #[.pointer (some ⟨p.wb,0,none⟩),.agg #[.string bm,.slice QA co qc,bS],.slice N bn aa] w (IW w p V ps):=by
 obtain⟨s,wb,A,n,c,l,GA,gn,gc,MA,mn,mc,FA,fn,fc,M,F,ar⟩:=p;have H:=aE h hN cg;have al:=h.blk.lt;have cm:=h.src.lt;have I:=h.nm;have a3:M.length=mn:=by have:=h.ms.1;simpa using this
 simp only at al cm I;clear h hN cg;go_enter func127,ntmps127;go_wp2_with(fail);generalize be:World.alloc _ _=W;have aw:=iS be;have cG:=gG be;have bC:=gf be;have c5:W.heap.size=w.heap.size+1+1:=by rw[<-be];simp
 have ah:=aE aw cG bC;clear be aw cG bC;obtain⟨eQ,r⟩:∃eQ:Nat->List D,eQ=λj=>(M.take j).map λm=>D.s m.name:=⟨_,rfl⟩
 have ao:eQ 0=[]:=by rw[r];rfl
 have aK:∀j m,M[j]?=some m->eQ (j+1)=eQ j++[.s m.name]:=λj m h=>by rw[r];simp only;rw[List.take_add_one,h];simp
 obtain⟨a1,aQ,S⟩:=ek r ao aK;clear r ao aK;go_loopw [7,8] (λhk cy wr=>∃(k:Nat) (ce:L3) (rc:Nat),k<=mn/\cy=.int .i64 k/\hk=.slice ce k rc/\Ext W wr/\Gr (λ_=>False) (w.heap.size+1+1) 9 1 wr ce k rc (eQ k)) (λ_ cy _=>mn - (intOf cy).toNat)
 case atStart=>exact⟨0,none,0,LJ _,rfl,rfl,LW,by rw[aQ.o];exact Gr.nil _ _ _ _ _⟩
 case round=>
  obtain⟨k,ce,rc,ap,rfl,rfl,aw,hG⟩:=hrel;obtain⟨bo,cX⟩:=aJ aw hG;have J:=H.1.aj (ah.1.trans aw);obtain⟨a0,aj,af⟩:=J.blk.two;by_cases dt:k<mn
  .obtain⟨b,o,m,cs,aN,O,hm,ba,a8,hc⟩:=Sl.g6 (z:=3) J.ms (λ_=>rfl) dt;simp only at aN;subst aN;obtain rfl:=fh.1 ba;have c0:=hc 0 _ rfl;simp only[Lu] at c0;have cR:=ae hm;have br:(0:Int)<=(k:Int):=ad;have cd:(k:Int)<(mn:Int):=ad;have ak:w.heap.size+1+1<=wr.heap.size:=by have:=aw.size;omega
   clear aw hG J ba hc a8 hm;go_wp2_with((at_builtin;refine bT ky rfl (.tmp 23) (.tmp 33) rfl cX.o (vf.2 rfl) rfl rfl rfl ad ad ak ?_;intro bf c2 aU bH az cl ca;have bY:=ag bH az;clear bH az cl ca));have aZ:Ext W aU:=bo.eR (bY.2.below bo.size λj bi O=>by have:=(cX.lt O).1;omega);have aX:=ae aZ;clear aZ;go_roundw
   case rel=>exact⟨k+1,bf,c2,ad,by go_num,rfl,aX.o,by rw[S.o k m cR.o];exact bY.1⟩
   case measure=>exact aH
  .obtain rfl:k=mn:=ad;have bP:Gr (λ_=>False) (w.heap.size+1+1) 9 1 wr ce k rc ((M.map (·.name)).map D.s):=by
    have:=cX.o;rw[a1.o] at this;simp only at this;rw[Ls ad] at this;rw[List.map_map];exact this
   have bN:=ae bP;clear aw hG J cX bP a1 aQ S;go_wp2_with(fail);go_loopw [7,10] (λhk cy wr=>∃(j:Nat) (ce:L3) (rc:Nat) (dO:L4),j<=co/\cy=.int .i64 j/\hk=.slice ce (k+dO.length) rc/\dO.length<=2*j/\(∀x∈dO,(x,true)∈ps)/\Ext W wr/\Gr (λ_=>False) (w.heap.size+1+1) 9 1 wr ce (k+dO.length) rc ((M.map (·.name)++dO).map D.s)) (λ_ cy _=>co - (intOf cy).toNat)
   case atStart=>exact⟨0,ce,rc,[],LJ _,rfl,rfl,by simp,(λx hx=>by cases hx),bo.o,by rw[LM];exact bN.o⟩
   case round=>
    obtain⟨j,ce,rc,dO,bi,rfl,rfl,bj,aG,aw,hG⟩:=hrel;clear bN bo;obtain⟨bo,cX,L⟩:=ek aw hG aG;have ak:w.heap.size+1+1<=wr.heap.size:=by have:=aw.size;omega
    by_cases dt:j<co
    .obtain⟨d0,aL,aM⟩:=(ah.2.1.aj aw).two;obtain⟨b,o,q,cs,bQ,O,hm,ba,a8,hc⟩:=Sl.g6 (z:=2) (Sl.c8 H.2.2 ((ah.1.trans aw).mono (M':=λb=>b=s) λ_ h=>h.elim)) (λ_=>rfl) dt;subst bQ;obtain rfl:=tD.1 ba;have c0:=hc 0 _ rfl;have c1:=hc 1 _ rfl;simp only[Lu] at c0;have cR:=ae hm;have T:=O.1;have fa:(0:Int)<=(j:Int):=ad;have f0:(j:Int)<(co:Int):=ad;clear aw hG ba hc a8 hm aG O;obtain⟨q1,cN⟩:=q
     cases cN with
     | false=>
      go_wp2_with(fail);go_roundw
      case rel=>exact⟨j+1,ce,rc,dO,ad,by go_num,rfl,ad,L.o,bo.o,cX.o⟩
      case measure=>exact aH
     | true=>
      go_upto_region 11 with(fail);refine eC (λ_=>False) [(0,3),(1,3),(2,0),(3,3),(4,3),(5,3),(6,0),(7,3),(8,0),(9,3),(10,3),(11,3),(12,0),(13,2),(14,2),(15,3)] ?_
      iterate 2 refine pf ?_
      refine ph ?_
      iterate 3 refine pf ?_
      refine ph ?_;refine pf ?_;refine ph ?_
      iterate 3 refine pf ?_
      refine ph ?_;refine ax rfl (λK hK=>?_);go_simp;refine dP hK ?_;clear hK K;generalize bF:World.drew (World.alloc _ _)=Z;have bd:=gK bF;have bk:=kx bF;have ay:Src Z 1 (some ⟨wr.heap.size,0,none⟩) 2 [.string q1,.string q1]:=⟨rfl,λu hu=>by
       simp only[LC,List.not_mem_nil,or_false] at hu;rcases hu with rfl|rfl<;>rfl,λ_=>⟨_,0,rfl,λj u bi=>by rw[LF,bk.cell];simpa using bi⟩⟩
      have bG:=cX.aj bd;have bv:=bd.size;clear bF d0 aL aM c0 c1;refine ax rfl (λK hK=>?_);rw[if_pos (by rfl)];refine xB ky (.tmp 50) (.tmp 63) (by rfl) bG (m:=2) (k:=[D.s q1,D.s q1]) (ct.2 ⟨_,rfl,ct.2 ⟨_,rfl,aP.2 rfl⟩⟩) rfl ay (λh=>by cases h) (by rfl) (by rfl) ad ad ad ?_;intro bf c2 aU bH az cl ca;have aZ:Ext W aU:=(bo.trans bd).eR (az.below (aD bo.size) λi an O=>by have:=(cX.lt O).1;omega);have bY:=ag bH aZ;clear bH az cl ca aZ bG bd bk ay;refine dP hK ?_;clear hK K;refine pf ?_;refine aC ?_;go_wp2_with(fail);go_roundw
      case rel=>
       refine⟨j+1,bf,c2,dO++[q1,q1],ad,by go_num,by simp[Nat.add_assoc],by simp;omega,?_,bY.2,?_⟩
       .intro x hx;rcases Lt.1 hx with hx|hx
        .exact L.o x hx
        .simp at hx;subst hx;exact Ln cR.o
       .have:=bY.1;rw[<-List.append_assoc,Lr,Lm];exact this
      case measure=>exact aH
    .obtain rfl:j=co:=ad;have J:=H.1.aj (ah.1.trans aw);obtain⟨a0,aj,af⟩:=J.blk.two;obtain⟨d0,aL,aM⟩:=(ah.2.1.aj aw).two;have b4:1<=k+dO.length/\k+dO.length<=8:=ad;have bB:=ae J;clear aw hG aG J;go_wp2_with(fail);refine(a9 wr s A n c l ((k+dO.length:Nat):Int) bB.src ad ad).mono ?_;rintro e aS ⟨cW,rfl,R,aV,h,he⟩;obtain⟨i3,rfl⟩:=Lp R;have e1:i3<k+dO.length:=ad;have cq:s<w.heap.size:=cm;have bz:=bB.next h he.fr;have aT:Fr (λb=>b=s) w aS:=((ah.1.trans bo.o).mono λ_ h=>h.elim).trans he.fr;have cA:=cX.c8 he.fr (λb O _=>⟨λh=>h,ad⟩);have bC:=(ah.2.2.aj bo.o).on he.fr (λh=>ad);have H1:=bJ bz aT cA bC;have U:Sl aS (av aS) ce (k+dO.length) ((M.map (·.name)++dO).map D.s):=cA.sl (λ_ _ h=>h.elim) (λ_ h _=>h);obtain⟨b,o,x,cs,bW,O,hm,ba,a8,hc⟩:=Sl.g6 (z:=1) U (λ_=>rfl) e1;subst bW;obtain rfl:=vf.1 ba;have c0:=hc 0 _ rfl;simp only[Nat.mul_one,Lu] at c0;have cR:=ae hm;have b1:(0:Int)<=(i3:Int):=ad;have b2:(i3:Int)<((k+dO.length:Nat):Int):=ad;clear h he bz aT cA U ba hc a8 hm a0 aj af d0 aL aM bB R aV bC;go_upto_region 14 with(fail);generalize hX:World.alloc _ _=X;have bs:=aW hX;have cx:=aI hX;have b3:w.heap.size+1+1<=aS.heap.size:=by have:=H1.2.2.2.lt;omega
     have bc:=cJ (H1.1.aj bs) (H1.2.1.trans (bs.mono λ_ h=>h.elim)) (H1.2.2.2.aj bs) cx (H.2.1.on (H1.2.1.trans (bs.mono λ_ h=>h.elim)));clear hX bs cx H1 c0;obtain⟨a0,aj,af⟩:=bc.1.blk.two;obtain⟨a7,am,aF⟩:=bc.2.2.1.two;obtain⟨d0,aL,aM⟩:=bc.2.2.2.1.two;have gP:¬wb=s:=by have:=bc.1.ne;simp only at this;omega
     by_cases bx:i3<k
     .obtain⟨ht,bE,m,cs,aN,cc,P,ba,a8,hc⟩:=Sl.g6 (z:=3) bc.1.ms (λ_=>rfl) bx;simp only at aN;subst aN;obtain rfl:=fh.1 ba;have c2:=hc 2 _ rfl;have aB:x=m.name:=by
       have:=cR.o;rw[List.getElem?_append_left (by simp;omega),List.getElem?_map,P] at this;injection this with this;exact this.symm
      have bM:m∈M:=Ln P;have a4:=bc.1.fB m bM;have au:=ag aB bM;have bV:(i3:Int)<(k:Int):=ad;clear ba hc a8 P aB bM cc;by_cases bI:0<m.size
      .go_wp2_with(fail);refine(y1 ⟨s,wb,A,n,c,l,GA,gn,gc,_,k,mc,FA,fn,fc,M,F,ar⟩ left V N bn aa m.size bI a4.2 X bc.1 bc.2.2.2.2 bq).mono ?_;rintro e b6 ⟨y,aY,cP,cZ,rfl,bb,dd,cV,ay,ai⟩;simp only at ay ai;have bD:=bc.2.2.1.on ai ad;have cz:=bc.2.2.2.1.on ai ad;have a2:=bc.2.1.trans ai;have bh:=ai.size;clear a0 aj af a7 am aF d0 aL aM c2;obtain⟨a7,am,aF⟩:=bD.two;obtain⟨d0,aL,aM⟩:=cz.two;have bu:=h2 bb dd cV ay a2 bD cz;clear bb dd cV ay a2 ai bD cz;go_upto_region 16 with(fail);generalize bF:World.setCell _ _ _=Z;have bv:Z.heap.size=b6.heap.size:=by rw[<-bF];simp
       generalize hQ:World.alloc _ _=Q;have bg:=cO bF;have ab:=aW hQ;have aR:aq Q b6.heap.size 53 #[.int .i64 y.bg,.int .i64 y.numOf,.string y.bA,.slice aY cP cZ]:=hQ▸aq.gC _ _ _ bv.symm;have bU:aq Q aS.heap.size 204 #[.string x,.slice (some ⟨b6.heap.size,0,none⟩) 1 1]:=by
        have ac:aq Z aS.heap.size 204 #[.string x,.slice (some ⟨b6.heap.size,0,none⟩) 1 1]:=bF▸bu.2.2.2.2.2.2.aM 1 _;exact ac.aj ab
       have bL:=((bu.2.2.2.2.2.1.on bg ad).aj ab)
       have bO:Fr (λb=>b=s) w Q:=(bu.2.2.2.2.1.eR (bg.below bu.2.2.2.2.1.size λi an h=>ad)).trans (ab.mono λ_ h=>h.elim);have a6:cn Q s A n c l:=(bu.2.2.2.1.cS bg λb O h=>ad).cS ab λ_ _ h=>h;have db:aS.heap.size<X.heap.size:=bc.2.2.2.1.lt;have bw:Sl Q (fresh X Q) aY cP (y.args.map bp):=(bu.2.2.1.al λb O=>(ab.block b (aD O.2) λh=>h).trans (bg.block b O.2 (aD O.1))).mono λb O=>⟨O.1,by have:=O.2;have:=ab.size;omega⟩
       have bZ:=cJ aR bL bO a6 bw;have b5:=aR.lt;clear a7 am aF d0 aL aM;obtain⟨a7,am,aF⟩:=bL.two;obtain⟨d0,aL,aM⟩:=bU.two;clear bF hQ bg ab aR bU bL bO a6 bw;go_wp2_with(fail);generalize cu:World.setCell _ _ _=Y;obtain⟨bK,bt,bR⟩:=dY (M:=λb=>b=s) [.string x,.slice (some ⟨b6.heap.size,0,none⟩) 1 1] (by rfl) bZ.2.1 bZ.2.2.1 ad cu;obtain⟨bl,aA,aO⟩:=bK.two;refine LU (v:=.agg #[.string x,.slice (some ⟨b6.heap.size,0,none⟩) 1 1]) (by simp[results,Tryz.results127,go_sem,bl]) rfl ?_;obtain⟨aR,_,_,a6,bw⟩:=bZ.o;have b0:Sl Y (fresh w Y) aY cP (y.args.map bp):=(bw.al λb O=>bR.block b O.2 (aD O.1)).mono λb O=>⟨by have:=O.1;omega,Ll O.2 bR.size⟩
       refine⟨⟨x,some y⟩,some ⟨b6.heap.size,0,none⟩,1,1,rfl,λfs=>.inl ⟨m,au.2,au.1.symm,λ_=>⟨y,rfl,bu.1⟩,λh=>absurd bI h⟩,Lk _,?_,a6.cS bR (λb O h=>ad),bt⟩;exact Sl.tv (aR.on bR ad) (D.bm.2 (a5.2 ⟨aY,cP,cZ,rfl,bu.2.1,b0⟩)) ⟨ad,by have:=bR.size;omega⟩ rfl
      .go_wp2_with(fail);generalize cu:World.setCell _ _ _=Y;obtain⟨bK,bt,bR⟩:=dY (M:=λb=>b=s) [.string x,.slice none 0 0] (by rfl) bc.2.2.1 bc.2.1 ad cu;obtain⟨bl,aA,aO⟩:=bK.two;refine LU (v:=.agg #[.string x,.slice none 0 0]) (by simp[results,Tryz.results127,go_sem,bl]) rfl ?_;exact⟨⟨x,none⟩,none,0,0,rfl,λfs=>.inl ⟨m,au.2,au.1.symm,λh=>absurd h ad,λ_=>rfl⟩,Lk _,Sl.bR _,bc.1.src.cS bR (λb O h=>by simp only at O;omega),bt⟩
     .have bV:¬(i3:Int)<(k:Int):=ad;go_wp2_with(fail);generalize cu:World.setCell _ _ _=Y;obtain⟨bK,bt,bR⟩:=dY (M:=λb=>b=s) [.string x,.slice none 0 0] (by rfl) bc.2.2.1 bc.2.1 ad cu;obtain⟨bl,aA,aO⟩:=bK.two;refine LU (v:=.agg #[.string x,.slice none 0 0]) (by simp[results,Tryz.results127,go_sem,bl]) rfl ?_;have bX:x∈dO:=by
       have:=cR.o;rw[List.getElem?_append_right (by simp;omega)] at this;exact Ln this
      exact⟨⟨x,none⟩,none,0,0,rfl,λfs=>.inr ⟨L.o x bX,rfl⟩,Lk _,Sl.bR _,bc.1.src.cS bR (λb O h=>by simp only at O;omega),bt⟩
theorem xX:cj prog 205 231 (.agg #[.bool false,.string ⟨#[]⟩,.slice none 0 0,.int .i64 0,.int .i64 0,.string ⟨#[]⟩,.slice none 0 0]) 7 104:=cj.mk' Tryz.underlying205 (by kernel_rfl) rfl ad
theorem Gl{r:eS}{IA:L3}{i ic:Nat}(h:Sl w P IA i (r.idx.toList.map bp))(hc:i<=ic):(gN (.mx r)).rep w P [.bool true,.string r.name,.slice IA i ic,.int .i64 0,.int .i64 0,.string ⟨#[]⟩,.slice none 0 0]:=by
 unfold gN;rw[bM];exact fv.2 ⟨_,rfl,gU.2 ⟨[.string r.name,.slice IA i ic],_,rfl,jD.2 ⟨IA,i,ic,rfl,hc,h⟩,D.bm.2 (fj.2 ⟨none,0,rfl⟩)⟩⟩
theorem Gk{x:VE}{cw:L3}{cc cC:Nat}(h:Sl w P cw cc (x.args.map bp))(hc:cc<=cC):(gN (.ex x)).rep w P [.bool false,.string ⟨#[]⟩,.slice none 0 0,.int .i64 x.bg,.int .i64 x.numOf,.string x.bA,.slice cw cc cC]:=by
 unfold gN;rw[bM];refine fv.2 ⟨_,rfl,gU.2 ⟨[.string ⟨#[]⟩,.slice none 0 0],_,rfl,?_,D.bm.2 (a5.2 ⟨cw,cc,cC,rfl,hc,h⟩)⟩⟩;exact zU
theorem nY{G:Env}{V:L4}{q:ByteArray×Bool}{a:ds}:∀(ps:List (ByteArray×Bool)) (aV:List ds),iR G V ps aV->JC G V q a->iR G V (ps++[q]) (aV++[a])
 | [],[],_,h=>⟨h,trivial⟩
 | _::ps,_::aV,h,au=>⟨h.1,nY ps aV h.2 au⟩
 | [],_::_,h,_=>h.elim
 | _::_,[],h,_=>h.elim
def IK(w:World)(p:kr)(V:L4)(ps gs:List (ByteArray×Bool))(e:Ending)(ab:World):Prop:=
 ∃(aV:List ds) (KA:L3) (k kc:Nat),e=.returned (.slice KA k kc)/\(∀fs,iR ⟨p.M,ps,fs⟩ V gs aV)/\k<=kc/\Sl ab (fresh w ab) KA k (aV.map gN)/\cn ab p.s p.A p.n p.c p.l/\Fr (λb=>b=p.s) w ab
theorem zp(p:kr)(left:Nat)(V:L4)(N:L3)(bn aa:Nat)(bm:ByteArray)(ps:List (ByteArray×Bool))(QA:L3)(co qc:Nat)(bS:Value)(m:ByteArray)(gs:List (ByteArray×Bool))(bU:L3)(bW bE:Nat)(u:Value)(w:World)(h:gA w p left)(hN:nv w p.s V N bn)(bq:bn<=1000)
  (cg:Sl w (off (λb=>b=p.s) w) QA co (ps.map dv)) (bA:co<=2) (bz:Sl w (off (λb=>b=p.s) w) bU bW (gs.map dv)) (c9:bW<=2) :
  Calls prog 129 #[.pointer (some ⟨p.wb,0,none⟩),.agg #[.string bm,.slice QA co qc,bS],.agg #[.string m,.slice bU bW bE,u],.slice N bn aa] w (IK w p V ps gs):=by
 obtain⟨s,wb,A,n,c,l,GA,gn,gc,MA,mn,mc,FA,fn,fc,M,F,ar⟩:=p;have al:=h.blk.lt;have cm:=h.src.lt;have ci:gs.length=bW:=by have:=bz.1;simpa using this
 simp only at al cm;have H:=bJ h hN cg bz;clear h hN cg bz;go_enter func129,ntmps129;go_wp2_with(fail);generalize be:World.alloc _ _=W;have aw:=iS be;have cG:=gG be;have bC:=gf be;have c5:W.heap.size=w.heap.size+1+1:=by rw[<-be];simp
 have ah:=bJ (H.1.aj aw) (aw.mono (M':=λb=>b=s) λ_ h=>h.elim) cG bC;clear be aw cG bC;go_loopw [9,10] (λaT cy wr=>∃(j:Nat) (ce:L3) (rc:Nat) (aV:List ds),j<=bW/\cy=.int .i64 j/\aT=.slice ce j rc/\(∀fs,iR ⟨M,ps,fs⟩ V (gs.take j) aV)/\gA wr ⟨s,wb,A,n,c,l,GA,gn,gc,MA,mn,mc,FA,fn,fc,M,F,ar⟩ left/\Fr (λb=>b=s) w wr/\aq wr w.heap.size 157 #[.string bm,.slice QA co qc,bS]/\aq wr (w.heap.size+1) 157 #[.string m,.slice bU bW bE,u]/\
  Gr (λb=>w.heap.size<=b) (w.heap.size+1+1) 231 7 wr ce j rc (aV.map gN)) (λ_ cy _=>bW - (intOf cy).toNat)
 case atStart=>exact⟨0,none,0,[],LJ _,rfl,rfl,λfs=>trivial,ah.1,ah.2.1,ah.2.2.1,ah.2.2.2,Gr.nil _ _ _ _ _⟩
 case round=>
  obtain⟨j,ce,rc,aV,bi,rfl,rfl,aK,J,hF,b1,bj,hG⟩:=hrel;clear ah;have a3:=cJ J hF b1 bj hG;have au:=ae aK;obtain⟨d0,aL,aM⟩:=bj.two;obtain⟨e0,a6,aP⟩:=b1.two;by_cases dt:j<bW
  .obtain⟨b,o,q,cs,eK,O,hm,ba,a8,hc⟩:=Sl.g6 (z:=2) (Sl.c8 H.2.2.2 hF) (λ_=>rfl) dt;subst eK;obtain rfl:=tD.1 ba;have c1:=hc 1 _ rfl;have cR:=ae hm;have fa:(0:Int)<=(j:Int):=ad;have f0:(j:Int)<(bW:Int):=ad;have nt:=hF.size;clear ba hc a8 hm O J hF b1 bj hG aK;obtain⟨q1,cN⟩:=q;simp only at c1
   cases cN with
   | true=>
    go_wp2_with(fail);refine(rf ⟨s,wb,A,n,c,l,GA,gn,gc,MA,mn,mc,FA,fn,fc,M,F,ar⟩ left V N bn aa bm ps QA co qc bS wr a3.1 (H.2.1.on a3.2.1) bq (Sl.c8 H.2.2.1 a3.2.1) bA).mono ?_;rintro e aU ⟨r,IA,i,ic,rfl,a1,b0,ax,ay,ai⟩;simp only at a1 ay ai;have L:=a3.2.2.2.2.c8 ai (λb O _=>⟨ad,ad⟩);have hd:(gN (.mx r)).rep aU (lL (λb=>w.heap.size<=b) aU (.slice ce j rc)) [.bool true,.string r.name,.slice IA i ic,.int .i64 0,.int .i64 0,.string ⟨#[]⟩,.slice none 0 0]:=
     Gl (ax.mono λb O=>⟨by have:=O.1;omega,O.2,λh=>by have:=(a3.2.2.2.2.lt h).2;have:=O.1;omega⟩) b0
    have bc:=cH (a3.1.next ay ai) (a3.2.1.trans ai) (a3.2.2.1.on ai ad) (a3.2.2.2.1.on ai ad) L hd;have g:=ae a1;have ak:w.heap.size+1+1<=aU.heap.size:=by have:=ai.size;omega
    clear d0 aL aM e0 a6 aP c1 L hd ai ay ax b0 a1 a3;go_wp2_with((at_builtin;refine bT xX rfl (.tmp 24) (.tmp 30) rfl bc.2.2.2.2.1 bc.2.2.2.2.2 rfl rfl rfl ad ad ak ?_;intro bf c2 b6 bH az cl ca;have bY:=ag bH az;clear bH az cl ca));have bB:∀b,(Value.slice ce j rc).ownBlock=some b->w.heap.size+1+1<=b:=λb O=>(bc.2.2.2.2.1.lt O).1;have a4:Fr (λb=>b=s) w b6:=bc.2.1.eR (bY.2.below bc.2.1.size λk ap h=>by have:=bB k h;omega);have cD:gA b6 ⟨s,wb,A,n,c,l,GA,gn,gc,MA,mn,mc,FA,fn,fc,M,F,ar⟩ left:=(H.1).next (bc.1.src.cS bY.2 λb O h=>by have:=bB b h;simp only at O;omega) a4;have bX:=cJ cD a4 (bc.2.2.1.on bY.2 (λh=>by have:=bB _ h;omega)) (bc.2.2.2.1.on bY.2 (λh=>by have:=bB _ h;omega)) bY.1;clear bB a4 cD;go_roundw
    case rel=>
     refine⟨j+1,bf,c2,aV++[.mx r],ad,by go_num,rfl,λfs=>?_,bX.1,bX.2.1,bX.2.2.1,bX.2.2.2.1,by rw[Lr];exact bX.2.2.2.2⟩;rw[List.take_add_one,cR.o];exact nY _ _ (au.o fs) ⟨rfl,g.o fs⟩
    case measure=>exact aH
   | false=>
    go_wp2_with(fail);refine(jQ ⟨s,wb,A,n,c,l,GA,gn,gc,MA,mn,mc,FA,fn,fc,M,F,ar⟩ left V N bn aa wr a3.1 (H.2.1.on a3.2.1) bq).mono ?_;rintro e aU ⟨x,cw,cc,cC,rfl,a1,b0,ax,ay,ai⟩;simp only at ay ai;have L:=a3.2.2.2.2.c8 ai (λb O _=>⟨ad,ad⟩);have hd:(gN (.ex x)).rep aU (lL (λb=>w.heap.size<=b) aU (.slice ce j rc)) [.bool false,.string ⟨#[]⟩,.slice none 0 0,.int .i64 x.bg,.int .i64 x.numOf,.string x.bA,.slice cw cc cC]:=
     Gk (ax.mono λb O=>⟨by have:=O.1;omega,O.2,λh=>by have:=(a3.2.2.2.2.lt h).2;have:=O.1;omega⟩) b0
    have bc:=cH (a3.1.next ay ai) (a3.2.1.trans ai) (a3.2.2.1.on ai ad) (a3.2.2.2.1.on ai ad) L hd;have g:=ae a1;have ak:w.heap.size+1+1<=aU.heap.size:=by have:=ai.size;omega
    clear d0 aL aM e0 a6 aP c1 L hd ai ay ax b0 a1 a3;go_wp2_with((at_builtin;refine bT xX rfl (.tmp 32) (.tmp 37) rfl bc.2.2.2.2.1 bc.2.2.2.2.2 rfl rfl rfl ad ad ak ?_;intro bf c2 b6 bH az cl ca;have bY:=ag bH az;clear bH az cl ca));have bB:∀b,(Value.slice ce j rc).ownBlock=some b->w.heap.size+1+1<=b:=λb O=>(bc.2.2.2.2.1.lt O).1;have a4:Fr (λb=>b=s) w b6:=bc.2.1.eR (bY.2.below bc.2.1.size λk ap h=>by have:=bB k h;omega);have cD:gA b6 ⟨s,wb,A,n,c,l,GA,gn,gc,MA,mn,mc,FA,fn,fc,M,F,ar⟩ left:=(H.1).next (bc.1.src.cS bY.2 λb O h=>by have:=bB b h;simp only at O;omega) a4;have bX:=cJ cD a4 (bc.2.2.1.on bY.2 (λh=>by have:=bB _ h;omega)) (bc.2.2.2.1.on bY.2 (λh=>by have:=bB _ h;omega)) bY.1;clear bB a4 cD;go_roundw
    case rel=>
     refine⟨j+1,bf,c2,aV++[.ex x],ad,by go_num,rfl,λfs=>?_,bX.1,bX.2.1,bX.2.2.1,bX.2.2.2.1,by rw[Lr];exact bX.2.2.2.2⟩;rw[List.take_add_one,cR.o];exact nY _ _ (au.o fs) ⟨rfl,g.o⟩
    case measure=>exact aH
  .obtain rfl:j=bW:=ad;clear J hF b1 bj hG aK;go_wp2_with(fail);go_ret;have ac:=au.o;rw[Ls ad] at ac;exact⟨aV,ce,j,rc,rfl,ac,a3.2.2.2.2.cap.1,a3.2.2.2.2.sl (λb h hp=>⟨hp,h⟩) (λb h hp=>⟨ad,h⟩),a3.1.src,a3.2.1⟩
end Go.Proofs.YtkhnkojkplbioaaGreat

/- Part 22 of the proof. No condition of its own. -/
import Derived.Test.YtajlmkkidmjgoaaGreatDoorQ13
import Derived.Test.YtajlmkkidmjgoaaGreatDoorQ15
namespace Go.Proofs.YtajlmkkidmjgoaaGreatDoor
open Go.RowKit Go.Proofs.Tryz
set_option maxRecDepth 1000000
set_option maxHeartbeats 25600000
set_option linter.unusedVariables false
variable{V:IQ}{l:List D}{cs:List Value}{bH g left n s:Nat}{M P:Nat->Prop}{A:IP}{p:Prop}{t:TypeId}{ab w:World}
theorem fN.fr(h:fN s w ab):Fr (λb=>b=s) w ab:=⟨h.os,h.tape,h.output,h.size,h.block⟩
theorem dG{X V:World}{cs:Array Value}(vs:List Value)(hs:cs.size=vs.length)(aS:an V g t cs)(aw:Fr M w V)(aM:w.heap.size<=g)(hX:ql g V 0 vs=X):
  an X g t vs.toArray/\Fr M w X/\Fr (λb=>b=g) V X:=by
 subst hX;have aA:=l8 (g:=g) vs 0 V;refine⟨?_,aw.eA (aA.below aw.size λk ap h=>ad),aA⟩;have ac:=kF vs 0 V cs aS;have J:iw cs 0 vs=vs.toArray:=by
  apply Array.toList_inj.1
  rw[lL vs 0 cs ad];simp;omega
 rwa [J] at ac
theorem b1.cz{c:Nat}{l:List Int}(h:b1 w s A n c l)(O:Fr M w ab)(a6:∀b,b<=s->¬M b):b1 ab s A n c l:=
 h.Fp (g:=s+1) (O.below h.lt λk ap=>a6 k ad) ad
theorem Sl.A9{aO aT:World}(h:Sl aO (fresh w aO) A n l)(O:Fr M aO aT)(a6:∀b,M b->b<w.heap.size):Sl aT (fresh w aT) A n l:=
 (h.al λb bo=>O.block b bo.2 λhm=>by have:=a6 b hm;have:=bo.1;omega).mono λb bo=>⟨bo.1,Hy bo.2 O.size⟩
theorem Sl.ru(aS:an w g t cs.toArray)(aY:D.aO w P l cs)(U:P g)(hl:l.length=n):Sl w P (some ⟨g,0,none⟩) n l:=
 ⟨hl,λ_=>⟨g,0,cs,rfl,U,aY,λj u a1=>by rw[It,aS.cell];simpa using a1⟩⟩
def r3(w:World)(s:Nat)(A:IP)(n c:Nat)(l:List Int)(V:IQ)(d:Nat)(e:Ending)(ab:World):Prop:=
 ∃(x:VE) (cy:IP) (cp cD:Nat),e=.returned (.agg #[.int .i64 x.aZ,.int .i64 x.numOf,.string x.bg,.slice cy cp cD])/\x.src V d/\cp<=cD/\Sl ab (fresh w ab) cy cp (x.args.map a7)/\b1 ab s A n c l/\Fr (λb=>b=s) w ab
def mH(w:World)(s:Nat)(V:IQ)(P:IP)(bH:Nat):Prop:=Sl w (off (λb=>b=s) w) P bH (V.map .s)
theorem mH.on{P:IP}(h:mH w s V P bH)(O:Fr (λb=>b=s) w ab):mH ab s V P bH:=Sl.dh h O
theorem s6(w:World)(s:Nat)(A:IP)(n c:Nat)(l:List Int)(V:IQ)(P:IP)(bH a2:Nat)(d:Nat)(hd:d<=5)(L:bH<=1000)(h:b1 w s A n c l)(hN:mH w s V P bH)
  (Q:d≠0->∀aT:World,b1 aT s A n c l->mH aT s V P bH->Calls prog 78 #[.pointer (some ⟨s,0,none⟩),.slice P bH a2,.int .i64 ((d:Int) - 1)] aT (r3 aT s A n c l V (d - 1))) :
  Calls prog 78 #[.pointer (some ⟨s,0,none⟩),.slice P bH a2,.int .i64 d] w (r3 w s A n c l V d):=by
 have c6:=ae Q;have b8:=h.lt;have J:=ai h hN;clear Q h hN;go_enter func78,ntmps78;go_wp2_with(fail);generalize ba:World.alloc _ _=W;have aw:=bm ba;have aS:an W w.heap.size 128 #[.int .i64 0,.int .i64 0,.string ⟨#[]⟩,.slice none 0 0]:=ba▸an.fu _ _ _ rfl;have aq:Fr (λb=>b=s) w W:=aw.mono λ_ h=>h.elim;have ay:=cK (J.1.cz aw λ_ _ h=>h) (J.2.on aq) aq aS b8;clear ba aw aS aq J;refine(aX _ s A n c l 10 ay.1 ad ad).mono ?_;rintro e aO ⟨cm,rfl,bg,bo,h,he⟩;have H1:=ai h he.fr;have r:=ai bg bo;clear h he;have bT:w.heap.size<W.heap.size:=ay.2.2.2.1.lt;have b6:W.heap.size<=aO.heap.size:=H1.2.size;by_cases f:((d:Int) == 0)=true\/((d:Int) == 0)=false/\decide (cm<2)=true
 .clear c6 r bg bo;rcases f with R|⟨R,dr⟩
  all_goals
   by_cases ax:0<bH
   .have b7:decide ((0:Int)<(bH:Int))=true:=by simp;omega
    go_wp2_with(fail);refine(aX _ s A n c l 2 H1.1 ad ad).mono ?_;rintro e aT ⟨bZ,rfl,g,bw,h,he⟩;have bi:=ai h (H1.2.trans he.fr);clear h he;by_cases bM:bZ=1
    .have a5:(bZ == 1)=true:=by simpa using bM
     clear bM g bw;go_wp2_with(fail);refine(aX _ s A n c l bH bi.1 ad ad).mono ?_;rintro e b4 ⟨cC,rfl,ab,bq,h,he⟩;have bI:=ai h (bi.2.trans he.fr);clear h he;obtain⟨j,rfl⟩:=Ic ab;obtain⟨b,o,nm,cs,rfl,O,hm,aY,hl,hc⟩:=Sl.gH (enc:=D.s) (z:=1) (ay.2.1.on bI.2) (λ_=>rfl) (k:=j) ad;have ak:cs=[.string nm]:=by simpa only[D.rep] using aY
     subst ak;have c0:=hc 0 _ rfl;simp only[Nat.mul_one,Ij] at c0;have bK:=ay.2.2.2.1.on bI.2 (λh=>by have:=ay.2.2.2.2;omega);have aJ:=ae bK;obtain⟨e0,bn,a0⟩:=bK.two;have ag:=ae (Ia hm);clear aY hl hc hm bK;go_wp2_with(fail);generalize ca:World.setCell _ _ _=Y;obtain⟨bk,bt,bj⟩:=dG (M:=λb=>b=s) [.int .i64 2,.int .i64 0,.string nm,.slice none 0 0] (by rfl) aJ.o (ay.2.2.1.trans bI.2) (Hx _) ca;obtain⟨bD,aK,a9⟩:=bk.two;refine IJ (v:=.agg #[.int .i64 2,.int .i64 0,.string nm,.slice none 0 0]) (by simp[results,Tryz.results78,go_sem,bD]) rfl ?_;exact⟨.gI nm,none,0,0,rfl,(by cases d<;>exact ag.o),Hx _,Sl.bH _,bI.1.cz bj (λb O h=>by have:=ay.2.2.2.2;omega),bt⟩
    .have a5:(bZ == 1)=false:=by simpa using bM
     clear bM g bw;go_wp2_with(fail);refine(pj _ s A n c l bi.1).mono ?_;rintro e b4 ⟨cC,rfl,ab,bq,h,he⟩;have bI:=ai h (bi.2.trans he.fr);exact DJ
   .obtain rfl:bH=0:=ad;go_wp2_with(fail);refine(pj _ s A n c l H1.1).mono ?_;rintro e b4 ⟨cC,rfl,ab,bq,h,he⟩;have bI:=ai h (H1.2.trans he.fr);exact DJ
 have aU:d≠0:=λh=>f (.inl (by simp[h]));have R:((d:Int) == 0)=false:=by simp;omega
 have dr:decide (cm<2)=false:=by
  have:¬(decide (cm<2)=true):=λh=>f (.inr ⟨R,h⟩);simpa using this
 have G:wrap64 ((d:Int) - 1)=(d:Int) - 1:=IntWalk.wrap64_in _ ad;have eK:=ae aU;have t:=ai bT b6;clear f aU;by_cases bs:cm<4
 .obtain bb|bb:cm=2\/cm=3:=by simp at dr;omega
  all_goals
   subst bb;clear bs bg bo r dr b6 bT;go_wp2_with(fail);refine(c6.o eK.o _ H1.1 (ay.2.1.on H1.2)).mono ?_;rintro e aT ⟨x,cy,cp,cD,rfl,hx,ah,bf,h,he⟩;have bi:=ai h (H1.2.trans he);have aV:=bF hx ah bf he;have bK:=ay.2.2.2.1.on bi.2 (λh=>by have:=ay.2.2.2.2;omega);have aJ:=ae bK;obtain⟨e0,bn,a0⟩:=bK.two;clear h he hx ah bf bK;go_wp2_with(fail);generalize ca:World.setCell _ _ _=Y;have ch:Y.heap.size=aT.heap.size:=by rw[<-ca];simp
   obtain⟨bk,bt,bj⟩:=dG (M:=λb=>b=s) [.int .i64 _,.int .i64 0,.string ⟨#[]⟩,.slice (some ⟨aT.heap.size,0,none⟩) 1 1] (by rfl) aJ.o (ay.2.2.1.trans bi.2) (Hx _) ca;generalize cl:World.alloc _ _=Z;have bB:=bk.alloc (.cells #[.int .i64 x.aZ,.int .i64 x.numOf,.string x.bg,.slice cy cp cD] 128);rw[cl] at bB;have i:an Z aT.heap.size 128 #[.int .i64 x.aZ,.int .i64 x.numOf,.string x.bg,.slice cy cp cD]:=cl▸an.fu _ _ _ ch.symm;have bl:Fr (λb=>b=s) w Z:=cl▸bt.alloc _;have a6:Fr (λb=>b=w.heap.size) aT Z:=cl▸bj.alloc _;obtain⟨bD,aK,a9⟩:=bB.two;obtain⟨hx,ah,bf,he⟩:=aV.o;have ck:=ay.2.2.2.2;obtain⟨bT,b6⟩:=t.o;have bJ:=he.size;have aR:=i.lt;refine IJ (v:=.agg #[.int .i64 _,.int .i64 0,.string ⟨#[]⟩,.slice (some ⟨aT.heap.size,0,none⟩) 1 1]) (by simp[results,Tryz.results78,go_sem,bD];rfl) rfl ?_;have m:Sl Z (fresh w Z) cy cp (x.args.map a7):=(bf.al λb O=>a6.block b O.2 (aC O.1)).mono λb O=>⟨by have:=O.1;omega,Hy O.2 a6.size⟩
   refine⟨.un _ x,some ⟨aT.heap.size,0,none⟩,1,1,rfl,?_,Hx _,Sl.ru i (D.bo.2 (aW.2 ⟨cy,cp,cD,rfl,ah,m⟩)) ⟨ad,aR⟩ rfl,bi.1.cz a6 (λb O h=>ad),bl⟩;have:=eK.o;obtain⟨d2,rfl⟩:∃d2,d=d2+1:=⟨d - 1,ad⟩
   exact⟨by decide,hx⟩
 have d1:decide (cm<4)=false:=by simpa using bs
 clear bg bo bs b6 bT;go_wp2_with(fail);refine(aX _ s A n c l 13 H1.1 ad ad).mono ?_;rintro e aT ⟨bZ,rfl,g,bw,h,he⟩;have bi:=ai h (H1.2.trans he.fr);have bz:=he.size;clear h he;have H:wrap64 (5+bZ)=5+bZ:=IntWalk.wrap64_in _ ad;have cL:=ae (show 5<=5+bZ/\5+bZ<=17 by omega);have u:=ae bz;clear g bw bz dr d1;go_wp2_with(fail);refine(c6.o eK.o _ bi.1 (ay.2.1.on bi.2)).mono ?_;rintro e b4 ⟨x,cy,cp,cD,rfl,hx,ah,bf,h,he⟩;have bI:=ai h (bi.2.trans he);have aV:=bF hx ah bf he;clear h he hx ah bf;go_wp2_with(fail);refine(c6.o eK.o _ bI.1 (ay.2.1.on bI.2)).mono ?_;rintro e eG ⟨y,cv,cP,cR,rfl,hx,ah,bf,h,he⟩;have cq:=ai h (bI.2.trans he);have bY:=bF hx ah bf he;have bK:=ay.2.2.2.1.on cq.2 (λh=>by have:=ay.2.2.2.2;omega);have aJ:=ae bK;obtain⟨e0,bn,a0⟩:=bK.two;clear h he hx ah bf bK;go_wp2_with(fail);generalize ca:World.setCell _ _ _=Y;have ch:Y.heap.size=eG.heap.size:=by rw[<-ca];simp
 obtain⟨bk,bt,bj⟩:=dG (M:=λb=>b=s) [.int .i64 (5+bZ),.int .i64 0,.string ⟨#[]⟩,.slice (some ⟨eG.heap.size,0,none⟩) 2 2] (by rfl) aJ.o (ay.2.2.1.trans cq.2) (Hx _) ca;generalize cl:World.alloc _ _=Z;have bB:=bk.alloc (.cells #[.int .i64 x.aZ,.int .i64 x.numOf,.string x.bg,.slice cy cp cD,.int .i64 y.aZ,.int .i64 y.numOf,.string y.bg,.slice cv cP cR] 128);rw[cl] at bB;have i:an Z eG.heap.size 128 #[.int .i64 x.aZ,.int .i64 x.numOf,.string x.bg,.slice cy cp cD,.int .i64 y.aZ,.int .i64 y.numOf,.string y.bg,.slice cv cP cR]:=cl▸an.fu _ _ _ ch.symm;have bl:Fr (λb=>b=s) w Z:=cl▸bt.alloc _;have a6:Fr (λb=>b=w.heap.size) eG Z:=cl▸bj.alloc _;obtain⟨bD,aK,a9⟩:=bB.two;obtain⟨hx,ah,bf,he⟩:=aV.o;obtain⟨a4,bX,cu,bx⟩:=bY.o;have ck:=ay.2.2.2.2;obtain⟨bT,b6⟩:=t.o;have bz:=u.o;have bJ:=he.size;have bO:=bx.size;have aR:=i.lt;refine IJ (v:=.agg #[.int .i64 (5+bZ),.int .i64 0,.string ⟨#[]⟩,.slice (some ⟨eG.heap.size,0,none⟩) 2 2]) (by simp[results,Tryz.results78,go_sem,bD]) rfl ?_;have m:Sl Z (fresh w Z) cy cp (x.args.map a7):=(bf.al λb O=>(a6.block b (aC O.2) (aC O.1)).trans (bx.block b O.2 (aC O.1))).mono λb O=>⟨by have:=O.1;omega,by have:=O.2;omega⟩
 have F:Sl Z (fresh w Z) cv cP (y.args.map a7):=(cu.al λb O=>a6.block b O.2 (aC O.1)).mono λb O=>⟨by have:=O.1;omega,by have:=O.2;omega⟩
 refine⟨.bin (5+bZ) x y,some ⟨eG.heap.size,0,none⟩,2,2,rfl,?_,Hx _,Sl.ru i (gy.2 ⟨_,_,rfl,aW.2 ⟨cy,cp,cD,rfl,ah,m⟩,D.bo.2 (aW.2 ⟨cv,cP,cR,rfl,bX,F⟩)⟩) ⟨ad,aR⟩ rfl,cq.1.cz a6 (λb O h=>ad),bl⟩;have:=eK.o;obtain⟨d2,rfl⟩:∃d2,d=d2+1:=⟨d - 1,ad⟩
 exact⟨cL.o,hx,a4⟩
theorem oa(s:Nat)(A:IP)(n c:Nat)(l:List Int)(V:IQ)(P:IP)(bH a2:Nat)(L:bH<=1000):∀(d:Nat),d<=5->∀(w:World),b1 w s A n c l->mH w s V P bH->
  Calls prog 78 #[.pointer (some ⟨s,0,none⟩),.slice P bH a2,.int .i64 d] w (r3 w s A n c l V d)
 | 0,hd,w,h,hN=>s6 w s A n c l V P bH a2 0 hd L h hN (λh=>absurd rfl h)
 | d+1,hd,w,h,hN=>s6 w s A n c l V P bH a2 (d+1) hd L h hN (λ_ aT J a=>by
   have:=oa s A n c l V P bH a2 L d ad aT J a;rw[show ((d+1:Nat):Int) - 1=d by omega];exact this)
structure jW where
 s:Nat
 wb:Nat
 A:Option Addr
 n:Nat
 c:Nat
 l:List Int
 GA:Option Addr
 gn:Nat
 gc:Nat
 MA:Option Addr
 mn:Nat
 mc:Nat
 FA:Option Addr
 fn:Nat
 fc:Nat
 M:List bJ
 F:List aE
 ar:Bool
abbrev jW.MW(p:jW):Nat->Prop:=λb=>b=p.s\/b=p.wb
structure fZ(w:World)(p:jW)(left:Nat):Prop where
 src:b1 w p.s p.A p.n p.c p.l
 blk:an w p.wb 93 #[.pointer (some ⟨p.s,0,none⟩),.slice p.GA p.gn p.gc,.slice p.MA p.mn p.mc,.slice p.FA p.fn p.fc,.int .i64 left,.bool p.ar]
 ne:p.s<p.wb
 ms:Sl w (off p.MW w) p.MA p.mn (p.M.map er)
 fs:Sl w (off p.MW w) p.FA p.fn (p.F.map c8)
 nm:1<=p.mn/\p.mn<=4
 nf:1<=p.fn/\p.fn<=4
 gh:∀m∈p.M,0<=m.size/\m.size<=3
 hW:∀f∈p.F,f.params.length<=2
 ke:left<=24
theorem fZ.next{p:jW}(h:fZ w p left)(hs:b1 ab p.s p.A p.n p.c p.l)(O:Fr (λb=>b=p.s) w ab):fZ ab p left:=
 ⟨hs,h.blk.on O (aC h.ne),h.ne,Sl.dh h.ms (O.mono λ_ h=>.inl h),Sl.dh h.fs (O.mono λ_ h=>.inl h),h.nm,h.nf,h.gh,h.hW,h.ke⟩
theorem fZ.aj{p:jW}(h:fZ w p left)(O:Ext w ab):fZ ab p left:=h.next (h.src.cz O λ_ _ h=>h) (O.mono λ_ h=>h.elim)
theorem mH.aj{P:IP}(h:mH w s V P bH)(O:Ext w ab):mH ab s V P bH:=h.on (O.mono λ_ h=>h.elim)
theorem h7{V:IQ}:∀(d:Nat) (x:VE),x.src V d->x.src V (d+1)
 | d,.num _,h=>by cases d<;>exact h
 | d,.gI _,h=>by cases d<;>exact h
 | d,.loc _,h=>by cases d<;>exact h.elim
 | d,.iq _,h=>by cases d<;>exact h.elim
 | 0,.un _ _,h=>h.elim
 | 0,.bin _ _ _,h=>h.elim
 | d+1,.un _ x,h=>⟨h.1,h7 d x h.2⟩
 | d+1,.bin _ x y,h=>⟨h.1,h7 d x h.2.1,h7 d y h.2.2⟩
namespace zt
theorem yJ(h:p:=by
 refine IJ (v:=.agg #[.int .i64 x.aZ,.int .i64 x.numOf,.string x.bg,.slice cy cp cD]) (by simp[results,Tryz.results77,go_sem,bD]) rfl ?_;obtain⟨hx,ah,bf,b6,bz⟩:=aV.o;have bo:=H1.2.2.2.lt;exact⟨x,cy,cp,cD,rfl,h7 1 x hx,ah,(bf.al λb O=>bj.block b O.2 (aC O.1)).mono λb O=>⟨by have:=O.1;omega,Hy O.2 bj.size⟩,bi.1.cz bj (λb O h=>ad),bt⟩
 ):p:=h
theorem yV(h:p:=by
 cases ar with
 | false=>
  go_wp2_with(fail);refine(aX _ s A n c l sz ay.1.src ac ad).mono ?_;rintro e aO ⟨cm,rfl,bg,bo,h,he⟩;have aS:=ay.2.2.2.on he.fr ad;have H1:=ai h (ay.2.2.1.trans he.fr);have cI:=ai bg bo;obtain⟨e0,bn,a0⟩:=aS.two;have a7:=ae aS;clear aI aj af h he aS bg bo;go_wp2_with(fail);generalize ca:World.setCell _ _ _=Y;obtain⟨bk,bt,bj⟩:=dG (M:=λb=>b=s) [.int .i64 1,.int .i64 cm,.string ⟨#[]⟩,.slice none 0 0] (by rfl) a7.o H1.2 (Hx _) ca;obtain⟨bD,aK,a9⟩:=bk.two;refine IJ (v:=.agg #[.int .i64 1,.int .i64 cm,.string ⟨#[]⟩,.slice none 0 0]) (by simp[results,Tryz.results77,go_sem,bD]) rfl ?_
  exact⟨.num cm,none,0,0,rfl,⟨cI.1,by have:=cI.2;omega⟩,Hx _,Sl.bH _,H1.1.cz bj (λb O h=>ad),bt⟩
 | true=>
  go_wp2_with(fail);refine(aX _ s A n c l 3 ay.1.src ad ad).mono ?_;rintro e aO ⟨cm,rfl,bg,bo,h,he⟩;have aS:=ay.2.2.2.on he.fr ad;have H1:=bF (ay.1.next h he.fr) (ay.2.1.on he.fr) (ay.2.2.1.trans he.fr) aS;clear aI aj af h he aS ay;obtain⟨aI,aj,af⟩:=H1.1.blk.two;by_cases ap:cm=1
  .have q:(cm == 1)=true:=by simpa using ap
   clear ap bg bo;go_wp2_with(fail);refine(oa s A n c l V P bH a2 L 1 ad aO H1.1.src H1.2.1).mono ?_;rintro e aT ⟨x,cy,cp,cD,rfl,hx,ah,bf,h,he⟩;have aS:=H1.2.2.2.on he ad;have bi:=ai h (H1.2.2.1.trans he);have aV:=cK hx ah bf he.size H1.2.2.1.size;exact zf
  .have q:(cm == 1)=false:=by simpa using ap
   clear ap bg bo;go_wp2_with(fail);refine(aX _ s A n c l sz H1.1.src ac ad).mono ?_;rintro e aT ⟨bZ,rfl,g,bw,h,he⟩;have aS:=H1.2.2.2.on he.fr ad;have bi:=ai h (H1.2.2.1.trans he.fr);have cI:=ai g bw;obtain⟨e0,bn,a0⟩:=aS.two;have a7:=ae aS;clear aI aj af h he aS g bw;go_wp2_with(fail);generalize ca:World.setCell _ _ _=Y;obtain⟨bk,bt,bj⟩:=dG (M:=λb=>b=s) [.int .i64 1,.int .i64 bZ,.string ⟨#[]⟩,.slice none 0 0] (by rfl) a7.o bi.2 (Hx _) ca;obtain⟨bD,aK,a9⟩:=bk.two;refine IJ (v:=.agg #[.int .i64 1,.int .i64 bZ,.string ⟨#[]⟩,.slice none 0 0]) (by simp[results,Tryz.results77,go_sem,bD]) rfl ?_;exact⟨.num bZ,none,0,0,rfl,⟨cI.1,by have:=cI.2;omega⟩,Hx _,Sl.bH _,bi.1.cz bj (λb O h=>ad),bt⟩
 ):p:=h
end zt
open zt in
theorem xd(p:jW)(left:Nat)(V:IQ)(P:IP)(bH a2:Nat)(sz:Int)(ac:0<sz)(J:sz<=3)(w:World)(h:fZ w p left)(hN:mH w p.s V P bH)(L:bH<=1000) :
  Calls prog 77 #[.pointer (some ⟨p.wb,0,none⟩),.slice P bH a2,.int .i64 sz] w (r3 w p.s p.A p.n p.c p.l V 2):=by
 obtain⟨s,wb,A,n,c,l,GA,gn,gc,MA,mn,mc,FA,fn,fc,M,F,ar⟩:=p;have H:=ai h hN;have al:=h.blk.lt;have b8:=h.src.lt;simp only at al b8;clear h hN;go_enter func77,ntmps77;exact yU
namespace zu
theorem fP(h:p:=by
 generalize ca:World.setCell _ _ _=Y;obtain⟨bk,bt,bj⟩:=dG (M:=λb=>b=s) [.int .i64 x.aZ,.int .i64 x.numOf,.string x.bg,.slice cy cp cD] (by rfl) a7.o bi.2 (Hx _) ca;obtain⟨bD,aK,a9⟩:=bk.two;go_wp2_with(fail);refine IJ (v:=.agg #[.int .i64 x.aZ,.int .i64 x.numOf,.string x.bg,.slice cy cp cD]) (by simp[results,Tryz.results48,go_sem,bD]) rfl ?_;obtain⟨hx,ah,bf,b6,bz⟩:=aV.o;have b4:x.src V 2:=by
  obtain rfl|rfl:k=0\/k=1:=ad
  .exact h7 1 x hx
  .exact hx
 exact⟨x,cy,cp,cD,rfl,b4,ah,(bf.al λb O=>bj.block b O.2 (aC O.1)).mono λb O=>⟨by have:=O.1;omega,Hy O.2 bj.size⟩,bi.1.cz bj (λb O h=>ad),bt⟩
 ):p:=h
theorem yJ(h:p:=by
 refine IJ (v:=.agg #[.int .i64 x.aZ,.int .i64 x.numOf,.string x.bg,.slice cy cp cD]) (by simp[results,Tryz.results48,go_sem,bD]) rfl ?_;obtain⟨hx,ah,bf,b6,bz⟩:=aV.o;exact⟨x,cy,cp,cD,rfl,h7 1 x (h7 0 x hx),ah,(bf.al λb O=>bj.block b O.2 (aC O.1)).mono λb O=>⟨by have:=O.1;omega,Hy O.2 bj.size⟩,bi.1.cz bj (λb O h=>ad),bt⟩
 ):p:=h
theorem yV(h:p:=by
 cases ar with
 | false=>
  go_wp2_with(fail);refine(oa s A n c l V P bH a2 L 0 ad W ay.1.src ay.2.1).mono ?_;rintro e aT ⟨x,cy,cp,cD,rfl,hx,ah,bf,h,he⟩;have aS:=ay.2.2.2.on he ad;have bi:=ai h (ay.2.2.1.trans he);have aV:=cK hx ah bf he.size ay.2.2.2.lt
  exact zf
 | true=>
  have gM:¬wb=s:=by have:=ay.1.ne;simp only at this;omega
  go_upto_region 3 with(fail);refine eB (λb=>b=s) [(0,3),(1,3),(2,3),(3,0),(4,3),(5,3),(6,3),(7,3),(8,0),(9,1),(10,3),(11,2),(12,2)] ?_
  iterate 3 refine pf ?_
  refine m0 ?_
  iterate 4 refine pf ?_
  refine m0 ?_;refine aD rfl (λK hK=>?_);go_simp;refine(aX W.drew s A n c l 2 (ay.1.aj IK.drew).src ad ad).mono ?_;rintro e aO ⟨cm,rfl,bg,bo,h,he⟩;obtain⟨k,rfl⟩:=Ic bg;have bM:k<2:=ad;have ag:Fr (λb=>b=s) W aO:=Fr.aJ he.fr;have H1:=bF (ay.1.next h ag) (ay.2.1.on ag) (ay.2.2.1.trans ag) (ay.2.2.2.on ag ad);refine dA hK (he.fr) ?_;clear hK K;clear h he ag aI aj af bg bo;refine pf ?_;refine au rfl (λK hK=>?_);go_simp;have b7:(1:Int)+(k:Int)=((k+1:Nat):Int):=ad;rw[b7,show IntKind.i64.wrap ((k+1:Nat):Int)=((k+1:Nat):Int) from IntWalk.i64_in _ ad];refine(oa s A n c l V P bH a2 L (k+1) ad aO H1.1.src H1.2.1).mono ?_;rintro e aT ⟨x,cy,cp,cD,rfl,hx,ah,bf,h,he⟩;have aS:=H1.2.2.2.on he ad;have bi:=ai h (H1.2.2.1.trans he);have aV:=cK hx ah bf he.size H1.2.2.2.lt;obtain⟨e0,bn,a0⟩:=aS.two;have a7:=ae aS;clear h he aS hx ah bf;refine dW hK ?_;clear hK K;exact fO
 ):p:=h
end zu
open zu in
theorem jk(p:jW)(left:Nat)(V:IQ)(P:IP)(bH a2:Nat)(w:World)(h:fZ w p left)(hN:mH w p.s V P bH)(L:bH<=1000) :
  Calls prog 48 #[.pointer (some ⟨p.wb,0,none⟩),.slice P bH a2] w (r3 w p.s p.A p.n p.c p.l V 2):=by
 obtain⟨s,wb,A,n,c,l,GA,gn,gc,MA,mn,mc,FA,fn,fc,M,F,ar⟩:=p;have H:=ai h hN;have al:=h.blk.lt;have b8:=h.src.lt;simp only at al b8;clear h hN;go_enter func48,ntmps48;exact yU
def FD(w:World)(p:jW)(V:IQ)(ps:List (ByteArray×Bool))(e:Ending)(ab:World):Prop:=
 ∃(r:eC) (IA:IP) (i ic:Nat),e=.returned (.agg #[.string r.name,.slice IA i ic])/\(∀fs,rU ⟨p.M,ps,fs⟩ V r)/\i<=ic/\Sl ab (fresh w ab) IA i (r.idx.toList.map a7)/\b1 ab p.s p.A p.n p.c p.l/\Fr (λb=>b=p.s) w ab
theorem rE{x:ByteArray×Bool}:(ch x).rep w P cs↔cs=[.string x.1,.bool x.2]:=by
 exact DY
theorem sT{x:ByteArray}:(D.s x).rep w P cs↔cs=[.string x]:=by simp only[D.rep]
theorem pM(p:jW)(left:Nat)(V:IQ)(P:IP)(bH a2:Nat)(bc:ByteArray)(ps:List (ByteArray×Bool))(QA:IP)(cc qc:Nat)(bR:Value)(w:World)(h:fZ w p left)(hN:mH w p.s V P bH)(L:bH<=1000)
  (cq:Sl w (off (λb=>b=p.s) w) QA cc (ps.map ch)) (bp:cc<=2) :
  Calls prog 47 #[.pointer (some ⟨p.wb,0,none⟩),.agg #[.string bc,.slice QA cc qc,bR],.slice P bH a2] w (FD w p V ps):=by
 obtain⟨s,wb,A,n,c,l,GA,gn,gc,MA,mn,mc,FA,fn,fc,M,F,ar⟩:=p;have H:=aL h hN cq;have al:=h.blk.lt;have b8:=h.src.lt;have I:=h.nm;have aV:M.length=mn:=by have:=h.ms.1;simpa using this
 simp only at al b8 I;clear h hN cq;go_enter func47,ntmps47;go_wp2_with(fail);generalize ba:World.alloc _ _=W;have aw:=hJ ba;have co:=fA ba;have bU:=fB ba;have cE:W.heap.size=w.heap.size+1+1:=by rw[<-ba];simp
 have ay:=aL aw co bU;clear ba aw co bU;obtain⟨ct,r⟩:∃ct:Nat->List D,ct=λj=>(M.take j).map λm=>D.s m.name:=⟨_,rfl⟩
 have bx:ct 0=[]:=by rw[r];rfl
 have N:∀j m,M[j]?=some m->ct (j+1)=ct j++[.s m.name]:=λj m h=>by rw[r];simp only;rw[List.take_add_one,h];simp
 obtain⟨aG,a5,bZ⟩:=eD r bx N;clear r bx N;go_loopw [7,8] (λhP ci wr=>∃(k:Nat) (ce:IP) (rc:Nat),k<=mn/\ci=.int .i64 k/\hP=.slice ce k rc/\Ext W wr/\Gr (λ_=>False) (w.heap.size+1+1) 9 1 wr ce k rc (ct k)) (λ_ ci _=>mn - (intOf ci).toNat)
 case atStart=>exact⟨0,none,0,Ix _,rfl,rfl,IK,by rw[a5.o];exact Gr.nil _ _ _ _ _⟩
 case round=>
  obtain⟨k,ce,rc,ap,rfl,rfl,aw,bS⟩:=hrel;obtain⟨bf,cH⟩:=aN aw bS;have aa:=H.1.aj (ay.1.trans aw);obtain⟨aI,aj,af⟩:=aa.blk.two;by_cases du:k<mn
  .obtain⟨b,o,m,cs,ax,O,hm,aY,bd,hc⟩:=Sl.gH (z:=3) aa.ms (λ_=>rfl) du;simp only at ax;subst ax;obtain rfl:=eN.1 aY;have c0:=hc 0 _ rfl;simp only[Ij] at c0;have eV:=ae hm;have bK:(0:Int)<=(k:Int):=ad;have b7:(k:Int)<(mn:Int):=ad;have cb:w.heap.size+1+1<=wr.heap.size:=by have:=aw.size;omega
   clear aw bS aa aY hc bd hm;go_wp2_with((at_builtin;refine bN j2 rfl (.tmp 23) (.tmp 33) rfl cH.o (sT.2 rfl) rfl rfl rfl ad ad cb ?_;intro aZ c2 aT bb az b5 cf;have b2:=ai bb az;clear bb az b5 cf));have aJ:Ext W aT:=bf.eA (b2.2.below bf.size λj a1 O=>by have:=(cH.lt O).1;omega);have a3:=ae aJ;clear aJ;go_roundw
   case rel=>exact⟨k+1,aZ,c2,ad,by go_num,rfl,a3.o,by rw[bZ.o k m eV.o];exact b2.1⟩
   case measure=>exact aF
  .obtain rfl:k=mn:=ad;have bz:Gr (λ_=>False) (w.heap.size+1+1) 9 1 wr ce k rc ((M.map (·.name)).map D.s):=by
    have:=cH.o;rw[aG.o] at this;simp only at this;rw[Ih ad] at this;rw[List.map_map];exact this
   have bu:=ae bz;clear aw bS aa cH bz aG a5 bZ;go_wp2_with(fail);go_loopw [7,10] (λhP ci wr=>∃(j:Nat) (ce:IP) (rc:Nat) (a0:IQ),j<=cc/\ci=.int .i64 j/\hP=.slice ce (k+a0.length) rc/\a0.length<=2*j/\(∀x∈a0,(x,true)∈ps)/\Ext W wr/\Gr (λ_=>False) (w.heap.size+1+1) 9 1 wr ce (k+a0.length) rc ((M.map (·.name)++a0).map D.s)) (λ_ ci _=>cc - (intOf ci).toNat)
   case atStart=>exact⟨0,ce,rc,[],Ix _,rfl,rfl,by simp,(λx hx=>by cases hx),bf.o,by rw[IB];exact bu.o⟩
   case round=>
    obtain⟨j,ce,rc,a0,a1,rfl,rfl,aE,U,aw,bS⟩:=hrel;clear bu bf;obtain⟨bf,cH,J⟩:=eD aw bS U;have cb:w.heap.size+1+1<=wr.heap.size:=by have:=aw.size;omega
    by_cases du:j<cc
    .obtain⟨d0,aP,aQ⟩:=(ay.2.1.aj aw).two;obtain⟨b,o,q,cs,bv,O,hm,aY,bd,hc⟩:=Sl.gH (z:=2) (Sl.dh H.2.2 ((ay.1.trans aw).mono (M':=λb=>b=s) λ_ h=>h.elim)) (λ_=>rfl) du;subst bv;obtain rfl:=rE.1 aY;have c0:=hc 0 _ rfl;have c1:=hc 1 _ rfl;simp only[Ij] at c0;have eV:=ae hm;have T:=O.1;have eG:(0:Int)<=(j:Int):=ad;have f0:(j:Int)<(cc:Int):=ad;clear aw bS aY hc bd hm U O;obtain⟨q1,dq⟩:=q
     cases dq with
     | false=>
      go_wp2_with(fail);go_roundw
      case rel=>exact⟨j+1,ce,rc,a0,ad,by go_num,rfl,ad,J.o,bf.o,cH.o⟩
      case measure=>exact aF
     | true=>
      go_upto_region 11 with(fail);refine eB (λ_=>False) [(0,3),(1,3),(2,0),(3,3),(4,3),(5,3),(6,0),(7,3),(8,0),(9,3),(10,3),(11,3),(12,0),(13,2),(14,2),(15,3)] ?_
      iterate 2 refine pf ?_
      refine ph ?_
      iterate 3 refine pf ?_
      refine ph ?_;refine pf ?_;refine ph ?_
      iterate 3 refine pf ?_
      refine ph ?_;refine au rfl (λK hK=>?_);go_simp;refine dW hK ?_;clear hK K;generalize cl:World.drew (World.alloc _ _)=Z;have bl:=gX cl;have bB:=lU cl;have ao:Src Z 1 (some ⟨wr.heap.size,0,none⟩) 2 [.string q1,.string q1]:=⟨rfl,λu hu=>by
       simp only[Iq,List.not_mem_nil,or_false] at hu;rcases hu with rfl|rfl<;>rfl,λ_=>⟨_,0,rfl,λj u a1=>by rw[It,bB.cell];simpa using a1⟩⟩
      have eJ:=cH.aj bl;have aR:=bl.size;clear cl d0 aP aQ c0 c1;refine au rfl (λK hK=>?_);rw[if_pos (by rfl)];refine vt j2 (.tmp 50) (.tmp 63) (by rfl) eJ (m:=2) (k:=[D.s q1,D.s q1]) (b9.2 ⟨_,rfl,b9.2 ⟨_,rfl,aM.2 rfl⟩⟩) rfl ao (λh=>by cases h) (by rfl) (by rfl) ad ad ad ?_;intro aZ c2 aT bb az b5 cf;have aJ:Ext W aT:=(bf.trans bl).eA (az.below (aC bf.size) λi ak O=>by have:=(cH.lt O).1;omega);have b2:=ai bb aJ;clear bb az b5 cf aJ eJ bl bB ao;refine dW hK ?_;clear hK K;refine pf ?_;refine aB ?_;go_wp2_with(fail);go_roundw
      case rel=>
       refine⟨j+1,aZ,c2,a0++[q1,q1],ad,by go_num,by simp[Nat.add_assoc],by simp;omega,?_,b2.2,?_⟩
       .intro x hx;rcases Ii.1 hx with hx|hx
        .exact J.o x hx
        .simp at hx;subst hx;exact Ia eV.o
       .have:=b2.1;rw[<-List.append_assoc,Ig,Hz];exact this
      case measure=>exact aF
    .obtain rfl:j=cc:=ad;have aa:=H.1.aj (ay.1.trans aw);obtain⟨aI,aj,af⟩:=aa.blk.two;obtain⟨d0,aP,aQ⟩:=(ay.2.1.aj aw).two;have b3:1<=k+a0.length/\k+a0.length<=8:=ad;have bo:=ae aa;clear aw bS U aa;go_wp2_with(fail);refine(aX wr s A n c l ((k+a0.length:Nat):Int) bo.src ad ad).mono ?_;rintro e aO ⟨cC,rfl,ab,bq,h,he⟩;obtain⟨i3,rfl⟩:=Ic ab;have e2:i3<k+a0.length:=ad;have ck:s<w.heap.size:=b8;have bn:=bo.next h he.fr;have aq:Fr (λb=>b=s) w aO:=((ay.1.trans bf.o).mono λ_ h=>h.elim).trans he.fr;have cn:=cH.dh he.fr (λb O _=>⟨λh=>h,ad⟩);have bU:=(ay.2.2.aj bf.o).on he.fr (λh=>ad);have H1:=bF bn aq cn bU;have aA:Sl aO (av aO) ce (k+a0.length) ((M.map (·.name)++a0).map D.s):=cn.sl (λ_ _ h=>h.elim) (λ_ h _=>h);obtain⟨b,o,x,cs,bJ,O,hm,aY,bd,hc⟩:=Sl.gH (z:=1) aA (λ_=>rfl) e2;subst bJ;obtain rfl:=sT.1 aY;have c0:=hc 0 _ rfl;simp only[Nat.mul_one,Ij] at c0;have eV:=ae hm;have bQ:(0:Int)<=(i3:Int):=ad;have bV:(i3:Int)<((k+a0.length:Nat):Int):=ad;clear h he bn aq cn aA aY hc bd hm aI aj af d0 aP aQ bo ab bq bU;go_upto_region 14 with(fail);generalize hX:World.alloc _ _=X;have bW:=bm hX;have dt:=aU hX;have b0:w.heap.size+1+1<=aO.heap.size:=by have:=H1.2.2.2.lt;omega
     have bi:=cK (H1.1.aj bW) (H1.2.1.trans (bW.mono λ_ h=>h.elim)) (H1.2.2.2.aj bW) dt (H.2.1.on (H1.2.1.trans (bW.mono λ_ h=>h.elim)));clear hX bW dt H1 c0;obtain⟨aI,aj,af⟩:=bi.1.blk.two;obtain⟨be,am,aH⟩:=bi.2.2.1.two;obtain⟨d0,aP,aQ⟩:=bi.2.2.2.1.two;have gM:¬wb=s:=by have:=bi.1.ne;simp only at this;omega
     by_cases bM:i3<k
     .obtain⟨hn,bE,m,cs,ax,cd,S,aY,bd,hc⟩:=Sl.gH (z:=3) bi.1.ms (λ_=>rfl) bM;simp only at ax;subst ax;obtain rfl:=eN.1 aY;have c2:=hc 2 _ rfl;have bI:x=m.name:=by
       have:=eV.o;rw[List.getElem?_append_left (by simp;omega),List.getElem?_map,S] at this;injection this with this;exact this.symm
      have bs:m∈M:=Ia S;have a8:=bi.1.gh m bs;have aS:=ai bI bs;have bC:(i3:Int)<(k:Int):=ad;clear aY hc bd S bI bs cd;by_cases bT:0<m.size
      .go_wp2_with(fail);refine(xd ⟨s,wb,A,n,c,l,GA,gn,gc,_,k,mc,FA,fn,fc,M,F,ar⟩ left V P bH a2 m.size bT a8.2 X bi.1 bi.2.2.2.2 L).mono ?_;rintro e b4 ⟨y,cv,cP,cR,rfl,a4,bX,cu,ao,ag⟩;simp only at ao ag;have bO:=bi.2.2.1.on ag ad;have cp:=bi.2.2.2.1.on ag ad;have R:=bi.2.1.trans ag;have cg:=ag.size;clear aI aj af be am aH d0 aP aQ c2;obtain⟨be,am,aH⟩:=bO.two;obtain⟨d0,aP,aQ⟩:=cp.two;have bY:=iK a4 bX cu ao R bO cp;clear a4 bX cu ao R ag bO cp;go_upto_region 16 with(fail);generalize cl:World.setCell _ _ _=Z;have aR:Z.heap.size=b4.heap.size:=by rw[<-cl];simp
       generalize hQ:World.alloc _ _=Q;have a6:=cT cl;have ah:=bm hQ;have aD:an Q b4.heap.size 128 #[.int .i64 y.aZ,.int .i64 y.numOf,.string y.bg,.slice cv cP cR]:=hQ▸an.fu _ _ _ aR.symm;have bA:an Q aO.heap.size 150 #[.string x,.slice (some ⟨b4.heap.size,0,none⟩) 1 1]:=by
        have ac:an Z aO.heap.size 150 #[.string x,.slice (some ⟨b4.heap.size,0,none⟩) 1 1]:=cl▸bY.2.2.2.2.2.2.aI 1 _;exact ac.aj ah
       have br:=((bY.2.2.2.2.2.1.on a6 ad).aj ah)
       have bw:Fr (λb=>b=s) w Q:=(bY.2.2.2.2.1.eA (a6.below bY.2.2.2.2.1.size λi ak h=>ad)).trans (ah.mono λ_ h=>h.elim);have bg:b1 Q s A n c l:=(bY.2.2.2.1.cz a6 λb O h=>ad).cz ah λ_ _ h=>h;have dH:aO.heap.size<X.heap.size:=bi.2.2.2.1.lt;have bh:Sl Q (fresh X Q) cv cP (y.args.map a7):=(bY.2.2.1.al λb O=>(ah.block b (aC O.2) λh=>h).trans (a6.block b O.2 (aC O.1))).mono λb O=>⟨O.1,by have:=O.2;have:=ah.size;omega⟩
       have bG:=cK aD br bw bg bh;have b6:=aD.lt;clear be am aH d0 aP aQ;obtain⟨be,am,aH⟩:=br.two;obtain⟨d0,aP,aQ⟩:=bA.two;clear cl hQ a6 ah aD bA br bw bg bh;go_wp2_with(fail);generalize ca:World.setCell _ _ _=Y;obtain⟨bk,bt,bj⟩:=dG (M:=λb=>b=s) [.string x,.slice (some ⟨b4.heap.size,0,none⟩) 1 1] (by rfl) bG.2.1 bG.2.2.1 ad ca;obtain⟨bD,aK,a9⟩:=bk.two;refine IJ (v:=.agg #[.string x,.slice (some ⟨b4.heap.size,0,none⟩) 1 1]) (by simp[results,Tryz.results47,go_sem,bD]) rfl ?_;obtain⟨aD,_,_,bg,bh⟩:=bG.o;have bP:Sl Y (fresh w Y) cv cP (y.args.map a7):=(bh.al λb O=>bj.block b O.2 (aC O.1)).mono λb O=>⟨by have:=O.1;omega,Hy O.2 bj.size⟩
       refine⟨⟨x,some y⟩,some ⟨b4.heap.size,0,none⟩,1,1,rfl,λfs=>.inl ⟨m,aS.2,aS.1.symm,λ_=>⟨y,rfl,bY.1⟩,λh=>absurd bT h⟩,Hx _,?_,bg.cz bj (λb O h=>ad),bt⟩;exact Sl.ru (aD.on bj ad) (D.bo.2 (aW.2 ⟨cv,cP,cR,rfl,bY.2.1,bP⟩)) ⟨ad,by have:=bj.size;omega⟩ rfl
      .go_wp2_with(fail);generalize ca:World.setCell _ _ _=Y;obtain⟨bk,bt,bj⟩:=dG (M:=λb=>b=s) [.string x,.slice none 0 0] (by rfl) bi.2.2.1 bi.2.1 ad ca;obtain⟨bD,aK,a9⟩:=bk.two;refine IJ (v:=.agg #[.string x,.slice none 0 0]) (by simp[results,Tryz.results47,go_sem,bD]) rfl ?_;exact⟨⟨x,none⟩,none,0,0,rfl,λfs=>.inl ⟨m,aS.2,aS.1.symm,λh=>absurd h ad,λ_=>rfl⟩,Hx _,Sl.bH _,bi.1.src.cz bj (λb O h=>by simp only at O;omega),bt⟩
     .have bC:¬(i3:Int)<(k:Int):=ad;go_wp2_with(fail);generalize ca:World.setCell _ _ _=Y;obtain⟨bk,bt,bj⟩:=dG (M:=λb=>b=s) [.string x,.slice none 0 0] (by rfl) bi.2.2.1 bi.2.1 ad ca;obtain⟨bD,aK,a9⟩:=bk.two;refine IJ (v:=.agg #[.string x,.slice none 0 0]) (by simp[results,Tryz.results47,go_sem,bD]) rfl ?_;have bL:x∈a0:=by
       have:=eV.o;rw[List.getElem?_append_right (by simp;omega)] at this;exact Ia this
      exact⟨⟨x,none⟩,none,0,0,rfl,λfs=>.inr ⟨J.o x bL,rfl⟩,Hx _,Sl.bH _,bi.1.src.cz bj (λb O h=>by simp only at O;omega),bt⟩
theorem Sl.FQ{b o k z:Nat}(h:Sl w P (some ⟨b,o,none⟩) n l)(bi:∀d∈l,d.sz=z)(ap:k<=n):Sl w P (some ⟨b,o+k*z,none⟩) (n - k) (l.drop k):=by
 refine⟨by have:=h.1;simp;omega,λh0=>?_⟩;obtain⟨K,V,xs,bj,O,aY,a1⟩:=h.2 ad;injection bj with bj;injection bj with ac J;subst ac J;rw[<-List.take_append_drop k l] at aY;obtain⟨y,bp,rfl,a4,a⟩:=D.lJ aY;have U:y.length=k*z:=by
  rw[D.jd _ _ a4,D.jh (z:=z) (λd hd=>bi d (List.mem_of_mem_take hd)),List.length_take];have:=h.1;rw[Nat.min_eq_left ad]
 refine⟨b,o+k*z,bp,rfl,O,a,λj u hu=>?_⟩;have:=a1 (k*z+j) u (by rw[List.getElem?_append_right ad,U,Nat.add_sub_cancel_left];exact hu)
 rwa [<-Nat.add_assoc] at this
theorem mb{w:World}{P:Nat->Prop}:∀l:List Int,D.aO w P (l.map D.i) (l.map (Value.int .i64))
 | []=>by simp only[Iy,D.aO]
 | x::l=>by simp only[Ie];exact a2.2 ⟨_,rfl,mb l⟩
theorem ny{w:World}{P:Nat->Prop}:∀(l:List Int) (xs:List Value),D.aO w P (l.map D.i) xs->xs=l.map (Value.int .i64)
 | [],xs,h=>by simpa only[Iy,D.aO] using h
 | x::l,xs,h=>by
  simp only[Ie] at h;obtain⟨y,rfl,J⟩:=a2.1 h;rw[ny l y J,Ie]
theorem rk{l:List Int}(h:Sl w P A n (l.map D.i)):Src w 1 A n (l.map (Value.int .i64)):=by
 obtain⟨xs,aY,hs⟩:=h.src (z:=1) (λd hd=>by obtain⟨x,_,rfl⟩:=Iz.1 hd;rfl)
 rwa [ny l xs aY] at hs
theorem Cp(P:Nat->Prop)(lb lo:Nat)(ln lc:Nat)(l:List Int)(n:Int)(w:World)(hl:Sl w P (some ⟨lb,lo,none⟩) ln (l.map .i))(U:∀b,P b->b<w.heap.size)(dM:ln<=1000000)(a2:ln<=lc)(h0:0<ln) :
  Calls prog 38 #[.slice (some ⟨lb,lo,none⟩) ln lc,.int .i64 n] w
   λe ab=>∃(A:IP) (m c:Nat) (ax:List Int),e=.returned (.slice A m c)/\0<m/\m<=ln+1/\m<=c/\Sl ab (λb=>P b\/fresh w ab b) A m (ax.map .i)/\Ext w ab:=by
 have bz:l.length=ln:=by have:=hl.1;simpa using this
 obtain⟨bL,b9⟩:=aN hl U;clear hl U;go_enter func38,ntmps38;go_wp2_with(fail);refine(xa (some ⟨lb,lo,none⟩) ln lc l n w (bL.mono b9.o) ad).mono ?_;rintro e aO ⟨rfl,bo⟩;have ag:Ext w aO:=Fr.of bo;have bh:=ae ag;clear bo ag;generalize decide (n∈l)=q
 cases q with
 | true=>
  go_wp2_with(fail);go_ret
  exact⟨some ⟨lb,lo,none⟩,ln,lc,l,rfl,h0,ad,a2,(bL.al λb O=>bh.block b (b9.o b O) λh=>h).mono λb O=>.inl O,bh.o⟩
 | false=>
  go_wp2_with(fail);go_loopw [5] (λci wr=>∃k:Nat,k<=ln/\ci=.int .i64 k/\Ext w wr) (λi _=>ln - (intOf i).toNat)
  case atStart=>exact⟨0,Ix _,rfl,bh.o⟩
  case round=>
   obtain⟨k,ap,rfl,aw⟩:=hrel;have bf:=ae aw;have hS:Sl wr P (some ⟨lb,lo,none⟩) ln (l.map .i):=bL.al λb O=>aw.block b (b9.o b O) λh=>h;have bK:(0:Int)<=(k:Int):=ad;clear aw;have f:(k<ln/\∃x,x<n/\wr.cell? ⟨lb,lo+k,none⟩=some (.int .i64 x))\/(k<ln/\∃x,¬x<n/\wr.cell? ⟨lb,lo+k,none⟩=some (.int .i64 x))\/¬k<ln:=by
    by_cases al:k<ln
    .obtain⟨b,o,x,cs,bj,O,hm,aY,E,hc⟩:=Sl.gH (enc:=D.i) (z:=1) hS (λ_=>rfl) al;injection bj with bj;injection bj with ac J;subst ac J;have ak:cs=[.int .i64 x]:=by simpa only[D.rep] using aY
     subst ak;have c0:=hc 0 _ rfl;simp only[Nat.mul_one,Ij] at c0;by_cases hx:x<n
     .exact .inl ⟨al,x,hx,c0⟩
     .exact .inr (.inl ⟨al,x,hx,c0⟩)
    .exact .inr (.inr al)
   have bs:=ae hS;clear hS;rcases f with⟨al,x,hx,c0⟩|f
   .have b7:(k:Int)<(ln:Int):=ad;go_wp2_with(fail);go_roundw
    case rel=>exact⟨k+1,ad,by go_num,bf.o⟩
    case measure=>exact aF
   .rcases f with⟨al,x,hx,c0⟩|al
    all_goals
     have b7:(k:Int)<=(ln:Int):=ad;go_upto_region 6 with(fail);have bi:k<=lc:=ad;obtain⟨cE,dy⟩:∃N,N=wr.heap.size:=⟨_,rfl⟩
     refine sU (λb=>cE<=b) [7,11] (.free 1 (.free 2 (.free 3 (.free 5 (.free 8 (.free 9 (.free 10 (.pick [0,6] (λi=>bif i == 0 then .pick [4,6] (λi=>bif i == 4 then .pick [6] (λ_=>.pick [7] (λ_=>.pick [11] (λ_=>.free 12 (.stop)))) else .pick [4] (λ_=>.pick [7] (λ_=>.pick [11] (λ_=>.free 12 (.stop))))) else .pick [0] (λ_=>.pick [4] (λ_=>.pick [7] (λ_=>.pick [11] (λ_=>.free 12 (.stop)))))))))))))) ?_
     iterate 7 refine tf ?_
     generalize bu:(if lc=k then (some ⟨lb,lo,none⟩:IP) else some ⟨lb,lo+k,none⟩)=A2;have cM:Sl wr P A2 (ln - k) ((l.drop k).map .i):=by
      rw[<-bu];split
      .have:ln - k=0:=ad;rw[this,IF ad];exact Sl.bH _
      .have:=bs.FQ (z:=1) (λd hd=>by obtain⟨x,_,rfl⟩:=Iz.1 hd;rfl) ap;rw[Nat.mul_one,<-List.map_drop] at this;exact this
     have aA:Sl wr P (some ⟨lb,lo,none⟩) k ((l.take k).map .i):=by rw[List.map_take];exact bs.take ap
     obtain⟨u,cX⟩:=aN cM aA;have v:∀b,P b->b<wr.heap.size:=λb O=>Hy (b9.o b O) bf.size;have j:=ae v;clear bu cM aA v;refine h8 (P:=?_) (ops:=?_) (Q:=?_) (R:=?_) (tails:=?_) (rest:=.pick [7] (λ_=>.pick [11] (λ_=>.free 12 (.stop)))) (aa:=?_)
      (C:=λ(_:Nat) b3 cl cC V=>Ext wr V/\Gr (λ_=>False) cE 3 1 V cl k cC ((l.take k).map D.i)/\an V b3 3 #[.int .i64 n]) (λkey=>?_) ?_
     rotate_left 6
     ·
      refine a5 ?_ ?_
      ·
       refine dS ?_;generalize hV:World.drew (World.alloc _ _)=bS;have e1:=gX hV;have cR:Gr (λ_=>False) cE 3 1 bS (some ⟨wr.heap.size,0,none⟩) 0 0 []:=by rw[<-hV,dy];exact(Gr.lit (w:=wr) (n:=0) (l:=[]) rfl (by rfl) ad (by simp only[D.aO])).aj IK.drew
       have gq:=rk (cX.al λb O=>e1.block b (j.o b O) λh=>h);clear hV;refine a5 ?_ ?_
       ·
        refine aG rfl (λK hK=>?_) rfl;rw[if_pos (by rfl)];refine iH dT (.tmp 24) (.tmp 27) (by rfl) cR (mb (l.take k)) (by simp;omega) gq (λh=>by cases h) (by rfl) (by rfl) ad ad (by rw[dy];exact e1.size) ?_;intro cl cC cz b0 f1 o1 c1;refine dA hK (f1.mono λb O=>ad) ?_;clear hK K;refine aq ?_;refine dS ?_;have e2:Ext wr cz:=Fr.low (M:=λb=>wr.heap.size<=b) ((e1.mono λ_ h=>h.elim).trans (f1.mono λb O=>ad)) λ_ h=>h;have F:Ext wr (cz.alloc (.cells #[.int .i64 n] 3))/\Gr (λ_=>False) cE 3 1 (cz.alloc (.cells #[.int .i64 n] 3)) cl k cC ((l.take k).map D.i)/\an (cz.alloc (.cells #[.int .i64 n] 3)) cz.heap.size 3 #[.int .i64 n]:=
         ⟨e2.alloc _,b0.aj (IK.alloc _),IL⟩
        clear b0 cR f1 o1 e1 e2 gq;revert F;generalize cz.heap.size=b3;generalize wr.heap.size=ck;intro F;exact key ck b3 cl cC _ F
       ·
        refine dS ?_;generalize hV:World.alloc _ _=eP;have e2:=bm hV;have bq:an eP bS.heap.size 3 #[.int .i64 n]:=hV▸IL;have cc:=rk (cX.al λb O=>(e1.trans e2).block b (j.o b O) λh=>h);clear hV gq;have dK:wr.heap.size<bS.heap.size:=(cR.lt (g:=wr.heap.size) rfl).2;refine aq ?_;refine aG rfl (λK hK=>?_) rfl;rw[if_pos (by rfl)];refine iH dT (.tmp 24) (.tmp 27) (by rfl) (cR.aj e2) (mb (l.take k)) (by simp;omega) cc (λh=>by cases h) (by rfl) (by rfl) ad ad (by rw[dy];exact(e1.trans e2).size) ?_;intro cl cC cz b0 f1 o1 c1;refine dA hK (f1.mono λb O=>ad) ?_;clear hK K;have e3:Ext wr cz:=Fr.low (M:=λb=>wr.heap.size<=b) (((e1.trans e2).mono λ_ h=>h.elim).trans (f1.mono λb O=>ad)) λ_ h=>h;have F:Ext wr cz/\Gr (λ_=>False) cE 3 1 cz cl k cC ((l.take k).map D.i)/\an cz bS.heap.size 3 #[.int .i64 n]:=⟨e3,b0,bq.on f1 ad⟩
        clear b0 cR f1 o1 e1 e2 e3 cc bq dK;revert F;generalize bS.heap.size=b3;generalize wr.heap.size=ck;intro F;exact key ck b3 cl cC _ F
      ·
       refine dS ?_;generalize hV:World.drew (World.alloc _ _)=bS;have e1:=gX hV;have bq:an bS wr.heap.size 3 #[.int .i64 n]:=hV▸IL;clear hV;refine aq ?_;refine dS ?_;generalize hV:World.alloc _ _=eP;have e2:=bm hV;have cR:Gr (λ_=>False) bS.heap.size 3 1 eP (some ⟨bS.heap.size,0,none⟩) 0 0 []:=hV▸Gr.lit (w:=bS) (n:=0) (l:=[]) rfl (by rfl) ad (by simp only[D.aO]);have dm:=bq.aj e2;have cc:=rk (cX.al λb O=>(e1.trans e2).block b (j.o b O) λh=>h);have dK:wr.heap.size<bS.heap.size:=bq.lt;clear hV bq;refine aq ?_;refine aG rfl (λK hK=>?_) rfl;rw[if_pos (by rfl)];refine iH dT (.tmp 24) (.tmp 27) (by rfl) cR (mb (l.take k)) (by simp;omega) cc (λh=>by cases h) (by rfl) (by rfl) ad ad e2.size ?_;intro cl cC cz b0 f1 o1 c1;refine dA hK (f1.mono λb O=>ad) ?_;clear hK K;have e3:Ext wr cz:=Fr.low (M:=λb=>wr.heap.size<=b) (((e1.trans e2).mono λ_ h=>h.elim).trans (f1.mono λb O=>ad)) λ_ h=>h;have F:Ext wr cz/\Gr (λ_=>False) cE 3 1 cz cl k cC ((l.take k).map D.i)/\an cz wr.heap.size 3 #[.int .i64 n]:=⟨e3,b0.base ad,dm.on f1 ad⟩
       clear b0 cR f1 o1 e1 e2 e3 cc dm dK;revert F;generalize bS.heap.size=ck;generalize wr.heap.size=b3;intro F;exact key ck b3 cl cC _ F
     ·
      rintro ck b3 cl cC gO ⟨cH,cQ,bq⟩;have gv:=cH.size;refine aq ?_;refine bA rfl (λK hK=>?_) rfl;rw[if_pos (by rfl)];refine eK dT (.tmp 28) (.tmp 30) (by rfl) cQ bq (show (D.i n).rep gO _ _ from by simp only[D.rep]) (by rfl) (by rfl) (by rfl) ad ad ad ?_;intro I b5 fn fH f5 gK gQ;have cV:Ext wr fn:=Fr.low (M:=λb=>wr.heap.size<=b) ((cH.mono λ_ h=>h.elim).trans (f5.mono λb O=>by have:=(cQ.lt O).1;omega)) λ_ h=>h;clear cQ bq cH gv f5 gK gQ;have dV:=cV.size;refine dW hK ?_;clear hK K;refine aq ?_;refine bA rfl (λK hK=>?_) rfl;rw[if_pos (by rfl)];have s:∀d∈(l.drop k).map D.i,d.sz=1:=λd hd=>by obtain⟨x,_,rfl⟩:=Iz.1 hd;rfl
      refine Cq (k:=(l.drop k).map D.i) (A2:=A2) dT (.tmp 31) (.tmp 34) (by rfl) (fH.mono (Q:=λb=>P b) λb _ h=>h.elim) ?_ s (by rfl) (by rfl) ad ad ad ?_
      .exact((u.al λb O=>cV.block b (j.o b O) λh=>h).mono λb O=>⟨O,by have:=j.o b O;omega,λh=>by have:=(fH.lt h).1;have:=j.o b O;omega⟩)
      intro y cd hf t f6 H r;have bQ:Ext wr hf:=Fr.low (M:=λb=>wr.heap.size<=b) ((cV.mono λ_ h=>h.elim).trans (f6.mono λb O=>by have:=(fH.lt O).1;omega)) λ_ h=>h;have G:k+1+(ln - k)=ln+1:=ad;simp only[G] at t r ⊢;refine dW hK ?_;clear hK K;refine tf ?_;refine cr ?_;clear fH f6 H cV dV;have bV:=aL t r bQ;clear t r bQ;go_wp2_with(fail);go_ret;obtain⟨t,r,bQ⟩:=bV.o;have bT:=bf.size;have hS:=t.sl (Q:=λb=>P b\/fresh w hf b) (λb _ h=>.inl h) (λb ac J=>.inr ⟨ad,ac⟩);have am:Sl hf (λb=>P b\/fresh w hf b) y (ln+1) ((l.take k++[n]++l.drop k).map .i):=by simpa only[Ig,Ie,Iy] using hS
      have bw:=bf.trans bQ
      first
       | exact⟨y,ln+1,cd,rfl,ad,ad,r,⟨l.take k++[n]++l.drop k,am⟩,bw⟩
       | exact⟨y,ln+1,cd,l.take k++[n]++l.drop k,rfl,ad,ad,r,am,bw⟩
section
attribute [local go_sem ↓] gN gO
theorem C0(a b c d:Int)(w:World):(binOp .neq 137 (.agg #[.int .i64 a,.int .i64 b]) (.agg #[.int .i64 c,.int .i64 d])).run prog w=.ok (.bool (decide (a≠c\/b≠d))) w:=by
 simp[go_sem];by_cases h:a=c<;>by_cases J:b=d<;>simp[h,J]
theorem BV(A A2:IP)(n c cd c2:Nat)(S T:List cQ)(w:World)(hs:cJ (EF ca) 2 w w.heap.size A n S)(ht:cJ (EF ca) 2 w w.heap.size A2 cd T)(hn:n<=140737488355328) :
  Calls prog 21 #[.slice A n c,.slice A2 cd c2] w λr ab=>r=.returned (.bool (decide (S=T)))/\Below w.heap.size w ab:=by
 have hl:=hs.1;have bS:=ht.1;by_cases aZ:n=cd
 case neg=>
  have a8:=ae (show decide (S=T)=false from decide_eq_false (λh=>aZ (by rw[<-hl,<-bS,h])));have f:(n != cd)=true:=by simpa using aZ
  have e:((n:Int) != (cd:Int))=true:=by simp;omega
  clear hl bS aZ;go_enter func21,ntmps21;go_wp2;go_ret;exact⟨ret_bool (by rw[a8.o]),Below.refl _ _⟩
 subst aZ;obtain⟨bL,P⟩:=aN hl bS;clear hl bS;have L:((n:Int) != (n:Int))=false:=by simp
 go_enter func21,ntmps21;go_wp2;go_loopw [5] (λi wr=>∃k:Nat,k<=n/\i=.int .i64 k/\(∀j,j<k->S[j]?=T[j]?)/\Below w.heap.size w wr) (λi _=>n - (intOf i).toNat)
 case atStart=>exact⟨0,Ix _,rfl,λj a1=>absurd a1 ad,Below.refl _ _⟩
 case round=>
  obtain⟨k,ap,rfl,ct,O⟩:=hrel;have ah:=ae ct;clear ct;by_cases al:k<n
  .obtain⟨b,o,x,rfl,ao,hx,c0,c1⟩:=(hs.eQ O).hold al;obtain⟨K,V,d,rfl,l,g,d0,d1⟩:=(ht.eQ O).hold al;have bK:(0:Int)<=(k:Int):=ad;have b7:(k:Int)<(n:Int):=ad;have s:=C0;by_cases hd:x.owner≠d.owner\/x.depth≠d.depth
   .have a8:=ae (show decide (S=T)=false from decide_eq_false (λh=>by
     subst h;rw[hx] at g;injection g with g;subst g;simp at hd))
    have z:decide (x.owner≠d.owner\/x.depth≠d.depth)=true:=decide_eq_true hd;exact x4
   .have aV:=ae (show S[k]?=T[k]? by
     have ac:x.owner=d.owner:=by
      by_cases aG:x.owner=d.owner
      .exact aG
      .exact absurd (.inl aG) hd
     have J:x.depth=d.depth:=by
      by_cases aG:x.depth=d.depth
      .exact aG
      .exact absurd (.inr aG) hd
     rw[hx,g];congr 1
     cases x;cases d
     simp_all)
    have z:decide (x.owner≠d.owner\/x.depth≠d.depth)=false:=decide_eq_false hd;exact DV
  .obtain rfl:k=n:=ad;exact DT
def FP(X:List bJ)(T:List cQ)(m th:Int)(i:Nat):Int:=if (own X)[i]?=some m/\(iW T i).owner=th+1/\0<=th then (iW T i).depth else 0
def Eg(X:List bJ)(T:List cQ)(m th:Int):Nat->Int
 | 0=>0
 | k+1=>Eg X T m th k+FP X T m th k
def depth(X:List bJ)(T:List cQ)(m th:Int):Int:=Eg X T m th (own X).length
end
end Go.Proofs.YtajlmkkidmjgoaaGreatDoor

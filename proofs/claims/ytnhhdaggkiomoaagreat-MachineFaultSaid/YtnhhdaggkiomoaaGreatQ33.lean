/- Part 33 of the proof. No condition of its own. -/
import Derived.Test.YtnhhdaggkiomoaaGreatQ13
import Derived.Test.YtnhhdaggkiomoaaGreatQ27
namespace Go.Proofs.YtnhhdaggkiomoaaGreat
open Go.RowKit Go.Proofs.Tryz
set_option maxRecDepth 1000000
set_option maxHeartbeats 25600000
set_option linter.unusedVariables false
variable{V:Lt}{l:List D}{cs:List Value}{bc g left n s:Nat}{M P:Nat→Prop}{A N:Ls}{p:Prop}{t:TypeId}{ab w:World}
theorem fY.fr(h:fY s w ab):Fr (fun b=>b=s) w ab:=⟨h.os,h.tape,h.output,h.size,h.block⟩
theorem dU{X V:World}{cs:Array Value}(vs:List Value)(hs:cs.size=vs.length)(aR:aq V g t cs)(aw:Fr M w V)(a2:w.heap.size≤g)(hX:rA g V 0 vs=X):
  aq X g t vs.toArray∧Fr M w X∧Fr (fun b=>b=g) V X:=by
 subst hX;have J:=mA (g:=g) vs 0 V;refine⟨?_,aw.eN (J.below aw.size fun k ap h=>ad),J⟩;have ac:=kX vs 0 V cs aR;have av:iZ cs 0 vs=vs.toArray:=by
  apply Array.toList_inj.1
  rw[l7 vs 0 cs ad];simp;omega
 rwa [av] at ac
theorem cm.cQ{c:Nat}{l:List Int}(h:cm w s A n c l)(O:Fr M w ab)(hM:∀b,b≤s→¬M b):cm ab s A n c l:=
 h.HT (g:=s+1) (O.below h.lt fun k ap=>hM k ad) ad
theorem Sl.DH{aS aT:World}(h:Sl aS (fresh w aS) A n l)(O:Fr M aS aT)(hM:∀b,M b→b<w.heap.size):Sl aT (fresh w aT) A n l:=
 (h.ak fun b bU=>O.block b bU.2 fun hm=>by have:=hM b hm;have:=bU.1;omega).mono fun b bU=>⟨bU.1,KH bU.2 O.size⟩
theorem Sl.sV(aR:aq w g t cs.toArray)(a5:D.aQ w P l cs)(aZ:P g)(hl:l.length=n):Sl w P (some ⟨g,0,none⟩) n l:=
 ⟨hl,fun _=>⟨g,0,cs,rfl,aZ,a5,fun j u bi=>by rw[KY,aR.cell];simpa using bi⟩⟩
def tt(w:World)(s:Nat)(A:Ls)(n c:Nat)(l:List Int)(V:Lt)(d:Nat)(e:Ending)(ab:World):Prop:=
 ∃(x:VE) (cO:Ls) (cG cV:Nat),e=.returned (.agg #[.int .i64 x.a9,.int .i64 x.numOf,.string x.bu,.slice cO cG cV])∧x.src V d∧cG≤cV∧Sl ab (fresh w ab) cO cG (x.args.map bk)∧cm ab s A n c l∧Fr (fun b=>b=s) w ab
def m4(w:World)(s:Nat)(V:Lt)(N:Ls)(bc:Nat):Prop:=Sl w (off (fun b=>b=s) w) N bc (V.map .s)
theorem m4.on(h:m4 w s V N bc)(O:Fr (fun b=>b=s) w ab):m4 ab s V N bc:=Sl.c4 h O
theorem uG(w:World)(s:Nat)(A:Ls)(n c:Nat)(l:List Int)(V:Lt)(N:Ls)(bc aa:Nat)(d:Nat)(hd:d≤5)(bm:bc≤1000)(h:cm w s A n c l)(hN:m4 w s V N bc)
  (ax:d≠0→∀aT:World,cm aT s A n c l→m4 aT s V N bc→Calls prog 130 #[.pointer (some ⟨s,0,none⟩),.slice N bc aa,.int .i64 ((d:Int) - 1)] aT (tt aT s A n c l V (d - 1))) :
  Calls prog 130 #[.pointer (some ⟨s,0,none⟩),.slice N bc aa,.int .i64 d] w (tt w s A n c l V d):=by
 have cp:=ae ax;have ch:=h.lt;have L:=ag h hN;clear ax h hN;go_enter func130,ntmps130;go_wp2_with(fail);generalize ba:World.alloc _ _=W;have aw:=aU ba;have aR:aq W w.heap.size 54 #[.int .i64 0,.int .i64 0,.string ⟨#[]⟩,.slice none 0 0]:=ba▸aq.hL _ _ _ rfl;have aC:Fr (fun b=>b=s) w W:=aw.mono fun _ h=>h.elim;have ah:=cI (L.1.cQ aw fun _ _ h=>h) (L.2.on aC) aC aR ch;clear ba aw aR aC L;refine(a2 _ s A n c l 10 ah.1 ad ad).mono ?_;rintro e aS ⟨cv,rfl,a3,bU,h,he⟩;have H1:=ag h he.fr;have m:=ag a3 bU;clear h he;have bW:w.heap.size<W.heap.size:=ah.2.2.2.1.lt;have cn:W.heap.size≤aS.heap.size:=H1.2.size;by_cases f:((d:Int) == 0)=true∨((d:Int) == 0)=false∧decide (cv<2)=true
 ·clear cp m a3 bU;rcases f with br|⟨br,dB⟩
  all_goals
   by_cases aM:0<bc
   ·have cQ:decide ((0:Int)<(bc:Int))=true:=by simp;omega
    go_wp2_with(fail);refine(a2 _ s A n c l 2 H1.1 ad ad).mono ?_;rintro e aT ⟨bP,rfl,G,bg,h,he⟩;have bG:=ag h (H1.2.trans he.fr);clear h he;by_cases bX:bP=1
    ·have bo:(bP == 1)=true:=by simpa using bX
     clear bX G bg;go_wp2_with(fail);refine(a2 _ s A n c l bc bG.1 ad ad).mono ?_;rintro e b6 ⟨cU,rfl,R,ct,h,he⟩;have bT:=ag h (bG.2.trans he.fr);clear h he;obtain⟨j,rfl⟩:=KL R;obtain⟨b,o,nm,cs,rfl,O,hm,a5,hl,hc⟩:=Sl.gZ (enc:=D.s) (z:=1) (ah.2.1.on bT.2) (fun _=>rfl) (k:=j) ad;have I:cs=[.string nm]:=by simpa only[D.rep] using a5
     subst I;have c0:=hc 0 _ rfl;simp only[Nat.mul_one,KQ] at c0;have b5:=ah.2.2.2.1.on bT.2 (fun h=>by have:=ah.2.2.2.2;omega);have aJ:=ae b5;obtain⟨e0,a6,aP⟩:=b5.two;have aj:=ae (KJ hm);clear a5 hl hc hm b5;go_wp2_with(fail);generalize cr:World.setCell _ _ _=Y;obtain⟨bI,bE,bz⟩:=dU (M:=fun b=>b=s) [.int .i64 2,.int .i64 0,.string nm,.slice none 0 0] (by rfl) aJ.o (ah.2.2.1.trans bT.2) (KG _) cr;obtain⟨bl,aA,aO⟩:=bI.two;refine Ln (v:=.agg #[.int .i64 2,.int .i64 0,.string nm,.slice none 0 0]) (by simp[results,Tryz.results130,go_sem,bl]) rfl ?_;exact⟨.g0 nm,none,0,0,rfl,(by cases d<;>exact aj.o),KG _,Sl.bO _,bT.1.cQ bz (fun b O h=>by have:=ah.2.2.2.2;omega),bE⟩
    ·have bo:(bP == 1)=false:=by simpa using bX
     clear bX G bg;go_wp2_with(fail);refine(qd _ s A n c l bG.1).mono ?_;rintro e b6 ⟨cU,rfl,R,ct,h,he⟩;have bT:=ag h (bG.2.trans he.fr);exact Gb
   ·obtain rfl:bc=0:=ad;go_wp2_with(fail);refine(qd _ s A n c l H1.1).mono ?_;rintro e b6 ⟨cU,rfl,R,ct,h,he⟩;have bT:=ag h (H1.2.trans he.fr);exact Gb
 have ay:d≠0:=fun h=>f (.inl (by simp[h]));have br:((d:Int) == 0)=false:=by simp;omega
 have dB:decide (cv<2)=false:=by
  have:¬(decide (cv<2)=true):=fun h=>f (.inr ⟨br,h⟩);simpa using this
 have F:wrap64 ((d:Int) - 1)=(d:Int) - 1:=IntWalk.wrap64_in _ ad;have cx:=ae ay;have r:=ag bW cn;clear f ay;by_cases bp:cv<4
 ·obtain aL|aL:cv=2∨cv=3:=by simp at dB;omega
  all_goals
   subst aL;clear bp a3 bU m dB cn bW;go_wp2_with(fail);refine(cp.o cx.o _ H1.1 (ah.2.1.on H1.2)).mono ?_;rintro e aT ⟨x,cO,cG,cV,rfl,hx,aN,cd,h,he⟩;have bG:=ag h (H1.2.trans he);have aQ:=bH hx aN cd he;have b5:=ah.2.2.2.1.on bG.2 (fun h=>by have:=ah.2.2.2.2;omega);have aJ:=ae b5;obtain⟨e0,a6,aP⟩:=b5.two;clear h he hx aN cd b5;go_wp2_with(fail);generalize cr:World.setCell _ _ _=Y;have cZ:Y.heap.size=aT.heap.size:=by rw[←cr];simp
   obtain⟨bI,bE,bz⟩:=dU (M:=fun b=>b=s) [.int .i64 _,.int .i64 0,.string ⟨#[]⟩,.slice (some ⟨aT.heap.size,0,none⟩) 1 1] (by rfl) aJ.o (ah.2.2.1.trans bG.2) (KG _) cr;generalize bu:World.alloc _ _=Z;have bh:=bI.alloc (.cells #[.int .i64 x.a9,.int .i64 x.numOf,.string x.bu,.slice cO cG cV] 54);rw[bu] at bh;have g:aq Z aT.heap.size 54 #[.int .i64 x.a9,.int .i64 x.numOf,.string x.bu,.slice cO cG cV]:=bu▸aq.hL _ _ _ cZ.symm;have a9:Fr (fun b=>b=s) w Z:=bu▸bE.alloc _;have be:Fr (fun b=>b=w.heap.size) aT Z:=bu▸bz.alloc _;obtain⟨bl,aA,aO⟩:=bh.two;obtain⟨hx,aN,cd,he⟩:=aQ.o;have dC:=ah.2.2.2.2;obtain⟨bW,cn⟩:=r.o;have bQ:=he.size;have bj:=g.lt;refine Ln (v:=.agg #[.int .i64 _,.int .i64 0,.string ⟨#[]⟩,.slice (some ⟨aT.heap.size,0,none⟩) 1 1]) (by simp[results,Tryz.results130,go_sem,bl];rfl) rfl ?_;have i:Sl Z (fresh w Z) cO cG (x.args.map bk):=(cd.ak fun b O=>be.block b O.2 (aD O.1)).mono fun b O=>⟨by have:=O.1;omega,KH O.2 be.size⟩
   refine⟨.un _ x,some ⟨aT.heap.size,0,none⟩,1,1,rfl,?_,KG _,Sl.sV g (D.bj.2 (a1.2 ⟨cO,cG,cV,rfl,aN,i⟩)) ⟨ad,bj⟩ rfl,bG.1.cQ be (fun b O h=>ad),a9⟩;have:=cx.o;obtain⟨d2,rfl⟩:∃d2,d=d2+1:=⟨d - 1,ad⟩
   exact⟨by decide,hx⟩
 have dY:decide (cv<4)=false:=by simpa using bp
 clear a3 bU bp cn bW;go_wp2_with(fail);refine(a2 _ s A n c l 13 H1.1 ad ad).mono ?_;rintro e aT ⟨bP,rfl,G,bg,h,he⟩;have bG:=ag h (H1.2.trans he.fr);have bO:=he.size;clear h he;have H:wrap64 (5+bP)=5+bP:=IntWalk.wrap64_in _ ad;have bN:=ae (show 5≤5+bP∧5+bP≤17 by omega);have u:=ae bO;clear G bg bO dB dY;go_wp2_with(fail);refine(cp.o cx.o _ bG.1 (ah.2.1.on bG.2)).mono ?_;rintro e b6 ⟨x,cO,cG,cV,rfl,hx,aN,cd,h,he⟩;have bT:=ag h (bG.2.trans he);have aQ:=bH hx aN cd he;clear h he hx aN cd;go_wp2_with(fail);refine(cp.o cx.o _ bT.1 (ah.2.1.on bT.2)).mono ?_;rintro e cN ⟨y,da,c8,dc,rfl,hx,aN,cd,h,he⟩;have b8:=ag h (bT.2.trans he);have bC:=bH hx aN cd he;have b5:=ah.2.2.2.1.on b8.2 (fun h=>by have:=ah.2.2.2.2;omega);have aJ:=ae b5;obtain⟨e0,a6,aP⟩:=b5.two;clear h he hx aN cd b5;go_wp2_with(fail);generalize cr:World.setCell _ _ _=Y;have cZ:Y.heap.size=cN.heap.size:=by rw[←cr];simp
 obtain⟨bI,bE,bz⟩:=dU (M:=fun b=>b=s) [.int .i64 (5+bP),.int .i64 0,.string ⟨#[]⟩,.slice (some ⟨cN.heap.size,0,none⟩) 2 2] (by rfl) aJ.o (ah.2.2.1.trans b8.2) (KG _) cr;generalize bu:World.alloc _ _=Z;have bh:=bI.alloc (.cells #[.int .i64 x.a9,.int .i64 x.numOf,.string x.bu,.slice cO cG cV,.int .i64 y.a9,.int .i64 y.numOf,.string y.bu,.slice da c8 dc] 54);rw[bu] at bh;have g:aq Z cN.heap.size 54 #[.int .i64 x.a9,.int .i64 x.numOf,.string x.bu,.slice cO cG cV,.int .i64 y.a9,.int .i64 y.numOf,.string y.bu,.slice da c8 dc]:=bu▸aq.hL _ _ _ cZ.symm;have a9:Fr (fun b=>b=s) w Z:=bu▸bE.alloc _;have be:Fr (fun b=>b=w.heap.size) cN Z:=bu▸bz.alloc _;obtain⟨bl,aA,aO⟩:=bh.two;obtain⟨hx,aN,cd,he⟩:=aQ.o;obtain⟨bb,cH,c4,bw⟩:=bC.o;have dC:=ah.2.2.2.2;obtain⟨bW,cn⟩:=r.o;have bO:=u.o;have bQ:=he.size;have bF:=bw.size;have bj:=g.lt;refine Ln (v:=.agg #[.int .i64 (5+bP),.int .i64 0,.string ⟨#[]⟩,.slice (some ⟨cN.heap.size,0,none⟩) 2 2]) (by simp[results,Tryz.results130,go_sem,bl]) rfl ?_;have i:Sl Z (fresh w Z) cO cG (x.args.map bk):=(cd.ak fun b O=>(be.block b (aD O.2) (aD O.1)).trans (bw.block b O.2 (aD O.1))).mono fun b O=>⟨by have:=O.1;omega,by have:=O.2;omega⟩
 have t:Sl Z (fresh w Z) da c8 (y.args.map bk):=(c4.ak fun b O=>be.block b O.2 (aD O.1)).mono fun b O=>⟨by have:=O.1;omega,by have:=O.2;omega⟩
 refine⟨.bin (5+bP) x y,some ⟨cN.heap.size,0,none⟩,2,2,rfl,?_,KG _,Sl.sV g (gO.2 ⟨_,_,rfl,a1.2 ⟨cO,cG,cV,rfl,aN,i⟩,D.bj.2 (a1.2 ⟨da,c8,dc,rfl,cH,t⟩)⟩) ⟨ad,bj⟩ rfl,b8.1.cQ be (fun b O h=>ad),a9⟩;have:=cx.o;obtain⟨d2,rfl⟩:∃d2,d=d2+1:=⟨d - 1,ad⟩
 exact⟨bN.o,hx,bb⟩
theorem oW(s:Nat)(A:Ls)(n c:Nat)(l:List Int)(V:Lt)(N:Ls)(bc aa:Nat)(bm:bc≤1000):∀(d:Nat),d≤5→∀(w:World),cm w s A n c l→m4 w s V N bc→
  Calls prog 130 #[.pointer (some ⟨s,0,none⟩),.slice N bc aa,.int .i64 d] w (tt w s A n c l V d)
 | 0,hd,w,h,hN=>uG w s A n c l V N bc aa 0 hd bm h hN (fun h=>absurd rfl h)
 | d+1,hd,w,h,hN=>uG w s A n c l V N bc aa (d+1) hd bm h hN (fun _ aT av a=>by
   have:=oW s A n c l V N bc aa bm d ad aT av a;rw[show ((d+1:Nat):Int) - 1=d by omega];exact this)
structure kj where
 s:Nat
 wb:Nat
 A:Option Addr
 n:Nat
 c:Nat
 l:List Int
 GA:Option Addr
 gn:Nat
 gc:Nat
 MA:Option Addr
 mn:Nat
 mc:Nat
 FA:Option Addr
 fn:Nat
 fc:Nat
 M:List bI
 F:List aK
 ar:Bool
abbrev kj.MW(p:kj):Nat→Prop:=fun b=>b=p.s∨b=p.wb
structure gw(w:World)(p:kj)(left:Nat):Prop where
 src:cm w p.s p.A p.n p.c p.l
 blk:aq w p.wb 134 #[.pointer (some ⟨p.s,0,none⟩),.slice p.GA p.gn p.gc,.slice p.MA p.mn p.mc,.slice p.FA p.fn p.fc,.int .i64 left,.bool p.ar]
 ne:p.s<p.wb
 ms:Sl w (off p.MW w) p.MA p.mn (p.M.map ey)
 fs:Sl w (off p.MW w) p.FA p.fn (p.F.map dr)
 nm:1≤p.mn∧p.mn≤4
 nf:1≤p.fn∧p.fn≤4
 gp:∀m∈p.M,0≤m.size∧m.size≤3
 jy:∀f∈p.F,f.params.length≤2
 kB:left≤24
theorem gw.next{p:kj}(h:gw w p left)(hs:cm ab p.s p.A p.n p.c p.l)(O:Fr (fun b=>b=p.s) w ab):gw ab p left:=
 ⟨hs,h.blk.on O (aD h.ne),h.ne,Sl.c4 h.ms (O.mono fun _ h=>.inl h),Sl.c4 h.fs (O.mono fun _ h=>.inl h),h.nm,h.nf,h.gp,h.jy,h.kB⟩
theorem gw.ai{p:kj}(h:gw w p left)(O:Ext w ab):gw ab p left:=h.next (h.src.cQ O fun _ _ h=>h) (O.mono fun _ h=>h.elim)
theorem m4.ai(h:m4 w s V N bc)(O:Ext w ab):m4 ab s V N bc:=h.on (O.mono fun _ h=>h.elim)
theorem iL{V:Lt}:∀(d:Nat) (x:VE),x.src V d→x.src V (d+1)
 | d,.num _,h=>by cases d<;>exact h
 | d,.g0 _,h=>by cases d<;>exact h
 | d,.loc _,h=>by cases d<;>exact h.elim
 | d,.iC _,h=>by cases d<;>exact h.elim
 | 0,.un _ _,h=>h.elim
 | 0,.bin _ _ _,h=>h.elim
 | d+1,.un _ x,h=>⟨h.1,iL d x h.2⟩
 | d+1,.bin _ x y,h=>⟨h.1,iL d x h.2.1,iL d y h.2.2⟩
namespace Bx
theorem Ab(h:p:=by
 refine Ln (v:=.agg #[.int .i64 x.a9,.int .i64 x.numOf,.string x.bu,.slice cO cG cV]) (by simp[results,Tryz.results129,go_sem,bl]) rfl ?_;obtain⟨hx,aN,cd,cn,bO⟩:=aQ.o;have bU:=H1.2.2.2.lt;exact⟨x,cO,cG,cV,rfl,iL 1 x hx,aN,(cd.ak fun b O=>bz.block b O.2 (aD O.1)).mono fun b O=>⟨by have:=O.1;omega,KH O.2 bz.size⟩,bG.1.cQ bz (fun b O h=>ad),bE⟩
 ):p:=h
theorem Ap(h:p:=by
 cases ar with
 | false=>
  go_wp2_with(fail);refine(a2 _ s A n c l sz ah.1.src ac ad).mono ?_;rintro e aS ⟨cv,rfl,a3,bU,h,he⟩;have aR:=ah.2.2.2.on he.fr ad;have H1:=ag h (ah.2.2.1.trans he.fr);have c7:=ag a3 bU;obtain⟨e0,a6,aP⟩:=aR.two;have b2:=ae aR;clear a0 ai af h he aR a3 bU;go_wp2_with(fail);generalize cr:World.setCell _ _ _=Y;obtain⟨bI,bE,bz⟩:=dU (M:=fun b=>b=s) [.int .i64 1,.int .i64 cv,.string ⟨#[]⟩,.slice none 0 0] (by rfl) b2.o H1.2 (KG _) cr;obtain⟨bl,aA,aO⟩:=bI.two;refine Ln (v:=.agg #[.int .i64 1,.int .i64 cv,.string ⟨#[]⟩,.slice none 0 0]) (by simp[results,Tryz.results129,go_sem,bl]) rfl ?_
  exact⟨.num cv,none,0,0,rfl,⟨c7.1,by have:=c7.2;omega⟩,KG _,Sl.bO _,H1.1.cQ bz (fun b O h=>ad),bE⟩
 | true=>
  go_wp2_with(fail);refine(a2 _ s A n c l 3 ah.1.src ad ad).mono ?_;rintro e aS ⟨cv,rfl,a3,bU,h,he⟩;have aR:=ah.2.2.2.on he.fr ad;have H1:=bH (ah.1.next h he.fr) (ah.2.1.on he.fr) (ah.2.2.1.trans he.fr) aR;clear a0 ai af h he aR ah;obtain⟨a0,ai,af⟩:=H1.1.blk.two;by_cases ap:cv=1
  ·have q:(cv == 1)=true:=by simpa using ap
   clear ap a3 bU;go_wp2_with(fail);refine(oW s A n c l V N bc aa bm 1 ad aS H1.1.src H1.2.1).mono ?_;rintro e aT ⟨x,cO,cG,cV,rfl,hx,aN,cd,h,he⟩;have aR:=H1.2.2.2.on he ad;have bG:=ag h (H1.2.2.1.trans he);have aQ:=cI hx aN cd he.size H1.2.2.1.size;exact Bd
  ·have q:(cv == 1)=false:=by simpa using ap
   clear ap a3 bU;go_wp2_with(fail);refine(a2 _ s A n c l sz H1.1.src ac ad).mono ?_;rintro e aT ⟨bP,rfl,G,bg,h,he⟩;have aR:=H1.2.2.2.on he.fr ad;have bG:=ag h (H1.2.2.1.trans he.fr);have c7:=ag G bg;obtain⟨e0,a6,aP⟩:=aR.two;have b2:=ae aR;clear a0 ai af h he aR G bg;go_wp2_with(fail);generalize cr:World.setCell _ _ _=Y;obtain⟨bI,bE,bz⟩:=dU (M:=fun b=>b=s) [.int .i64 1,.int .i64 bP,.string ⟨#[]⟩,.slice none 0 0] (by rfl) b2.o bG.2 (KG _) cr;obtain⟨bl,aA,aO⟩:=bI.two;refine Ln (v:=.agg #[.int .i64 1,.int .i64 bP,.string ⟨#[]⟩,.slice none 0 0]) (by simp[results,Tryz.results129,go_sem,bl]) rfl ?_;exact⟨.num bP,none,0,0,rfl,⟨c7.1,by have:=c7.2;omega⟩,KG _,Sl.bO _,bG.1.cQ bz (fun b O h=>ad),bE⟩
 ):p:=h
end Bx
open Bx in
theorem ys(p:kj)(left:Nat)(V:Lt)(N:Ls)(bc aa:Nat)(sz:Int)(ac:0<sz)(av:sz≤3)(w:World)(h:gw w p left)(hN:m4 w p.s V N bc)(bm:bc≤1000) :
  Calls prog 129 #[.pointer (some ⟨p.wb,0,none⟩),.slice N bc aa,.int .i64 sz] w (tt w p.s p.A p.n p.c p.l V 2):=by
 obtain⟨s,wb,A,n,c,l,GA,gn,gc,MA,mn,mc,FA,fn,fc,M,F,ar⟩:=p;have H:=ag h hN;have ak:=h.blk.lt;have ch:=h.src.lt;simp only at ak ch;clear h hN;go_enter func129,ntmps129;exact Ao
namespace By
theorem dC(h:p:=by
 generalize cr:World.setCell _ _ _=Y;obtain⟨bI,bE,bz⟩:=dU (M:=fun b=>b=s) [.int .i64 x.a9,.int .i64 x.numOf,.string x.bu,.slice cO cG cV] (by rfl) b2.o bG.2 (KG _) cr;obtain⟨bl,aA,aO⟩:=bI.two;go_wp2_with(fail);refine Ln (v:=.agg #[.int .i64 x.a9,.int .i64 x.numOf,.string x.bu,.slice cO cG cV]) (by simp[results,Tryz.results107,go_sem,bl]) rfl ?_;obtain⟨hx,aN,cd,cn,bO⟩:=aQ.o;have bi:x.src V 2:=by
  obtain rfl|rfl:k=0∨k=1:=ad
  ·exact iL 1 x hx
  ·exact hx
 exact⟨x,cO,cG,cV,rfl,bi,aN,(cd.ak fun b O=>bz.block b O.2 (aD O.1)).mono fun b O=>⟨by have:=O.1;omega,KH O.2 bz.size⟩,bG.1.cQ bz (fun b O h=>ad),bE⟩
 ):p:=h
theorem Ab(h:p:=by
 refine Ln (v:=.agg #[.int .i64 x.a9,.int .i64 x.numOf,.string x.bu,.slice cO cG cV]) (by simp[results,Tryz.results107,go_sem,bl]) rfl ?_;obtain⟨hx,aN,cd,cn,bO⟩:=aQ.o;exact⟨x,cO,cG,cV,rfl,iL 1 x (iL 0 x hx),aN,(cd.ak fun b O=>bz.block b O.2 (aD O.1)).mono fun b O=>⟨by have:=O.1;omega,KH O.2 bz.size⟩,bG.1.cQ bz (fun b O h=>ad),bE⟩
 ):p:=h
theorem Ap(h:p:=by
 cases ar with
 | false=>
  go_wp2_with(fail);refine(oW s A n c l V N bc aa bm 0 ad W ah.1.src ah.2.1).mono ?_;rintro e aT ⟨x,cO,cG,cV,rfl,hx,aN,cd,h,he⟩;have aR:=ah.2.2.2.on he ad;have bG:=ag h (ah.2.2.1.trans he);have aQ:=cI hx aN cd he.size ah.2.2.2.lt
  exact Bd
 | true=>
  have gP:¬wb=s:=by have:=ah.1.ne;simp only at this;omega
  go_upto_region 3 with(fail);refine eK (fun b=>b=s) [(0,3),(1,3),(2,3),(3,0),(4,3),(5,3),(6,3),(7,3),(8,0),(9,1),(10,3),(11,2),(12,2)] ?_
  iterate 3 refine pf ?_
  refine ow ?_
  iterate 4 refine pf ?_
  refine ow ?_;refine aJ rfl (fun K hK=>?_);go_simp;refine(a2 W.drew s A n c l 2 (ah.1.ai Lo.drew).src ad ad).mono ?_;rintro e aS ⟨cv,rfl,a3,bU,h,he⟩;obtain⟨k,rfl⟩:=KL a3;have bX:k<2:=ad;have aj:Fr (fun b=>b=s) W aS:=Fr.aF he.fr;have H1:=bH (ah.1.next h aj) (ah.2.1.on aj) (ah.2.2.1.trans aj) (ah.2.2.2.on aj ad);refine dz hK (he.fr) ?_;clear hK K;clear h he aj a0 ai af a3 bU;refine pf ?_;refine ax rfl (fun K hK=>?_);go_simp;have cf:(1:Int)+(k:Int)=((k+1:Nat):Int):=ad;rw[cf,show IntKind.i64.wrap ((k+1:Nat):Int)=((k+1:Nat):Int) from IntWalk.i64_in _ ad];refine(oW s A n c l V N bc aa bm (k+1) ad aS H1.1.src H1.2.1).mono ?_;rintro e aT ⟨x,cO,cG,cV,rfl,hx,aN,cd,h,he⟩;have aR:=H1.2.2.2.on he ad;have bG:=ag h (H1.2.2.1.trans he);have aQ:=cI hx aN cd he.size H1.2.2.2.lt;obtain⟨e0,a6,aP⟩:=aR.two;have b2:=ae aR;clear h he aR hx aN cd;refine dO hK ?_;clear hK K;exact eP
 ):p:=h
end By
open By in
theorem jK(p:kj)(left:Nat)(V:Lt)(N:Ls)(bc aa:Nat)(w:World)(h:gw w p left)(hN:m4 w p.s V N bc)(bm:bc≤1000) :
  Calls prog 107 #[.pointer (some ⟨p.wb,0,none⟩),.slice N bc aa] w (tt w p.s p.A p.n p.c p.l V 2):=by
 obtain⟨s,wb,A,n,c,l,GA,gn,gc,MA,mn,mc,FA,fn,fc,M,F,ar⟩:=p;have H:=ag h hN;have ak:=h.blk.lt;have ch:=h.src.lt;simp only at ak ch;clear h hN;go_enter func107,ntmps107;exact Ao
def H6(w:World)(p:kj)(V:Lt)(ps:List (ByteArray×Bool))(e:Ending)(ab:World):Prop:=
 ∃(r:eO) (IA:Ls) (i ic:Nat),e=.returned (.agg #[.string r.name,.slice IA i ic])∧(∀fs,rX ⟨p.M,ps,fs⟩ V r)∧i≤ic∧Sl ab (fresh w ab) IA i (r.idx.toList.map bk)∧cm ab p.s p.A p.n p.c p.l∧Fr (fun b=>b=p.s) w ab
theorem s4{x:ByteArray×Bool}:(ds x).rep w P cs↔cs=[.string x.1,.bool x.2]:=by
 exact Gy
theorem uv{x:ByteArray}:(D.s x).rep w P cs↔cs=[.string x]:=by simp only[D.rep]
theorem qM(p:kj)(left:Nat)(V:Lt)(N:Ls)(bc aa:Nat)(aZ:ByteArray)(ps:List (ByteArray×Bool))(QA:Ls)(cq qc:Nat)(bx:Value)(w:World)(h:gw w p left)(hN:m4 w p.s V N bc)(bm:bc≤1000)
  (cA:Sl w (off (fun b=>b=p.s) w) QA cq (ps.map ds)) (bK:cq≤2) :
  Calls prog 106 #[.pointer (some ⟨p.wb,0,none⟩),.agg #[.string aZ,.slice QA cq qc,bx],.slice N bc aa] w (H6 w p V ps):=by
 obtain⟨s,wb,A,n,c,l,GA,gn,gc,MA,mn,mc,FA,fn,fc,M,F,ar⟩:=p;have H:=aB h hN cA;have ak:=h.blk.lt;have ch:=h.src.lt;have I:=h.nm;have aW:M.length=mn:=by have:=h.ms.1;simpa using this
 simp only at ak ch I;clear h hN cA;go_enter func106,ntmps106;go_wp2_with(fail);generalize ba:World.alloc _ _=W;have aw:=iO ba;have cE:=gB ba;have bs:=fZ ba;have cY:W.heap.size=w.heap.size+1+1:=by rw[←ba];simp
 have ah:=aB aw cE bs;clear ba aw cE bs;obtain⟨bP,r⟩:∃bP:Nat→List D,bP=fun j=>(M.take j).map fun m=>D.s m.name:=⟨_,rfl⟩
 have ao:bP 0=[]:=by rw[r];rfl
 have aK:∀j m,M[j]?=some m→bP (j+1)=bP j++[.s m.name]:=fun j m h=>by rw[r];simp only;rw[List.take_add_one,h];simp
 obtain⟨bd,S,bw⟩:=eh r ao aK;clear r ao aK;go_loopw [7,8] (fun ho cu wr=>∃(k:Nat) (cc:Ls) (rc:Nat),k≤mn∧cu=.int .i64 k∧ho=.slice cc k rc∧Ext W wr∧Gr (fun _=>False) (w.heap.size+1+1) 9 1 wr cc k rc (bP k)) (fun _ cu _=>mn - (intOf cu).toNat)
 case atStart=>exact⟨0,none,0,Ld _,rfl,rfl,Lo,by rw[S.o];exact Gr.nil _ _ _ _ _⟩
 case round=>
  obtain⟨k,cc,rc,ap,rfl,rfl,aw,hG⟩:=hrel;obtain⟨bq,cC⟩:=aI aw hG;have J:=H.1.ai (ah.1.trans aw);obtain⟨a0,ai,af⟩:=J.blk.two;by_cases dq:k<mn
  ·obtain⟨b,o,m,cs,aQ,O,hm,a5,bp,hc⟩:=Sl.gZ (z:=3) J.ms (fun _=>rfl) dq;simp only at aQ;subst aQ;obtain rfl:=fb.1 a5;have c0:=hc 0 _ rfl;simp only[KQ] at c0;have cR:=ae hm;have bo:(0:Int)≤(k:Int):=ad;have cf:(k:Int)<(mn:Int):=ad;have b0:w.heap.size+1+1≤wr.heap.size:=by have:=aw.size;omega
   clear aw hG J a5 hc bp hm;go_wp2_with((at_builtin;refine bQ kr rfl (.tmp 23) (.tmp 33) rfl cC.o (uv.2 rfl) rfl rfl rfl ad ad b0 ?_;intro aX c2 aT bB az al b9;have b4:=ag bB az;clear bB az al b9));have a3:Ext W aT:=bq.eN (b4.2.below bq.size fun j bi O=>by have:=(cC.lt O).1;omega);have a4:=ae a3;clear a3;go_roundw
   case rel=>exact⟨k+1,aX,c2,ad,by go_num,rfl,a4.o,by rw[bw.o k m cR.o];exact b4.1⟩
   case measure=>exact aH
  ·obtain rfl:k=mn:=ad;have bR:Gr (fun _=>False) (w.heap.size+1+1) 9 1 wr cc k rc ((M.map (·.name)).map D.s):=by
    have:=cC.o;rw[bd.o] at this;simp only at this;rw[KO ad] at this;rw[List.map_map];exact this
   have bL:=ae bR;clear aw hG J cC bR bd S bw;go_wp2_with(fail);go_loopw [7,10] (fun ho cu wr=>∃(j:Nat) (cc:Ls) (rc:Nat) (a6:Lt),j≤cq∧cu=.int .i64 j∧ho=.slice cc (k+a6.length) rc∧a6.length≤2*j∧(∀x∈a6,(x,true)∈ps)∧Ext W wr∧Gr (fun _=>False) (w.heap.size+1+1) 9 1 wr cc (k+a6.length) rc ((M.map (·.name)++a6).map D.s)) (fun _ cu _=>cq - (intOf cu).toNat)
   case atStart=>exact⟨0,cc,rc,[],Ld _,rfl,rfl,by simp,(fun x hx=>by cases hx),bq.o,by rw[Lg];exact bL.o⟩
   case round=>
    obtain⟨j,cc,rc,a6,bi,rfl,rfl,bt,aJ,aw,hG⟩:=hrel;clear bL bq;obtain⟨bq,cC,L⟩:=eh aw hG aJ;have b0:w.heap.size+1+1≤wr.heap.size:=by have:=aw.size;omega
    by_cases dq:j<cq
    ·obtain⟨d0,aL,aM⟩:=(ah.2.1.ai aw).two;obtain⟨b,o,q,cs,bN,O,hm,a5,bp,hc⟩:=Sl.gZ (z:=2) (Sl.c4 H.2.2 ((ah.1.trans aw).mono (M':=fun b=>b=s) fun _ h=>h.elim)) (fun _=>rfl) dq;subst bN;obtain rfl:=s4.1 a5;have c0:=hc 0 _ rfl;have c1:=hc 1 _ rfl;simp only[KQ] at c0;have cR:=ae hm;have T:=O.1;have cl:(0:Int)≤(j:Int):=ad;have cK:(j:Int)<(cq:Int):=ad;clear aw hG a5 hc bp hm aJ O;obtain⟨q1,cB⟩:=q
     cases cB with
     | false=>
      go_wp2_with(fail);go_roundw
      case rel=>exact⟨j+1,cc,rc,a6,ad,by go_num,rfl,ad,L.o,bq.o,cC.o⟩
      case measure=>exact aH
     | true=>
      go_upto_region 11 with(fail);refine eK (fun _=>False) [(0,3),(1,3),(2,0),(3,3),(4,3),(5,3),(6,0),(7,3),(8,0),(9,3),(10,3),(11,3),(12,0),(13,2),(14,2),(15,3)] ?_
      iterate 2 refine pf ?_
      refine ph ?_
      iterate 3 refine pf ?_
      refine ph ?_;refine pf ?_;refine ph ?_
      iterate 3 refine pf ?_
      refine ph ?_;refine ax rfl (fun K hK=>?_);go_simp;refine dO hK ?_;clear hK K;generalize bu:World.drew (World.alloc _ _)=Z;have a9:=gF bu;have bh:=kp bu;have ay:Src Z 1 (some ⟨wr.heap.size,0,none⟩) 2 [.string q1,.string q1]:=⟨rfl,fun u hu=>by
       simp only[KW,List.not_mem_nil,or_false] at hu;rcases hu with rfl|rfl<;>rfl,fun _=>⟨_,0,rfl,fun j u bi=>by rw[KY,bh.cell];simpa using bi⟩⟩
      have e1:=cC.ai a9;have bj:=a9.size;clear bu d0 aL aM c0 c1;refine ax rfl (fun K hK=>?_);rw[if_pos (by rfl)];refine w4 kr (.tmp 50) (.tmp 63) (by rfl) e1 (m:=2) (k:=[D.s q1,D.s q1]) (cp.2 ⟨_,rfl,cp.2 ⟨_,rfl,aP.2 rfl⟩⟩) rfl ay (fun h=>by cases h) (by rfl) (by rfl) ad ad ad ?_;intro aX c2 aT bB az al b9;have a3:Ext W aT:=(bq.trans a9).eN (az.below (aD bq.size) fun i an O=>by have:=(cC.lt O).1;omega);have b4:=ag bB a3;clear bB az al b9 a3 e1 a9 bh ay;refine dO hK ?_;clear hK K;refine pf ?_;refine aE ?_;go_wp2_with(fail);go_roundw
      case rel=>
       refine⟨j+1,aX,c2,a6++[q1,q1],ad,by go_num,by simp[Nat.add_assoc],by simp;omega,?_,b4.2,?_⟩
       ·intro x hx;rcases KP.1 hx with hx|hx
        ·exact L.o x hx
        ·simp at hx;subst hx;exact KJ cR.o
       ·have:=b4.1;rw[←List.append_assoc,KN,KI];exact this
      case measure=>exact aH
    ·obtain rfl:j=cq:=ad;have J:=H.1.ai (ah.1.trans aw);obtain⟨a0,ai,af⟩:=J.blk.two;obtain⟨d0,aL,aM⟩:=(ah.2.1.ai aw).two;have b5:1≤k+a6.length∧k+a6.length≤8:=ad;have bA:=ae J;clear aw hG aJ J;go_wp2_with(fail);refine(a2 wr s A n c l ((k+a6.length:Nat):Int) bA.src ad ad).mono ?_;rintro e aS ⟨cU,rfl,R,ct,h,he⟩;obtain⟨i3,rfl⟩:=KL R;have e2:i3<k+a6.length:=ad;have dC:s<w.heap.size:=ch;have bv:=bA.next h he.fr;have aC:Fr (fun b=>b=s) w aS:=((ah.1.trans bq.o).mono fun _ h=>h.elim).trans he.fr;have cg:=cC.c4 he.fr (fun b O _=>⟨fun h=>h,ad⟩);have bs:=(ah.2.2.ai bq.o).on he.fr (fun h=>ad);have H1:=bH bv aC cg bs;have U:Sl aS (au aS) cc (k+a6.length) ((M.map (·.name)++a6).map D.s):=cg.sl (fun _ _ h=>h.elim) (fun _ h _=>h);obtain⟨b,o,x,cs,bU,O,hm,a5,bp,hc⟩:=Sl.gZ (z:=1) U (fun _=>rfl) e2;subst bU;obtain rfl:=uv.1 a5;have c0:=hc 0 _ rfl;simp only[Nat.mul_one,KQ] at c0;have cR:=ae hm;have b1:(0:Int)≤(i3:Int):=ad;have b2:(i3:Int)<((k+a6.length:Nat):Int):=ad;clear h he bv aC cg U a5 hc bp hm a0 ai af d0 aL aM bA R ct bs;go_upto_region 14 with(fail);generalize hX:World.alloc _ _=X;have br:=aU hX;have bM:=aG hX;have b3:w.heap.size+1+1≤aS.heap.size:=by have:=H1.2.2.2.lt;omega
     have bG:=cI (H1.1.ai br) (H1.2.1.trans (br.mono fun _ h=>h.elim)) (H1.2.2.2.ai br) bM (H.2.1.on (H1.2.1.trans (br.mono fun _ h=>h.elim)));clear hX br bM H1 c0;obtain⟨a0,ai,af⟩:=bG.1.blk.two;obtain⟨a8,am,aF⟩:=bG.2.2.1.two;obtain⟨d0,aL,aM⟩:=bG.2.2.2.1.two;have gP:¬wb=s:=by have:=bG.1.ne;simp only at this;omega
     by_cases bX:i3<k
     ·obtain⟨ht,bn,m,cs,aQ,aV,P,a5,bp,hc⟩:=Sl.gZ (z:=3) bG.1.ms (fun _=>rfl) bX;simp only at aQ;subst aQ;obtain rfl:=fb.1 a5;have c2:=hc 2 _ rfl;have aN:x=m.name:=by
       have:=cR.o;rw[List.getElem?_append_left (by simp;omega),List.getElem?_map,P] at this;injection this with this;exact this.symm
      have bJ:m∈M:=KJ P;have a7:=bG.1.gp m bJ;have av:=ag aN bJ;have bT:(i3:Int)<(k:Int):=ad;clear a5 hc bp P aN bJ aV;by_cases bW:0<m.size
      ·go_wp2_with(fail);refine(ys ⟨s,wb,A,n,c,l,GA,gn,gc,_,k,mc,FA,fn,fc,M,F,ar⟩ left V N bc aa m.size bW a7.2 X bG.1 bG.2.2.2.2 bm).mono ?_;rintro e b6 ⟨y,da,c8,dc,rfl,bb,cH,c4,ay,aj⟩;simp only at ay aj;have bF:=bG.2.2.1.on aj ad;have cF:=bG.2.2.2.1.on aj ad;have aY:=bG.2.1.trans aj;have b8:=aj.size;clear a0 ai af a8 am aF d0 aL aM c2;obtain⟨a8,am,aF⟩:=bF.two;obtain⟨d0,aL,aM⟩:=cF.two;have bC:=hR bb cH c4 ay aY bF cF;clear bb cH c4 ay aY aj bF cF;go_upto_region 16 with(fail);generalize bu:World.setCell _ _ _=Z;have bj:Z.heap.size=b6.heap.size:=by rw[←bu];simp
       generalize hQ:World.alloc _ _=Q;have be:=cL bu;have ab:=aU hQ;have aR:aq Q b6.heap.size 54 #[.int .i64 y.a9,.int .i64 y.numOf,.string y.bu,.slice da c8 dc]:=hQ▸aq.hL _ _ _ bj.symm;have bS:aq Q aS.heap.size 177 #[.string x,.slice (some ⟨b6.heap.size,0,none⟩) 1 1]:=by
        have ac:aq Z aS.heap.size 177 #[.string x,.slice (some ⟨b6.heap.size,0,none⟩) 1 1]:=bu▸bC.2.2.2.2.2.2.aM 1 _;exact ac.ai ab
       have bD:=((bC.2.2.2.2.2.1.on be ad).ai ab)
       have bO:Fr (fun b=>b=s) w Q:=(bC.2.2.2.2.1.eN (be.below bC.2.2.2.2.1.size fun i an h=>ad)).trans (ab.mono fun _ h=>h.elim);have bf:cm Q s A n c l:=(bC.2.2.2.1.cQ be fun b O h=>ad).cQ ab fun _ _ h=>h;have dN:aS.heap.size<X.heap.size:=bG.2.2.2.1.lt;have bg:Sl Q (fresh X Q) da c8 (y.args.map bk):=(bC.2.2.1.ak fun b O=>(ab.block b (aD O.2) fun h=>h).trans (be.block b O.2 (aD O.1))).mono fun b O=>⟨O.1,by have:=O.2;have:=ab.size;omega⟩
       have bY:=cI aR bD bO bf bg;have b7:=aR.lt;clear a8 am aF d0 aL aM;obtain⟨a8,am,aF⟩:=bD.two;obtain⟨d0,aL,aM⟩:=bS.two;clear bu hQ be ab aR bS bD bO bf bg;go_wp2_with(fail);generalize cr:World.setCell _ _ _=Y;obtain⟨bI,bE,bz⟩:=dU (M:=fun b=>b=s) [.string x,.slice (some ⟨b6.heap.size,0,none⟩) 1 1] (by rfl) bY.2.1 bY.2.2.1 ad cr;obtain⟨bl,aA,aO⟩:=bI.two;refine Ln (v:=.agg #[.string x,.slice (some ⟨b6.heap.size,0,none⟩) 1 1]) (by simp[results,Tryz.results106,go_sem,bl]) rfl ?_;obtain⟨aR,_,_,bf,bg⟩:=bY.o;have bZ:Sl Y (fresh w Y) da c8 (y.args.map bk):=(bg.ak fun b O=>bz.block b O.2 (aD O.1)).mono fun b O=>⟨by have:=O.1;omega,KH O.2 bz.size⟩
       refine⟨⟨x,some y⟩,some ⟨b6.heap.size,0,none⟩,1,1,rfl,fun fs=>.inl ⟨m,av.2,av.1.symm,fun _=>⟨y,rfl,bC.1⟩,fun h=>absurd bW h⟩,KG _,?_,bf.cQ bz (fun b O h=>ad),bE⟩;exact Sl.sV (aR.on bz ad) (D.bj.2 (a1.2 ⟨da,c8,dc,rfl,bC.2.1,bZ⟩)) ⟨ad,by have:=bz.size;omega⟩ rfl
      ·go_wp2_with(fail);generalize cr:World.setCell _ _ _=Y;obtain⟨bI,bE,bz⟩:=dU (M:=fun b=>b=s) [.string x,.slice none 0 0] (by rfl) bG.2.2.1 bG.2.1 ad cr;obtain⟨bl,aA,aO⟩:=bI.two;refine Ln (v:=.agg #[.string x,.slice none 0 0]) (by simp[results,Tryz.results106,go_sem,bl]) rfl ?_;exact⟨⟨x,none⟩,none,0,0,rfl,fun fs=>.inl ⟨m,av.2,av.1.symm,fun h=>absurd h ad,fun _=>rfl⟩,KG _,Sl.bO _,bG.1.src.cQ bz (fun b O h=>by simp only at O;omega),bE⟩
     ·have bT:¬(i3:Int)<(k:Int):=ad;go_wp2_with(fail);generalize cr:World.setCell _ _ _=Y;obtain⟨bI,bE,bz⟩:=dU (M:=fun b=>b=s) [.string x,.slice none 0 0] (by rfl) bG.2.2.1 bG.2.1 ad cr;obtain⟨bl,aA,aO⟩:=bI.two;refine Ln (v:=.agg #[.string x,.slice none 0 0]) (by simp[results,Tryz.results106,go_sem,bl]) rfl ?_;have bV:x∈a6:=by
       have:=cR.o;rw[List.getElem?_append_right (by simp;omega)] at this;exact KJ this
      exact⟨⟨x,none⟩,none,0,0,rfl,fun fs=>.inr ⟨L.o x bV,rfl⟩,KG _,Sl.bO _,bG.1.src.cQ bz (fun b O h=>by simp only at O;omega),bE⟩
theorem xq:ch prog 178 214 (.agg #[.bool false,.string ⟨#[]⟩,.slice none 0 0,.int .i64 0,.int .i64 0,.string ⟨#[]⟩,.slice none 0 0]) 7 104:=ch.mk' Tryz.underlying178 (by kernel_rfl) rfl ad
theorem FH{r:eO}{IA:Ls}{i ic:Nat}(h:Sl w P IA i (r.idx.toList.map bk))(hc:i≤ic):(gH (.mx r)).rep w P [.bool true,.string r.name,.slice IA i ic,.int .i64 0,.int .i64 0,.string ⟨#[]⟩,.slice none 0 0]:=by
 unfold gH;rw[bK];exact fp.2 ⟨_,rfl,gO.2 ⟨[.string r.name,.slice IA i ic],_,rfl,jw.2 ⟨IA,i,ic,rfl,hc,h⟩,D.bj.2 (fh.2 ⟨none,0,rfl⟩)⟩⟩
theorem FG{x:VE}{cO:Ls}{cG cV:Nat}(h:Sl w P cO cG (x.args.map bk))(hc:cG≤cV):(gH (.ex x)).rep w P [.bool false,.string ⟨#[]⟩,.slice none 0 0,.int .i64 x.a9,.int .i64 x.numOf,.string x.bu,.slice cO cG cV]:=by
 unfold gH;rw[bK];refine fp.2 ⟨_,rfl,gO.2 ⟨[.string ⟨#[]⟩,.slice none 0 0],_,rfl,?_,D.bj.2 (a1.2 ⟨cO,cG,cV,rfl,hc,h⟩)⟩⟩;exact zl
theorem nI{G:Env}{V:Lt}{q:ByteArray×Bool}{a:dn}:∀(ps:List (ByteArray×Bool)) (a1:List dn),iN G V ps a1→IY G V q a→iN G V (ps++[q]) (a1++[a])
 | [],[],_,h=>⟨h,trivial⟩
 | _::ps,_::a1,h,av=>⟨h.1,nI ps a1 h.2 av⟩
 | [],_::_,h,_=>h.elim
 | _::_,[],h,_=>h.elim
def HV(w:World)(p:kj)(V:Lt)(ps gs:List (ByteArray×Bool))(e:Ending)(ab:World):Prop:=
 ∃(a1:List dn) (KA:Ls) (k kc:Nat),e=.returned (.slice KA k kc)∧(∀fs,iN ⟨p.M,ps,fs⟩ V gs a1)∧k≤kc∧Sl ab (fresh w ab) KA k (a1.map gH)∧cm ab p.s p.A p.n p.c p.l∧Fr (fun b=>b=p.s) w ab
theorem yQ(p:kj)(left:Nat)(V:Lt)(N:Ls)(bc aa:Nat)(aZ:ByteArray)(ps:List (ByteArray×Bool))(QA:Ls)(cq qc:Nat)(bx:Value)(m:ByteArray)(gs:List (ByteArray×Bool))(bS:Ls)(bL bD:Nat)(u:Value)(w:World)(h:gw w p left)(hN:m4 w p.s V N bc)(bm:bc≤1000)
  (cA:Sl w (off (fun b=>b=p.s) w) QA cq (ps.map ds)) (bK:cq≤2) (bJ:Sl w (off (fun b=>b=p.s) w) bS bL (gs.map ds)) (c5:bL≤2) :
  Calls prog 108 #[.pointer (some ⟨p.wb,0,none⟩),.agg #[.string aZ,.slice QA cq qc,bx],.agg #[.string m,.slice bS bL bD,u],.slice N bc aa] w (HV w p V ps gs):=by
 obtain⟨s,wb,A,n,c,l,GA,gn,gc,MA,mn,mc,FA,fn,fc,M,F,ar⟩:=p;have ak:=h.blk.lt;have ch:=h.src.lt;have ci:gs.length=bL:=by have:=bJ.1;simpa using this
 simp only at ak ch;have H:=bH h hN cA bJ;clear h hN cA bJ;go_enter func108,ntmps108;go_wp2_with(fail);generalize ba:World.alloc _ _=W;have aw:=iO ba;have cE:=gB ba;have bs:=fZ ba;have cY:W.heap.size=w.heap.size+1+1:=by rw[←ba];simp
 have ah:=bH (H.1.ai aw) (aw.mono (M':=fun b=>b=s) fun _ h=>h.elim) cE bs;clear ba aw cE bs;go_loopw [9,10] (fun aV cu wr=>∃(j:Nat) (cc:Ls) (rc:Nat) (a1:List dn),j≤bL∧cu=.int .i64 j∧aV=.slice cc j rc∧(∀fs,iN ⟨M,ps,fs⟩ V (gs.take j) a1)∧gw wr ⟨s,wb,A,n,c,l,GA,gn,gc,MA,mn,mc,FA,fn,fc,M,F,ar⟩ left∧Fr (fun b=>b=s) w wr∧aq wr w.heap.size 143 #[.string aZ,.slice QA cq qc,bx]∧aq wr (w.heap.size+1) 143 #[.string m,.slice bS bL bD,u]∧
  Gr (fun b=>w.heap.size≤b) (w.heap.size+1+1) 214 7 wr cc j rc (a1.map gH)) (fun _ cu _=>bL - (intOf cu).toNat)
 case atStart=>exact⟨0,none,0,[],Ld _,rfl,rfl,fun fs=>trivial,ah.1,ah.2.1,ah.2.2.1,ah.2.2.2,Gr.nil _ _ _ _ _⟩
 case round=>
  obtain⟨j,cc,rc,a1,bi,rfl,rfl,aK,J,hF,bU,bg,hG⟩:=hrel;clear ah;have aW:=cI J hF bU bg hG;have ao:=ae aK;obtain⟨d0,aL,aM⟩:=bg.two;obtain⟨e0,a6,aP⟩:=bU.two;by_cases dq:j<bL
  ·obtain⟨b,o,q,cs,eL,O,hm,a5,bp,hc⟩:=Sl.gZ (z:=2) (Sl.c4 H.2.2.2 hF) (fun _=>rfl) dq;subst eL;obtain rfl:=s4.1 a5;have c1:=hc 1 _ rfl;have cR:=ae hm;have cl:(0:Int)≤(j:Int):=ad;have cK:(j:Int)<(bL:Int):=ad;have m1:=hF.size;clear a5 hc bp hm O J hF bU bg hG aK;obtain⟨q1,cB⟩:=q;simp only at c1
   cases cB with
   | true=>
    go_wp2_with(fail);refine(qM ⟨s,wb,A,n,c,l,GA,gn,gc,MA,mn,mc,FA,fn,fc,M,F,ar⟩ left V N bc aa aZ ps QA cq qc bx wr aW.1 (H.2.1.on aW.2.1) bm (Sl.c4 H.2.2.1 aW.2.1) bK).mono ?_;rintro e aT ⟨r,IA,i,ic,rfl,bn,aN,ax,ay,aj⟩;simp only at bn ay aj;have L:=aW.2.2.2.2.c4 aj (fun b O _=>⟨ad,ad⟩);have hd:(gH (.mx r)).rep aT (lv (fun b=>w.heap.size≤b) aT (.slice cc j rc)) [.bool true,.string r.name,.slice IA i ic,.int .i64 0,.int .i64 0,.string ⟨#[]⟩,.slice none 0 0]:=
     FH (ax.mono fun b O=>⟨by have:=O.1;omega,O.2,fun h=>by have:=(aW.2.2.2.2.lt h).2;have:=O.1;omega⟩) aN
    have bG:=cT (aW.1.next ay aj) (aW.2.1.trans aj) (aW.2.2.1.on aj ad) (aW.2.2.2.1.on aj ad) L hd;have g:=ae bn;have b0:w.heap.size+1+1≤aT.heap.size:=by have:=aj.size;omega
    clear d0 aL aM e0 a6 aP c1 L hd aj ay ax aN bn aW;go_wp2_with((at_builtin;refine bQ xq rfl (.tmp 24) (.tmp 30) rfl bG.2.2.2.2.1 bG.2.2.2.2.2 rfl rfl rfl ad ad b0 ?_;intro aX c2 b6 bB az al b9;have b4:=ag bB az;clear bB az al b9));have bv:∀b,(Value.slice cc j rc).ownBlock=some b→w.heap.size+1+1≤b:=fun b O=>(bG.2.2.2.2.1.lt O).1;have a7:Fr (fun b=>b=s) w b6:=bG.2.1.eN (b4.2.below bG.2.1.size fun k ap h=>by have:=bv k h;omega);have cU:gw b6 ⟨s,wb,A,n,c,l,GA,gn,gc,MA,mn,mc,FA,fn,fc,M,F,ar⟩ left:=(H.1).next (bG.1.src.cQ b4.2 fun b O h=>by have:=bv b h;simp only at O;omega) a7;have bV:=cI cU a7 (bG.2.2.1.on b4.2 (fun h=>by have:=bv _ h;omega)) (bG.2.2.2.1.on b4.2 (fun h=>by have:=bv _ h;omega)) b4.1;clear bv a7 cU;go_roundw
    case rel=>
     refine⟨j+1,aX,c2,a1++[.mx r],ad,by go_num,rfl,fun fs=>?_,bV.1,bV.2.1,bV.2.2.1,bV.2.2.2.1,by rw[KN];exact bV.2.2.2.2⟩;rw[List.take_add_one,cR.o];exact nI _ _ (ao.o fs) ⟨rfl,g.o fs⟩
    case measure=>exact aH
   | false=>
    go_wp2_with(fail);refine(jK ⟨s,wb,A,n,c,l,GA,gn,gc,MA,mn,mc,FA,fn,fc,M,F,ar⟩ left V N bc aa wr aW.1 (H.2.1.on aW.2.1) bm).mono ?_;rintro e aT ⟨x,cO,cG,cV,rfl,bn,aN,ax,ay,aj⟩;simp only at ay aj;have L:=aW.2.2.2.2.c4 aj (fun b O _=>⟨ad,ad⟩);have hd:(gH (.ex x)).rep aT (lv (fun b=>w.heap.size≤b) aT (.slice cc j rc)) [.bool false,.string ⟨#[]⟩,.slice none 0 0,.int .i64 x.a9,.int .i64 x.numOf,.string x.bu,.slice cO cG cV]:=
     FG (ax.mono fun b O=>⟨by have:=O.1;omega,O.2,fun h=>by have:=(aW.2.2.2.2.lt h).2;have:=O.1;omega⟩) aN
    have bG:=cT (aW.1.next ay aj) (aW.2.1.trans aj) (aW.2.2.1.on aj ad) (aW.2.2.2.1.on aj ad) L hd;have g:=ae bn;have b0:w.heap.size+1+1≤aT.heap.size:=by have:=aj.size;omega
    clear d0 aL aM e0 a6 aP c1 L hd aj ay ax aN bn aW;go_wp2_with((at_builtin;refine bQ xq rfl (.tmp 32) (.tmp 37) rfl bG.2.2.2.2.1 bG.2.2.2.2.2 rfl rfl rfl ad ad b0 ?_;intro aX c2 b6 bB az al b9;have b4:=ag bB az;clear bB az al b9));have bv:∀b,(Value.slice cc j rc).ownBlock=some b→w.heap.size+1+1≤b:=fun b O=>(bG.2.2.2.2.1.lt O).1;have a7:Fr (fun b=>b=s) w b6:=bG.2.1.eN (b4.2.below bG.2.1.size fun k ap h=>by have:=bv k h;omega);have cU:gw b6 ⟨s,wb,A,n,c,l,GA,gn,gc,MA,mn,mc,FA,fn,fc,M,F,ar⟩ left:=(H.1).next (bG.1.src.cQ b4.2 fun b O h=>by have:=bv b h;simp only at O;omega) a7;have bV:=cI cU a7 (bG.2.2.1.on b4.2 (fun h=>by have:=bv _ h;omega)) (bG.2.2.2.1.on b4.2 (fun h=>by have:=bv _ h;omega)) b4.1;clear bv a7 cU;go_roundw
    case rel=>
     refine⟨j+1,aX,c2,a1++[.ex x],ad,by go_num,rfl,fun fs=>?_,bV.1,bV.2.1,bV.2.2.1,bV.2.2.2.1,by rw[KN];exact bV.2.2.2.2⟩;rw[List.take_add_one,cR.o];exact nI _ _ (ao.o fs) ⟨rfl,g.o⟩
    case measure=>exact aH
  ·obtain rfl:j=bL:=ad;clear J hF bU bg hG aK;go_wp2_with(fail);go_ret;have ac:=ao.o;rw[KO ad] at ac;exact⟨a1,cc,j,rc,rfl,ac,aW.2.2.2.2.cap.1,aW.2.2.2.2.sl (fun b h hp=>⟨hp,h⟩) (fun b h hp=>⟨ad,h⟩),aW.1.src,aW.2.1⟩
end Go.Proofs.YtnhhdaggkiomoaaGreat

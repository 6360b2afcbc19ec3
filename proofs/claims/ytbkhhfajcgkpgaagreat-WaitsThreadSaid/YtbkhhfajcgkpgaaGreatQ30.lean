/- Part 30 of the proof. No condition of its own. -/
import Derived.Test.YtbkhhfajcgkpgaaGreatQ14
import Derived.Test.YtbkhhfajcgkpgaaGreatQ23
namespace Go.Proofs.YtbkhhfajcgkpgaaGreat
open Go.RowKit Go.Proofs.Tryz
set_option maxRecDepth 1000000
set_option maxHeartbeats 25600000
set_option linter.unusedVariables false
variable{V:Ks}{l:List D}{cs:List Value}{a8 g left n s:Nat}{M P:Nat→Prop}{A R:Kr}{p:Prop}{t:TypeId}{ac w:World}
theorem fI.fr(h:fI s w ac):Fr (fun b=>b=s) w ac:=⟨h.os,h.tape,h.output,h.size,h.block⟩
theorem dL{X V:World}{cs:Array Value}(vs:List Value)(hs:cs.size=vs.length)(aL:af V g t cs)(aF:Fr M w V)(aJ:w.heap.size≤g)(hX:q6 g V 0 vs=X):
  af X g t vs.toArray∧Fr M w X∧Fr (fun b=>b=g) V X:=by
 subst hX;have aD:=ko (g:=g) vs 0 V;refine⟨?_,aF.eB (aD.below aF.size fun k aj h=>ab),aD⟩;have ae:=kQ vs 0 V cs aL;have aC:j5 cs 0 vs=vs.toArray:=by
  apply Array.toList_inj.1
  rw[lU vs 0 cs ab];simp;omega
 rwa [aC] at ae
theorem b0.cG{c:Nat}{l:List Int}(h:b0 w s A n c l)(O:Fr M w ac)(hM:∀b,b≤s→¬M b):b0 ac s A n c l:=
 h.G5 (g:=s+1) (O.below h.lt fun k aj=>hM k ab) ab
theorem Sl.CK{aN aO:World}(h:Sl aN (fresh w aN) A n l)(O:Fr M aN aO)(hM:∀b,M b→b<w.heap.size):Sl aO (fresh w aO) A n l:=
 (h.aj fun b bF=>O.block b bF.2 fun hm=>by have:=hM b hm;have:=bF.1;omega).mono fun b bF=>⟨bF.1,JR bF.2 O.size⟩
theorem Sl.m0(aL:af w g t cs.toArray)(aU:D.aI w P l cs)(aY:P g)(hl:l.length=n):Sl w P (some ⟨g,0,none⟩) n l:=
 ⟨hl,fun _=>⟨g,0,cs,rfl,aY,aU,fun j u bc=>by rw[J8,aL.cell];simpa using bc⟩⟩
def s5(w:World)(s:Nat)(A:Kr)(n c:Nat)(l:List Int)(V:Ks)(d:Nat)(e:Ending)(ac:World):Prop:=
 ∃(x:VE) (cl:Kr) (ck ct:Nat),e=.returned (.agg #[.int .i64 x.aU,.int .i64 x.numOf,.string x.a1,.slice cl ck ct])∧x.src V d∧ck≤ct∧Sl ac (fresh w ac) cl ck (x.args.map bb)∧b0 ac s A n c l∧Fr (fun b=>b=s) w ac
def mN(w:World)(s:Nat)(V:Ks)(R:Kr)(a8:Nat):Prop:=Sl w (off (fun b=>b=s) w) R a8 (V.map .s)
theorem mN.on(h:mN w s V R a8)(O:Fr (fun b=>b=s) w ac):mN ac s V R a8:=Sl.cO h O
theorem uh(w:World)(s:Nat)(A:Kr)(n c:Nat)(l:List Int)(V:Ks)(R:Kr)(a8 bf:Nat)(d:Nat)(hd:d≤5)(L:a8≤1000)(h:b0 w s A n c l)(hN:mN w s V R a8)
  (K:d≠0→∀aO:World,b0 aO s A n c l→mN aO s V R a8→Calls prog 141 #[.pointer (some ⟨s,0,none⟩),.slice R a8 bf,.int .i64 ((d:Int) - 1)] aO (s5 aO s A n c l V (d - 1))) :
  Calls prog 141 #[.pointer (some ⟨s,0,none⟩),.slice R a8 bf,.int .i64 d] w (s5 w s A n c l V d):=by
 have b9:=ad K;have bT:=h.lt;have aC:=ai h hN;clear K h hN;go_enter func141,ntmps141;go_wp2_with(fail);generalize bg:World.alloc _ _=W;have aF:Ext w W:=bg▸Kn.alloc _;have aL:af W w.heap.size 57 #[.int .i64 0,.int .i64 0,.string ⟨#[]⟩,.slice none 0 0]:=bg▸af.ct _ _ _ rfl;have aG:Fr (fun b=>b=s) w W:=aF.mono fun _ h=>h.elim;have ax:=dA (aC.1.cG aF fun _ _ h=>h) (aC.2.on aG) aG aL bT;clear bg aF aL aG aC;refine(aW _ s A n c l 10 ax.1 ab ab).mono ?_;rintro e aN ⟨b5,rfl,aJ,bF,h,he⟩;have H1:=ai h he.fr;have r:=ai aJ bF;clear h he;have U:w.heap.size<W.heap.size:=ax.2.2.2.1.lt;have b1:W.heap.size≤aN.heap.size:=H1.2.size;by_cases f:((d:Int) == 0)=true∨((d:Int) == 0)=false∧decide (b5<2)=true
 ·clear b9 r aJ bF;rcases f with bq|⟨bq,cH⟩
  all_goals
   by_cases bQ:0<a8
   ·have cp:decide ((0:Int)<(a8:Int))=true:=by simp;omega
    go_wp2_with(fail);refine(aW _ s A n c l 2 H1.1 ab ab).mono ?_;rintro e aO ⟨bE,rfl,i,bx,h,he⟩;have aE:=ai h (H1.2.trans he.fr);clear h he;by_cases cn:bE=1
    ·have a9:(bE == 1)=true:=by simpa using cn
     clear cn i bx;go_wp2_with(fail);refine(aW _ s A n c l a8 aE.1 ab ab).mono ?_;rintro e bU ⟨cx,rfl,ac,az,h,he⟩;have ao:=ai h (aE.2.trans he.fr);clear h he;obtain⟨j,rfl⟩:=JV ac;obtain⟨b,o,nm,cs,rfl,O,hm,aU,hl,hc⟩:=Sl.gN (enc:=D.s) (z:=1) (ax.2.1.on ao.2) (fun _=>rfl) (k:=j) ab;have al:cs=[.string nm]:=by simpa only[D.rep] using aU
     subst al;have c0:=hc 0 _ rfl;simp only[Nat.mul_one,J0] at c0;have bV:=ax.2.2.2.1.on ao.2 (fun h=>by have:=ax.2.2.2.2;omega);have aK:=ad bV;obtain⟨e0,a5,aZ⟩:=bV.two;have H:=ad (JT hm);clear aU hl hc hm bV;go_wp2_with(fail);generalize b6:World.setCell _ _ _=Y;obtain⟨bt,bA,bk⟩:=dL (M:=fun b=>b=s) [.int .i64 2,.int .i64 0,.string nm,.slice none 0 0] (by rfl) aK.o (ax.2.2.1.trans ao.2) (JQ _) b6;obtain⟨bv,bd,be⟩:=bt.two;refine Km (v:=.agg #[.int .i64 2,.int .i64 0,.string nm,.slice none 0 0]) (by simp[results,Tryz.results141,go_sem,bv]) rfl ?_;exact⟨.gy nm,none,0,0,rfl,(by cases d<;>exact H.o),JQ _,Sl.bG _,ao.1.cG bk (fun b O h=>by have:=ax.2.2.2.2;omega),bA⟩
    ·have a9:(bE == 1)=false:=by simpa using cn
     clear cn i bx;go_wp2_with(fail);refine(pO _ s A n c l aE.1).mono ?_;rintro e bU ⟨cx,rfl,ac,az,h,he⟩;have ao:=ai h (aE.2.trans he.fr);exact Fh
   ·obtain rfl:a8=0:=ab;go_wp2_with(fail);refine(pO _ s A n c l H1.1).mono ?_;rintro e bU ⟨cx,rfl,ac,az,h,he⟩;have ao:=ai h (H1.2.trans he.fr);exact Fh
 have av:d≠0:=fun h=>f (.inl (by simp[h]));have bq:((d:Int) == 0)=false:=by simp;omega
 have cH:decide (b5<2)=false:=by
  have:¬(decide (b5<2)=true):=fun h=>f (.inr ⟨bq,h⟩);simpa using this
 have G:wrap64 ((d:Int) - 1)=(d:Int) - 1:=IntWalk.wrap64_in _ ab;have df:=ad av;have u:=ai U b1;clear f av;by_cases bo:b5<4
 ·obtain aI|aI:b5=2∨b5=3:=by simp at cH;omega
  all_goals
   subst aI;clear bo aJ bF r cH b1 U;go_wp2_with(fail);refine(b9.o df.o _ H1.1 (ax.2.1.on H1.2)).mono ?_;rintro e aO ⟨x,cl,ck,ct,rfl,hx,S,bY,h,he⟩;have aE:=ai h (H1.2.trans he);have aP:=bw hx S bY he;have bV:=ax.2.2.2.1.on aE.2 (fun h=>by have:=ax.2.2.2.2;omega);have aK:=ad bV;obtain⟨e0,a5,aZ⟩:=bV.two;clear h he hx S bY bV;go_wp2_with(fail);generalize b6:World.setCell _ _ _=Y;have cw:Y.heap.size=aO.heap.size:=by rw[←b6];simp
   obtain⟨bt,bA,bk⟩:=dL (M:=fun b=>b=s) [.int .i64 _,.int .i64 0,.string ⟨#[]⟩,.slice (some ⟨aO.heap.size,0,none⟩) 1 1] (by rfl) aK.o (ax.2.2.1.trans aE.2) (JQ _) b6;generalize bD:World.alloc _ _=Z;have bC:=bt.alloc (.cells #[.int .i64 x.aU,.int .i64 x.numOf,.string x.a1,.slice cl ck ct] 57);rw[bD] at bC;have g:af Z aO.heap.size 57 #[.int .i64 x.aU,.int .i64 x.numOf,.string x.a1,.slice cl ck ct]:=bD▸af.ct _ _ _ cw.symm;have bl:Fr (fun b=>b=s) w Z:=bD▸bA.alloc _;have bn:Fr (fun b=>b=w.heap.size) aO Z:=bD▸bk.alloc _;obtain⟨bv,bd,be⟩:=bC.two;obtain⟨hx,S,bY,he⟩:=aP.o;have b4:=ax.2.2.2.2;obtain⟨U,b1⟩:=u.o;have aX:=he.size;have bi:=g.lt;refine Km (v:=.agg #[.int .i64 _,.int .i64 0,.string ⟨#[]⟩,.slice (some ⟨aO.heap.size,0,none⟩) 1 1]) (by simp[results,Tryz.results141,go_sem,bv];rfl) rfl ?_;have m:Sl Z (fresh w Z) cl ck (x.args.map bb):=(bY.aj fun b O=>bn.block b O.2 (aH O.1)).mono fun b O=>⟨by have:=O.1;omega,JR O.2 bn.size⟩
   refine⟨.un _ x,some ⟨aO.heap.size,0,none⟩,1,1,rfl,?_,JQ _,Sl.m0 g (D.bj.2 (aV.2 ⟨cl,ck,ct,rfl,S,m⟩)) ⟨ab,bi⟩ rfl,aE.1.cG bn (fun b O h=>ab),bl⟩;have:=df.o;obtain⟨d2,rfl⟩:∃d2,d=d2+1:=⟨d - 1,ab⟩
   exact⟨by decide,hx⟩
 have dy:decide (b5<4)=false:=by simpa using bo
 clear aJ bF bo b1 U;go_wp2_with(fail);refine(aW _ s A n c l 13 H1.1 ab ab).mono ?_;rintro e aO ⟨bE,rfl,i,bx,h,he⟩;have aE:=ai h (H1.2.trans he.fr);have bz:=he.size;clear h he;have I:wrap64 (5+bE)=5+bE:=IntWalk.wrap64_in _ ab;have bj:=ad (show 5≤5+bE∧5+bE≤17 by omega);have t:=ad bz;clear i bx bz cH dy;go_wp2_with(fail);refine(b9.o df.o _ aE.1 (ax.2.1.on aE.2)).mono ?_;rintro e bU ⟨x,cl,ck,ct,rfl,hx,S,bY,h,he⟩;have ao:=ai h (aE.2.trans he);have aP:=bw hx S bY he;clear h he hx S bY;go_wp2_with(fail);refine(b9.o df.o _ ao.1 (ax.2.1.on ao.2)).mono ?_;rintro e ci ⟨y,cC,cI,cD,rfl,hx,S,bY,h,he⟩;have P:=ai h (ao.2.trans he);have bM:=bw hx S bY he;have bV:=ax.2.2.2.1.on P.2 (fun h=>by have:=ax.2.2.2.2;omega);have aK:=ad bV;obtain⟨e0,a5,aZ⟩:=bV.two;clear h he hx S bY bV;go_wp2_with(fail);generalize b6:World.setCell _ _ _=Y;have cw:Y.heap.size=ci.heap.size:=by rw[←b6];simp
 obtain⟨bt,bA,bk⟩:=dL (M:=fun b=>b=s) [.int .i64 (5+bE),.int .i64 0,.string ⟨#[]⟩,.slice (some ⟨ci.heap.size,0,none⟩) 2 2] (by rfl) aK.o (ax.2.2.1.trans P.2) (JQ _) b6;generalize bD:World.alloc _ _=Z;have bC:=bt.alloc (.cells #[.int .i64 x.aU,.int .i64 x.numOf,.string x.a1,.slice cl ck ct,.int .i64 y.aU,.int .i64 y.numOf,.string y.a1,.slice cC cI cD] 57);rw[bD] at bC;have g:af Z ci.heap.size 57 #[.int .i64 x.aU,.int .i64 x.numOf,.string x.a1,.slice cl ck ct,.int .i64 y.aU,.int .i64 y.numOf,.string y.a1,.slice cC cI cD]:=bD▸af.ct _ _ _ cw.symm;have bl:Fr (fun b=>b=s) w Z:=bD▸bA.alloc _;have bn:Fr (fun b=>b=w.heap.size) ci Z:=bD▸bk.alloc _;obtain⟨bv,bd,be⟩:=bC.two;obtain⟨hx,S,bY,he⟩:=aP.o;obtain⟨a4,co,cv,bI⟩:=bM.o;have b4:=ax.2.2.2.2;obtain⟨U,b1⟩:=u.o;have bz:=t.o;have aX:=he.size;have bc:=bI.size;have bi:=g.lt;refine Km (v:=.agg #[.int .i64 (5+bE),.int .i64 0,.string ⟨#[]⟩,.slice (some ⟨ci.heap.size,0,none⟩) 2 2]) (by simp[results,Tryz.results141,go_sem,bv]) rfl ?_;have m:Sl Z (fresh w Z) cl ck (x.args.map bb):=(bY.aj fun b O=>(bn.block b (aH O.2) (aH O.1)).trans (bI.block b O.2 (aH O.1))).mono fun b O=>⟨by have:=O.1;omega,by have:=O.2;omega⟩
 have F:Sl Z (fresh w Z) cC cI (y.args.map bb):=(cv.aj fun b O=>bn.block b O.2 (aH O.1)).mono fun b O=>⟨by have:=O.1;omega,by have:=O.2;omega⟩
 refine⟨.bin (5+bE) x y,some ⟨ci.heap.size,0,none⟩,2,2,rfl,?_,JQ _,Sl.m0 g (gD.2 ⟨_,_,rfl,aV.2 ⟨cl,ck,ct,rfl,S,m⟩,D.bj.2 (aV.2 ⟨cC,cI,cD,rfl,co,F⟩)⟩) ⟨ab,bi⟩ rfl,P.1.cG bn (fun b O h=>ab),bl⟩;have:=df.o;obtain⟨d2,rfl⟩:∃d2,d=d2+1:=⟨d - 1,ab⟩
 exact⟨bj.o,hx,a4⟩
theorem oD(s:Nat)(A:Kr)(n c:Nat)(l:List Int)(V:Ks)(R:Kr)(a8 bf:Nat)(L:a8≤1000):∀(d:Nat),d≤5→∀(w:World),b0 w s A n c l→mN w s V R a8→
  Calls prog 141 #[.pointer (some ⟨s,0,none⟩),.slice R a8 bf,.int .i64 d] w (s5 w s A n c l V d)
 | 0,hd,w,h,hN=>uh w s A n c l V R a8 bf 0 hd L h hN (fun h=>absurd rfl h)
 | d+1,hd,w,h,hN=>uh w s A n c l V R a8 bf (d+1) hd L h hN (fun _ aO aC a=>by
   have:=oD s A n c l V R a8 bf L d ab aO aC a;rw[show ((d+1:Nat):Int) - 1=d by omega];exact this)
structure j7 where
 s:Nat
 wb:Nat
 A:Option Addr
 n:Nat
 c:Nat
 l:List Int
 GA:Option Addr
 gn:Nat
 gc:Nat
 MA:Option Addr
 mn:Nat
 mc:Nat
 FA:Option Addr
 fn:Nat
 fc:Nat
 M:List bA
 F:List az
 ar:Bool
abbrev j7.MW(p:j7):Nat→Prop:=fun b=>b=p.s∨b=p.wb
structure gd(w:World)(p:j7)(left:Nat):Prop where
 src:b0 w p.s p.A p.n p.c p.l
 blk:af w p.wb 170 #[.pointer (some ⟨p.s,0,none⟩),.slice p.GA p.gn p.gc,.slice p.MA p.mn p.mc,.slice p.FA p.fn p.fc,.int .i64 left,.bool p.ar]
 ne:p.s<p.wb
 ms:Sl w (off p.MW w) p.MA p.mn (p.M.map dZ)
 fs:Sl w (off p.MW w) p.FA p.fn (p.F.map dd)
 nm:1≤p.mn∧p.mn≤4
 nf:1≤p.fn∧p.fn≤4
 gm:∀m∈p.M,0≤m.size∧m.size≤3
 jm:∀f∈p.F,f.params.length≤2
 kr:left≤24
theorem gd.next{p:j7}(h:gd w p left)(hs:b0 ac p.s p.A p.n p.c p.l)(O:Fr (fun b=>b=p.s) w ac):gd ac p left:=
 ⟨hs,h.blk.on O (aH h.ne),h.ne,Sl.cO h.ms (O.mono fun _ h=>.inl h),Sl.cO h.fs (O.mono fun _ h=>.inl h),h.nm,h.nf,h.gm,h.jm,h.kr⟩
theorem gd.ak{p:j7}(h:gd w p left)(O:Ext w ac):gd ac p left:=h.next (h.src.cG O fun _ _ h=>h) (O.mono fun _ h=>h.elim)
theorem mN.ak(h:mN w s V R a8)(O:Ext w ac):mN ac s V R a8:=h.on (O.mono fun _ h=>h.elim)
theorem iv{V:Ks}:∀(d:Nat) (x:VE),x.src V d→x.src V (d+1)
 | d,.num _,h=>by cases d<;>exact h
 | d,.gy _,h=>by cases d<;>exact h
 | d,.loc _,h=>by cases d<;>exact h.elim
 | d,.ia _,h=>by cases d<;>exact h.elim
 | 0,.un _ _,h=>h.elim
 | 0,.bin _ _ _,h=>h.elim
 | d+1,.un _ x,h=>⟨h.1,iv d x h.2⟩
 | d+1,.bin _ x y,h=>⟨h.1,iv d x h.2.1,iv d y h.2.2⟩
namespace Bh
theorem zD(h:p:=by
 refine Km (v:=.agg #[.int .i64 x.aU,.int .i64 x.numOf,.string x.a1,.slice cl ck ct]) (by simp[results,Tryz.results140,go_sem,bv]) rfl ?_;obtain⟨hx,S,bY,b1,bz⟩:=aP.o;have bF:=H1.2.2.2.lt;exact⟨x,cl,ck,ct,rfl,iv 1 x hx,S,(bY.aj fun b O=>bk.block b O.2 (aH O.1)).mono fun b O=>⟨by have:=O.1;omega,JR O.2 bk.size⟩,aE.1.cG bk (fun b O h=>ab),bA⟩
 ):p:=h
theorem Ab(h:p:=by
 cases ar with
 | false=>
  go_wp2_with(fail);refine(aW _ s A n c l sz ax.1.src ae ab).mono ?_;rintro e aN ⟨b5,rfl,aJ,bF,h,he⟩;have aL:=ax.2.2.2.on he.fr ab;have H1:=ai h (ax.2.2.1.trans he.fr);have cm:=ai aJ bF;obtain⟨e0,a5,aZ⟩:=aL.two;have bs:=ad aL;clear a0 ap ak h he aL aJ bF;go_wp2_with(fail);generalize b6:World.setCell _ _ _=Y;obtain⟨bt,bA,bk⟩:=dL (M:=fun b=>b=s) [.int .i64 1,.int .i64 b5,.string ⟨#[]⟩,.slice none 0 0] (by rfl) bs.o H1.2 (JQ _) b6;obtain⟨bv,bd,be⟩:=bt.two;refine Km (v:=.agg #[.int .i64 1,.int .i64 b5,.string ⟨#[]⟩,.slice none 0 0]) (by simp[results,Tryz.results140,go_sem,bv]) rfl ?_
  exact⟨.num b5,none,0,0,rfl,⟨cm.1,by have:=cm.2;omega⟩,JQ _,Sl.bG _,H1.1.cG bk (fun b O h=>ab),bA⟩
 | true=>
  go_wp2_with(fail);refine(aW _ s A n c l 3 ax.1.src ab ab).mono ?_;rintro e aN ⟨b5,rfl,aJ,bF,h,he⟩;have aL:=ax.2.2.2.on he.fr ab;have H1:=bw (ax.1.next h he.fr) (ax.2.1.on he.fr) (ax.2.2.1.trans he.fr) aL;clear a0 ap ak h he aL ax;obtain⟨a0,ap,ak⟩:=H1.1.blk.two;by_cases aj:b5=1
  ·have q:(b5 == 1)=true:=by simpa using aj
   clear aj aJ bF;go_wp2_with(fail);refine(oD s A n c l V R a8 bf L 1 ab aN H1.1.src H1.2.1).mono ?_;rintro e aO ⟨x,cl,ck,ct,rfl,hx,S,bY,h,he⟩;have aL:=H1.2.2.2.on he ab;have aE:=ai h (H1.2.2.1.trans he);have aP:=dA hx S bY he.size H1.2.2.1.size;exact Ax
  ·have q:(b5 == 1)=false:=by simpa using aj
   clear aj aJ bF;go_wp2_with(fail);refine(aW _ s A n c l sz H1.1.src ae ab).mono ?_;rintro e aO ⟨bE,rfl,i,bx,h,he⟩;have aL:=H1.2.2.2.on he.fr ab;have aE:=ai h (H1.2.2.1.trans he.fr);have cm:=ai i bx;obtain⟨e0,a5,aZ⟩:=aL.two;have bs:=ad aL;clear a0 ap ak h he aL i bx;go_wp2_with(fail);generalize b6:World.setCell _ _ _=Y;obtain⟨bt,bA,bk⟩:=dL (M:=fun b=>b=s) [.int .i64 1,.int .i64 bE,.string ⟨#[]⟩,.slice none 0 0] (by rfl) bs.o aE.2 (JQ _) b6;obtain⟨bv,bd,be⟩:=bt.two;refine Km (v:=.agg #[.int .i64 1,.int .i64 bE,.string ⟨#[]⟩,.slice none 0 0]) (by simp[results,Tryz.results140,go_sem,bv]) rfl ?_;exact⟨.num bE,none,0,0,rfl,⟨cm.1,by have:=cm.2;omega⟩,JQ _,Sl.bG _,aE.1.cG bk (fun b O h=>ab),bA⟩
 ):p:=h
theorem jF(h:p:=by
 exact Aa
 ):p:=h
end Bh
open Bh in
theorem xX(p:j7)(left:Nat)(V:Ks)(R:Kr)(a8 bf:Nat)(sz:Int)(ae:0<sz)(aC:sz≤3)(w:World)(h:gd w p left)(hN:mN w p.s V R a8)(L:a8≤1000) :
  Calls prog 140 #[.pointer (some ⟨p.wb,0,none⟩),.slice R a8 bf,.int .i64 sz] w (s5 w p.s p.A p.n p.c p.l V 2):=by
 obtain⟨s,wb,A,n,c,l,GA,gn,gc,MA,mn,mc,FA,fn,fc,M,F,ar⟩:=p;have H:=ai h hN;have aw:=h.blk.lt;have bT:=h.src.lt;simp only at aw bT;clear h hN;go_enter func140,ntmps140;exact jE
namespace Bi
theorem fK(h:p:=by
 generalize b6:World.setCell _ _ _=Y;obtain⟨bt,bA,bk⟩:=dL (M:=fun b=>b=s) [.int .i64 x.aU,.int .i64 x.numOf,.string x.a1,.slice cl ck ct] (by rfl) bs.o aE.2 (JQ _) b6;obtain⟨bv,bd,be⟩:=bt.two;go_wp2_with(fail);refine Km (v:=.agg #[.int .i64 x.aU,.int .i64 x.numOf,.string x.a1,.slice cl ck ct]) (by simp[results,Tryz.results119,go_sem,bv]) rfl ?_;obtain⟨hx,S,bY,b1,bz⟩:=aP.o;have bP:x.src V 2:=by
  obtain rfl|rfl:k=0∨k=1:=ab
  ·exact iv 1 x hx
  ·exact hx
 exact⟨x,cl,ck,ct,rfl,bP,S,(bY.aj fun b O=>bk.block b O.2 (aH O.1)).mono fun b O=>⟨by have:=O.1;omega,JR O.2 bk.size⟩,aE.1.cG bk (fun b O h=>ab),bA⟩
 ):p:=h
theorem zD(h:p:=by
 refine Km (v:=.agg #[.int .i64 x.aU,.int .i64 x.numOf,.string x.a1,.slice cl ck ct]) (by simp[results,Tryz.results119,go_sem,bv]) rfl ?_;obtain⟨hx,S,bY,b1,bz⟩:=aP.o;exact⟨x,cl,ck,ct,rfl,iv 1 x (iv 0 x hx),S,(bY.aj fun b O=>bk.block b O.2 (aH O.1)).mono fun b O=>⟨by have:=O.1;omega,JR O.2 bk.size⟩,aE.1.cG bk (fun b O h=>ab),bA⟩
 ):p:=h
theorem Ab(h:p:=by
 cases ar with
 | false=>
  go_wp2_with(fail);refine(oD s A n c l V R a8 bf L 0 ab W ax.1.src ax.2.1).mono ?_;rintro e aO ⟨x,cl,ck,ct,rfl,hx,S,bY,h,he⟩;have aL:=ax.2.2.2.on he ab;have aE:=ai h (ax.2.2.1.trans he);have aP:=dA hx S bY he.size ax.2.2.2.lt
  exact Ax
 | true=>
  have gK:¬wb=s:=by have:=ax.1.ne;simp only at this;omega
  go_upto_region 3 with(fail);refine eE (fun b=>b=s) [(0,3),(1,3),(2,3),(3,0),(4,3),(5,3),(6,3),(7,3),(8,0),(9,1),(10,3),(11,2),(12,2)] ?_
  iterate 3 refine pf ?_
  refine pV ?_
  iterate 4 refine pf ?_
  refine pV ?_;refine aK rfl (fun K hK=>?_);go_simp;refine(aW W.drew s A n c l 2 (ax.1.ak Kn.drew).src ab ab).mono ?_;rintro e aN ⟨b5,rfl,aJ,bF,h,he⟩;obtain⟨k,rfl⟩:=JV aJ;have cn:k<2:=ab;have t:Fr (fun b=>b=s) W aN:=Fr.aO he.fr;have H1:=bw (ax.1.next h t) (ax.2.1.on t) (ax.2.2.1.trans t) (ax.2.2.2.on t ab);refine dW hK (he.fr) ?_;clear hK K;clear h he t a0 ap ak aJ bF;refine pf ?_;refine aq rfl (fun K hK=>?_);go_simp;have cd:(1:Int)+(k:Int)=((k+1:Nat):Int):=ab;rw[cd,show IntKind.i64.wrap ((k+1:Nat):Int)=((k+1:Nat):Int) from IntWalk.i64_in _ ab];refine(oD s A n c l V R a8 bf L (k+1) ab aN H1.1.src H1.2.1).mono ?_;rintro e aO ⟨x,cl,ck,ct,rfl,hx,S,bY,h,he⟩;have aL:=H1.2.2.2.on he ab;have aE:=ai h (H1.2.2.1.trans he);have aP:=dA hx S bY he.size H1.2.2.2.lt;obtain⟨e0,a5,aZ⟩:=aL.two;have bs:=ad aL;clear h he aL hx S bY;refine eD hK ?_;clear hK K;exact fJ
 ):p:=h
theorem jF(h:p:=by
 exact Aa
 ):p:=h
end Bi
open Bi in
theorem jz(p:j7)(left:Nat)(V:Ks)(R:Kr)(a8 bf:Nat)(w:World)(h:gd w p left)(hN:mN w p.s V R a8)(L:a8≤1000) :
  Calls prog 119 #[.pointer (some ⟨p.wb,0,none⟩),.slice R a8 bf] w (s5 w p.s p.A p.n p.c p.l V 2):=by
 obtain⟨s,wb,A,n,c,l,GA,gn,gc,MA,mn,mc,FA,fn,fc,M,F,ar⟩:=p;have H:=ai h hN;have aw:=h.blk.lt;have bT:=h.src.lt;simp only at aw bT;clear h hN;go_enter func119,ntmps119;exact jE
def Hh(w:World)(p:j7)(V:Ks)(ps:List (ByteArray×Bool))(e:Ending)(ac:World):Prop:=
 ∃(r:eF) (IA:Kr) (i ic:Nat),e=.returned (.agg #[.string r.name,.slice IA i ic])∧(∀fs,rH ⟨p.M,ps,fs⟩ V r)∧i≤ic∧Sl ac (fresh w ac) IA i (r.idx.toList.map bb)∧b0 ac p.s p.A p.n p.c p.l∧Fr (fun b=>b=p.s) w ac
theorem sJ{x:ByteArray×Bool}:(df x).rep w P cs↔cs=[.string x.1,.bool x.2]:=by
 exact Fx
theorem tW{x:ByteArray}:(D.s x).rep w P cs↔cs=[.string x]:=by simp only[D.rep]
theorem qq(p:j7)(left:Nat)(V:Ks)(R:Kr)(a8 bf:Nat)(aY:ByteArray)(ps:List (ByteArray×Bool))(QA:Kr)(ca qc:Nat)(bI:Value)(w:World)(h:gd w p left)(hN:mN w p.s V R a8)(L:a8≤1000)
  (ch:Sl w (off (fun b=>b=p.s) w) QA ca (ps.map df)) (bm:ca≤2) :
  Calls prog 118 #[.pointer (some ⟨p.wb,0,none⟩),.agg #[.string aY,.slice QA ca qc,bI],.slice R a8 bf] w (Hh w p V ps):=by
 obtain⟨s,wb,A,n,c,l,GA,gn,gc,MA,mn,mc,FA,fn,fc,M,F,ar⟩:=p;have H:=aQ h hN ch;have aw:=h.blk.lt;have bT:=h.src.lt;have aa:=h.nm;have a5:M.length=mn:=by have:=h.ms.1;simpa using this
 simp only at aw bT aa;clear h hN ch;go_enter func118,ntmps118;go_wp2_with(fail);generalize bg:World.alloc _ _=W;have aF:Ext w W:=bg▸(Kn.alloc _).alloc _;have b3:af W w.heap.size 143 #[.string aY,.slice QA ca qc,bI]:=bg▸(Ko).alloc _;have bH:af W (w.heap.size+1) 189 #[.string ⟨#[]⟩,.slice none 0 0]:=bg▸af.ct _ _ _ (by simp);have cA:W.heap.size=w.heap.size+1+1:=by rw[←bg];simp
 have ax:=aQ aF b3 bH;clear bg aF b3 bH;obtain⟨b7,ah⟩:∃b7:Nat→List D,b7=fun j=>(M.take j).map fun m=>D.s m.name:=⟨_,rfl⟩
 have bu:b7 0=[]:=by rw[ah];rfl
 have N:∀j m,M[j]?=some m→b7 (j+1)=b7 j++[.s m.name]:=fun j m h=>by rw[ah];simp only;rw[List.take_add_one,h];simp
 obtain⟨a7,a1,bK⟩:=ez ah bu N;clear ah bu N;go_loopw [7,8] (fun g9 cg wr=>∃(k:Nat) (cj:Kr) (rc:Nat),k≤mn∧cg=.int .i64 k∧g9=.slice cj k rc∧Ext W wr∧Gr (fun _=>False) (w.heap.size+1+1) 9 1 wr cj k rc (b7 k)) (fun _ cg _=>mn - (intOf cg).toNat)
 case atStart=>exact⟨0,none,0,Kc _,rfl,rfl,Kn,by rw[a1.o];exact Gr.nil _ _ _ _ _⟩
 case round=>
  obtain⟨k,cj,rc,aj,rfl,rfl,aF,hG⟩:=hrel;obtain⟨a2,bS⟩:=aM aF hG;have T:=H.1.ak (ax.1.trans aF);obtain⟨a0,ap,ak⟩:=T.blk.two;by_cases dc:k<mn
  ·obtain⟨b,o,m,cs,aL,O,hm,aU,a3,hc⟩:=Sl.gN (z:=3) T.ms (fun _=>rfl) dc;simp only at aL;subst aL;obtain rfl:=eR.1 aU;have c0:=hc 0 _ rfl;simp only[J0] at c0;have dv:=ad hm;have I:(0:Int)≤(k:Int):=ab;have cd:(k:Int)<(mn:Int):=ab;have bO:w.heap.size+1+1≤wr.heap.size:=by have:=aF.size;omega
   clear aF hG T aU hc a3 hm;go_wp2_with((at_builtin;refine bR kd rfl (.tmp 23) (.tmp 33) rfl bS.o (tW.2 rfl) rfl rfl rfl ab ab bO ?_;intro aT c2 aO an ay b8 bJ;have bW:=ai an ay;clear an ay b8 bJ));have aS:Ext W aO:=a2.eB (bW.2.below a2.size fun j bc O=>by have:=(bS.lt O).1;omega);have J:=ad aS;clear aS;go_roundw
   case rel=>exact⟨k+1,aT,c2,ab,by go_num,rfl,J.o,by rw[bK.o k m dv.o];exact bW.1⟩
   case measure=>exact aB
  ·obtain rfl:k=mn:=ab;have bL:Gr (fun _=>False) (w.heap.size+1+1) 9 1 wr cj k rc ((M.map (·.name)).map D.s):=by
    have:=bS.o;rw[a7.o] at this;simp only at this;rw[JY ab] at this;rw[List.map_map];exact this
   have bz:=ad bL;clear aF hG T bS bL a7 a1 bK;go_wp2_with(fail);go_loopw [7,10] (fun g9 cg wr=>∃(j:Nat) (cj:Kr) (rc:Nat) (bE:Ks),j≤ca∧cg=.int .i64 j∧g9=.slice cj (k+bE.length) rc∧bE.length≤2*j∧(∀x∈bE,(x,true)∈ps)∧Ext W wr∧Gr (fun _=>False) (w.heap.size+1+1) 9 1 wr cj (k+bE.length) rc ((M.map (·.name)++bE).map D.s)) (fun _ cg _=>ca - (intOf cg).toNat)
   case atStart=>exact⟨0,cj,rc,[],Kc _,rfl,rfl,by simp,(fun x hx=>by cases hx),a2.o,by rw[Kf];exact bz.o⟩
   case round=>
    obtain⟨j,cj,rc,bE,bc,rfl,rfl,bx,aK,aF,hG⟩:=hrel;clear bz a2;obtain⟨a2,bS,aC⟩:=ez aF hG aK;have bO:w.heap.size+1+1≤wr.heap.size:=by have:=aF.size;omega
    by_cases dc:j<ca
    ·obtain⟨d0,ag,aR⟩:=(ax.2.1.ak aF).two;obtain⟨b,o,q,cs,bF,O,hm,aU,a3,hc⟩:=Sl.gN (z:=2) (Sl.cO H.2.2 ((ax.1.trans aF).mono (M':=fun b=>b=s) fun _ h=>h.elim)) (fun _=>rfl) dc;subst bF;obtain rfl:=sJ.1 aU;have c0:=hc 0 _ rfl;have c1:=hc 1 _ rfl;simp only[J0] at c0;have dv:=ad hm;have aX:=O.1;have ci:(0:Int)≤(j:Int):=ab;have f1:(j:Int)<(ca:Int):=ab;clear aF hG aU hc a3 hm aK O;obtain⟨q1,cB⟩:=q
     cases cB with
     | false=>
      go_wp2_with(fail);go_roundw
      case rel=>exact⟨j+1,cj,rc,bE,ab,by go_num,rfl,ab,aC.o,a2.o,bS.o⟩
      case measure=>exact aB
     | true=>
      go_upto_region 11 with(fail);refine eE (fun _=>False) [(0,3),(1,3),(2,0),(3,3),(4,3),(5,3),(6,0),(7,3),(8,0),(9,3),(10,3),(11,3),(12,0),(13,2),(14,2),(15,3)] ?_
      iterate 2 refine pf ?_
      refine ph ?_
      iterate 3 refine pf ?_
      refine ph ?_;refine pf ?_;refine ph ?_
      iterate 3 refine pf ?_
      refine ph ?_;refine aq rfl (fun K hK=>?_);go_simp;refine eD hK ?_;clear hK K;generalize bD:World.drew (World.alloc _ _)=Z;have bl:Ext wr Z:=bD▸(Kn.alloc _).drew;have bC:af Z wr.heap.size 9 #[.string q1,.string q1]:=bD▸Ko;have av:Src Z 1 (some ⟨wr.heap.size,0,none⟩) 2 [.string q1,.string q1]:=⟨rfl,fun u hu=>by
       simp only[J6,List.not_mem_nil,or_false] at hu;rcases hu with rfl|rfl<;>rfl,fun _=>⟨_,0,rfl,fun j u bc=>by rw[J8,bC.cell];simpa using bc⟩⟩
      have eI:=bS.ak bl;have bi:=bl.size;clear bD d0 ag aR c0 c1;refine aq rfl (fun K hK=>?_);rw[if_pos (by rfl)];refine wy kd (.tmp 50) (.tmp 63) (by rfl) eI (m:=2) (k:=[D.s q1,D.s q1]) (b9.2 ⟨_,rfl,b9.2 ⟨_,rfl,aJ.2 rfl⟩⟩) rfl av (fun h=>by cases h) (by rfl) (by rfl) ab ab ab ?_;intro aT c2 aO an ay b8 bJ;have aS:Ext W aO:=(a2.trans bl).eB (ay.below (aH a2.size) fun i al O=>by have:=(bS.lt O).1;omega);have bW:=ai an aS;clear an ay b8 bJ aS eI bl bC av;refine eD hK ?_;clear hK K;refine pf ?_;refine aA ?_;go_wp2_with(fail);go_roundw
      case rel=>
       refine⟨j+1,aT,c2,bE++[q1,q1],ab,by go_num,by simp[Nat.add_assoc],by simp;omega,?_,bW.2,?_⟩
       ·intro x hx;rcases JZ.1 hx with hx|hx
        ·exact aC.o x hx
        ·simp at hx;subst hx;exact JT dv.o
       ·have:=bW.1;rw[←List.append_assoc,JX,JS];exact this
      case measure=>exact aB
    ·obtain rfl:j=ca:=ab;have T:=H.1.ak (ax.1.trans aF);obtain⟨a0,ap,ak⟩:=T.blk.two;obtain⟨d0,ag,aR⟩:=(ax.2.1.ak aF).two;have cc:1≤k+bE.length∧k+bE.length≤8:=ab;have bp:=ad T;clear aF hG aK T;go_wp2_with(fail);refine(aW wr s A n c l ((k+bE.length:Nat):Int) bp.src ab ab).mono ?_;rintro e aN ⟨cx,rfl,ac,az,h,he⟩;obtain⟨i3,rfl⟩:=JV ac;have e1:i3<k+bE.length:=ab;have b4:s<w.heap.size:=bT;have bj:=bp.next h he.fr;have aG:Fr (fun b=>b=s) w aN:=((ax.1.trans a2.o).mono fun _ h=>h.elim).trans he.fr;have cq:=bS.cO he.fr (fun b O _=>⟨fun h=>h,ab⟩);have bH:=(ax.2.2.ak a2.o).on he.fr (fun h=>ab);have H1:=bw bj aG cq bH;have aD:Sl aN (au aN) cj (k+bE.length) ((M.map (·.name)++bE).map D.s):=cq.sl (fun _ _ h=>h.elim) (fun _ h _=>h);obtain⟨b,o,x,cs,bY,O,hm,aU,a3,hc⟩:=Sl.gN (z:=1) aD (fun _=>rfl) e1;subst bY;obtain rfl:=tW.1 aU;have c0:=hc 0 _ rfl;simp only[Nat.mul_one,J0] at c0;have dv:=ad hm;have b2:(0:Int)≤(i3:Int):=ab;have b5:(i3:Int)<((k+bE.length:Nat):Int):=ab;clear h he bj aG cq aD aU hc a3 hm a0 ap ak d0 ag aR bp ac az bH;go_upto_region 14 with(fail);generalize hX:World.alloc _ _=X;have bo:Ext aN X:=hX▸Kn.alloc _;have cO:af X aN.heap.size 189 #[.string x,.slice none 0 0]:=hX▸Ko;have cb:w.heap.size+1+1≤aN.heap.size:=by have:=H1.2.2.2.lt;omega
     have aE:=dA (H1.1.ak bo) (H1.2.1.trans (bo.mono fun _ h=>h.elim)) (H1.2.2.2.ak bo) cO (H.2.1.on (H1.2.1.trans (bo.mono fun _ h=>h.elim)));clear hX bo cO H1 c0;obtain⟨a0,ap,ak⟩:=aE.1.blk.two;obtain⟨a6,am,aI⟩:=aE.2.2.1.two;obtain⟨d0,ag,aR⟩:=aE.2.2.2.1.two;have gK:¬wb=s:=by have:=aE.1.ne;simp only at this;omega
     by_cases bQ:i3<k
     ·obtain⟨hh,bB,m,cs,aL,bN,P,aU,a3,hc⟩:=Sl.gN (z:=3) aE.1.ms (fun _=>rfl) bQ;simp only at aL;subst aL;obtain rfl:=eR.1 aU;have c2:=hc 2 _ rfl;have ao:x=m.name:=by
       have:=dv.o;rw[List.getElem?_append_left (by simp;omega),List.getElem?_map,P] at this;injection this with this;exact this.symm
      have bs:m∈M:=JT P;have a9:=aE.1.gm m bs;have aZ:=ai ao bs;have bX:(i3:Int)<(k:Int):=ab;clear aU hc a3 P ao bs bN;by_cases U:0<m.size
      ·go_wp2_with(fail);refine(xX ⟨s,wb,A,n,c,l,GA,gn,gc,_,k,mc,FA,fn,fc,M,F,ar⟩ left V R a8 bf m.size U a9.2 X aE.1 aE.2.2.2.2 L).mono ?_;rintro e bU ⟨y,cC,cI,cD,rfl,a4,co,cv,av,t⟩;simp only at av t;have bP:=aE.2.2.1.on t ab;have r:=aE.2.2.2.1.on t ab;have bq:=aE.2.1.trans t;have ck:=t.size;clear a0 ap ak a6 am aI d0 ag aR c2;obtain⟨a6,am,aI⟩:=bP.two;obtain⟨d0,ag,aR⟩:=r.two;have bM:=iE a4 co cv av bq bP r;clear a4 co cv av bq t bP r;go_upto_region 16 with(fail);generalize bD:World.setCell _ _ _=Z;have bi:Z.heap.size=bU.heap.size:=by rw[←bD];simp
       generalize hQ:World.alloc _ _=Q;have bn:Fr (fun b=>b=aN.heap.size) bU Z:=bD▸(Fr.refl (fun b=>b=aN.heap.size) bU).setCell (.inl rfl) _;have S:Ext Z Q:=hQ▸Kn.alloc _;have aP:af Q bU.heap.size 57 #[.int .i64 y.aU,.int .i64 y.numOf,.string y.a1,.slice cC cI cD]:=hQ▸af.ct _ _ _ bi.symm;have bV:af Q aN.heap.size 189 #[.string x,.slice (some ⟨bU.heap.size,0,none⟩) 1 1]:=by
        have ae:af Z aN.heap.size 189 #[.string x,.slice (some ⟨bU.heap.size,0,none⟩) 1 1]:=bD▸bM.2.2.2.2.2.2.aC 1 _;exact ae.ak S
       have br:=((bM.2.2.2.2.2.1.on bn ab).ak S)
       have bG:Fr (fun b=>b=s) w Q:=(bM.2.2.2.2.1.eB (bn.below bM.2.2.2.2.1.size fun i al h=>ab)).trans (S.mono fun _ h=>h.elim);have ba:b0 Q s A n c l:=(bM.2.2.2.1.cG bn fun b O h=>ab).cG S fun _ _ h=>h;have dE:aN.heap.size<X.heap.size:=aE.2.2.2.1.lt;have bh:Sl Q (fresh X Q) cC cI (y.args.map bb):=(bM.2.2.1.aj fun b O=>(S.block b (aH O.2) fun h=>h).trans (bn.block b O.2 (aH O.1))).mono fun b O=>⟨O.1,by have:=O.2;have:=S.size;omega⟩
       have ce:=dA aP br bG ba bh;have cf:=aP.lt;clear a6 am aI d0 ag aR;obtain⟨a6,am,aI⟩:=br.two;obtain⟨d0,ag,aR⟩:=bV.two;clear bD hQ bn S aP bV br bG ba bh;go_wp2_with(fail);generalize b6:World.setCell _ _ _=Y;obtain⟨bt,bA,bk⟩:=dL (M:=fun b=>b=s) [.string x,.slice (some ⟨bU.heap.size,0,none⟩) 1 1] (by rfl) ce.2.1 ce.2.2.1 ab b6;obtain⟨bv,bd,be⟩:=bt.two;refine Km (v:=.agg #[.string x,.slice (some ⟨bU.heap.size,0,none⟩) 1 1]) (by simp[results,Tryz.results118,go_sem,bv]) rfl ?_;obtain⟨aP,_,_,ba,bh⟩:=ce.o;have b1:Sl Y (fresh w Y) cC cI (y.args.map bb):=(bh.aj fun b O=>bk.block b O.2 (aH O.1)).mono fun b O=>⟨by have:=O.1;omega,JR O.2 bk.size⟩
       refine⟨⟨x,some y⟩,some ⟨bU.heap.size,0,none⟩,1,1,rfl,fun fs=>.inl ⟨m,aZ.2,aZ.1.symm,fun _=>⟨y,rfl,bM.1⟩,fun h=>absurd U h⟩,JQ _,?_,ba.cG bk (fun b O h=>ab),bA⟩;exact Sl.m0 (aP.on bk ab) (D.bj.2 (aV.2 ⟨cC,cI,cD,rfl,bM.2.1,b1⟩)) ⟨ab,by have:=bk.size;omega⟩ rfl
      ·go_wp2_with(fail);generalize b6:World.setCell _ _ _=Y;obtain⟨bt,bA,bk⟩:=dL (M:=fun b=>b=s) [.string x,.slice none 0 0] (by rfl) aE.2.2.1 aE.2.1 ab b6;obtain⟨bv,bd,be⟩:=bt.two;refine Km (v:=.agg #[.string x,.slice none 0 0]) (by simp[results,Tryz.results118,go_sem,bv]) rfl ?_;exact⟨⟨x,none⟩,none,0,0,rfl,fun fs=>.inl ⟨m,aZ.2,aZ.1.symm,fun h=>absurd h ab,fun _=>rfl⟩,JQ _,Sl.bG _,aE.1.src.cG bk (fun b O h=>by simp only at O;omega),bA⟩
     ·have bX:¬(i3:Int)<(k:Int):=ab;go_wp2_with(fail);generalize b6:World.setCell _ _ _=Y;obtain⟨bt,bA,bk⟩:=dL (M:=fun b=>b=s) [.string x,.slice none 0 0] (by rfl) aE.2.2.1 aE.2.1 ab b6;obtain⟨bv,bd,be⟩:=bt.two;refine Km (v:=.agg #[.string x,.slice none 0 0]) (by simp[results,Tryz.results118,go_sem,bv]) rfl ?_;have bZ:x∈bE:=by
       have:=dv.o;rw[List.getElem?_append_right (by simp;omega)] at this;exact JT this
      exact⟨⟨x,none⟩,none,0,0,rfl,fun fs=>.inr ⟨aC.o x bZ,rfl⟩,JQ _,Sl.bG _,aE.1.src.cG bk (fun b O h=>by simp only at O;omega),bA⟩
theorem wX:bX prog 190 214 (.agg #[.bool false,.string ⟨#[]⟩,.slice none 0 0,.int .i64 0,.int .i64 0,.string ⟨#[]⟩,.slice none 0 0]) 7 104:=bX.mk' Tryz.underlying190 (by kernel_rfl) rfl ab
theorem EM{r:eF}{IA:Kr}{i ic:Nat}(h:Sl w P IA i (r.idx.toList.map bb))(hc:i≤ic):(gu (.mx r)).rep w P [.bool true,.string r.name,.slice IA i ic,.int .i64 0,.int .i64 0,.string ⟨#[]⟩,.slice none 0 0]:=by
 unfold gu;rw[bu];exact eX.2 ⟨_,rfl,gD.2 ⟨[.string r.name,.slice IA i ic],_,rfl,jl.2 ⟨IA,i,ic,rfl,hc,h⟩,D.bj.2 (eT.2 ⟨none,0,rfl⟩)⟩⟩
theorem EL{x:VE}{cl:Kr}{ck ct:Nat}(h:Sl w P cl ck (x.args.map bb))(hc:ck≤ct):(gu (.ex x)).rep w P [.bool false,.string ⟨#[]⟩,.slice none 0 0,.int .i64 x.aU,.int .i64 x.numOf,.string x.a1,.slice cl ck ct]:=by
 unfold gu;rw[bu];refine eX.2 ⟨_,rfl,gD.2 ⟨[.string ⟨#[]⟩,.slice none 0 0],_,rfl,?_,D.bj.2 (aV.2 ⟨cl,ck,ct,rfl,hc,h⟩)⟩⟩;exact yM
theorem nr{G:Env}{V:Ks}{q:ByteArray×Bool}{a:da}:∀(ps:List (ByteArray×Bool)) (aS:List da),iz G V ps aS→HZ G V q a→iz G V (ps++[q]) (aS++[a])
 | [],[],_,h=>⟨h,trivial⟩
 | _::ps,_::aS,h,aC=>⟨h.1,nr ps aS h.2 aC⟩
 | [],_::_,h,_=>h.elim
 | _::_,[],h,_=>h.elim
def G9(w:World)(p:j7)(V:Ks)(ps gs:List (ByteArray×Bool))(e:Ending)(ac:World):Prop:=
 ∃(aS:List da) (KA:Kr) (k kc:Nat),e=.returned (.slice KA k kc)∧(∀fs,iz ⟨p.M,ps,fs⟩ V gs aS)∧k≤kc∧Sl ac (fresh w ac) KA k (aS.map gu)∧b0 ac p.s p.A p.n p.c p.l∧Fr (fun b=>b=p.s) w ac
theorem yu(p:j7)(left:Nat)(V:Ks)(R:Kr)(a8 bf:Nat)(aY:ByteArray)(ps:List (ByteArray×Bool))(QA:Kr)(ca qc:Nat)(bI:Value)(g:ByteArray)(gs:List (ByteArray×Bool))(bp:Kr)(bQ a7:Nat)(u:Value)(w:World)(h:gd w p left)(hN:mN w p.s V R a8)(L:a8≤1000)
  (ch:Sl w (off (fun b=>b=p.s) w) QA ca (ps.map df)) (bm:ca≤2) (a4:Sl w (off (fun b=>b=p.s) w) bp bQ (gs.map df)) (cf:bQ≤2) :
  Calls prog 120 #[.pointer (some ⟨p.wb,0,none⟩),.agg #[.string aY,.slice QA ca qc,bI],.agg #[.string g,.slice bp bQ a7,u],.slice R a8 bf] w (G9 w p V ps gs):=by
 obtain⟨s,wb,A,n,c,l,GA,gn,gc,MA,mn,mc,FA,fn,fc,M,F,ar⟩:=p;have aw:=h.blk.lt;have bT:=h.src.lt;have bN:gs.length=bQ:=by have:=a4.1;simpa using this
 simp only at aw bT;have H:=bw h hN ch a4;clear h hN ch a4;go_enter func120,ntmps120;go_wp2_with(fail);generalize bg:World.alloc _ _=W;have aF:Ext w W:=bg▸(Kn.alloc _).alloc _;have b3:af W w.heap.size 143 #[.string aY,.slice QA ca qc,bI]:=bg▸(Ko).alloc _;have bH:af W (w.heap.size+1) 143 #[.string g,.slice bp bQ a7,u]:=bg▸af.ct _ _ _ (by simp);have cA:W.heap.size=w.heap.size+1+1:=by rw[←bg];simp
 have ax:=bw (H.1.ak aF) (aF.mono (M':=fun b=>b=s) fun _ h=>h.elim) b3 bH;clear bg aF b3 bH;go_loopw [9,10] (fun aG cg wr=>∃(j:Nat) (cj:Kr) (rc:Nat) (aS:List da),j≤bQ∧cg=.int .i64 j∧aG=.slice cj j rc∧(∀fs,iz ⟨M,ps,fs⟩ V (gs.take j) aS)∧gd wr ⟨s,wb,A,n,c,l,GA,gn,gc,MA,mn,mc,FA,fn,fc,M,F,ar⟩ left∧Fr (fun b=>b=s) w wr∧af wr w.heap.size 143 #[.string aY,.slice QA ca qc,bI]∧af wr (w.heap.size+1) 143 #[.string g,.slice bp bQ a7,u]∧
  Gr (fun b=>w.heap.size≤b) (w.heap.size+1+1) 214 7 wr cj j rc (aS.map gu)) (fun _ cg _=>bQ - (intOf cg).toNat)
 case atStart=>exact⟨0,none,0,[],Kc _,rfl,rfl,fun fs=>trivial,ax.1,ax.2.1,ax.2.2.1,ax.2.2.2,Gr.nil _ _ _ _ _⟩
 case round=>
  obtain⟨j,cj,rc,aS,bc,rfl,rfl,az,T,hF,bF,bx,hG⟩:=hrel;clear ax;have aX:=dA T hF bF bx hG;have ao:=ad az;obtain⟨d0,ag,aR⟩:=bx.two;obtain⟨e0,a5,aZ⟩:=bF.two;by_cases dc:j<bQ
  ·obtain⟨b,o,q,cs,eB,O,hm,aU,a3,hc⟩:=Sl.gN (z:=2) (Sl.cO H.2.2.2 hF) (fun _=>rfl) dc;subst eB;obtain rfl:=sJ.1 aU;have c1:=hc 1 _ rfl;have dv:=ad hm;have ci:(0:Int)≤(j:Int):=ab;have f1:(j:Int)<(bQ:Int):=ab;have nH:=hF.size;clear aU hc a3 hm O T hF bF bx hG az;obtain⟨q1,cB⟩:=q;simp only at c1
   cases cB with
   | true=>
    go_wp2_with(fail);refine(qq ⟨s,wb,A,n,c,l,GA,gn,gc,MA,mn,mc,FA,fn,fc,M,F,ar⟩ left V R a8 bf aY ps QA ca qc bI wr aX.1 (H.2.1.on aX.2.1) L (Sl.cO H.2.2.1 aX.2.1) bm).mono ?_;rintro e aO ⟨r,IA,i,ic,rfl,S,aA,aa,av,t⟩;simp only at S av t;have au:=aX.2.2.2.2.cO t (fun b O _=>⟨ab,ab⟩);have hd:(gu (.mx r)).rep aO (lg (fun b=>w.heap.size≤b) aO (.slice cj j rc)) [.bool true,.string r.name,.slice IA i ic,.int .i64 0,.int .i64 0,.string ⟨#[]⟩,.slice none 0 0]:=
     EM (aa.mono fun b O=>⟨by have:=O.1;omega,O.2,fun h=>by have:=(aX.2.2.2.2.lt h).2;have:=O.1;omega⟩) aA
    have aE:=dQ (aX.1.next av t) (aX.2.1.trans t) (aX.2.2.1.on t ab) (aX.2.2.2.1.on t ab) au hd;have m:=ad S;have bO:w.heap.size+1+1≤aO.heap.size:=by have:=t.size;omega
    clear d0 ag aR e0 a5 aZ c1 au hd t av aa aA S aX;go_wp2_with((at_builtin;refine bR wX rfl (.tmp 24) (.tmp 30) rfl aE.2.2.2.2.1 aE.2.2.2.2.2 rfl rfl rfl ab ab bO ?_;intro aT c2 bU an ay b8 bJ;have bW:=ai an ay;clear an ay b8 bJ));have N:∀b,(Value.slice cj j rc).ownBlock=some b→w.heap.size+1+1≤b:=fun b O=>(aE.2.2.2.2.1.lt O).1;have bB:Fr (fun b=>b=s) w bU:=aE.2.1.eB (bW.2.below aE.2.1.size fun k aj h=>by have:=N k h;omega);have cQ:gd bU ⟨s,wb,A,n,c,l,GA,gn,gc,MA,mn,mc,FA,fn,fc,M,F,ar⟩ left:=(H.1).next (aE.1.src.cG bW.2 fun b O h=>by have:=N b h;simp only at O;omega) bB;have bX:=dA cQ bB (aE.2.2.1.on bW.2 (fun h=>by have:=N _ h;omega)) (aE.2.2.2.1.on bW.2 (fun h=>by have:=N _ h;omega)) bW.1;clear N bB cQ;go_roundw
    case rel=>
     refine⟨j+1,aT,c2,aS++[.mx r],ab,by go_num,rfl,fun fs=>?_,bX.1,bX.2.1,bX.2.2.1,bX.2.2.2.1,by rw[JX];exact bX.2.2.2.2⟩;rw[List.take_add_one,dv.o];exact nr _ _ (ao.o fs) ⟨rfl,m.o fs⟩
    case measure=>exact aB
   | false=>
    go_wp2_with(fail);refine(jz ⟨s,wb,A,n,c,l,GA,gn,gc,MA,mn,mc,FA,fn,fc,M,F,ar⟩ left V R a8 bf wr aX.1 (H.2.1.on aX.2.1) L).mono ?_;rintro e aO ⟨x,cl,ck,ct,rfl,S,aA,aa,av,t⟩;simp only at av t;have au:=aX.2.2.2.2.cO t (fun b O _=>⟨ab,ab⟩);have hd:(gu (.ex x)).rep aO (lg (fun b=>w.heap.size≤b) aO (.slice cj j rc)) [.bool false,.string ⟨#[]⟩,.slice none 0 0,.int .i64 x.aU,.int .i64 x.numOf,.string x.a1,.slice cl ck ct]:=
     EL (aa.mono fun b O=>⟨by have:=O.1;omega,O.2,fun h=>by have:=(aX.2.2.2.2.lt h).2;have:=O.1;omega⟩) aA
    have aE:=dQ (aX.1.next av t) (aX.2.1.trans t) (aX.2.2.1.on t ab) (aX.2.2.2.1.on t ab) au hd;have m:=ad S;have bO:w.heap.size+1+1≤aO.heap.size:=by have:=t.size;omega
    clear d0 ag aR e0 a5 aZ c1 au hd t av aa aA S aX;go_wp2_with((at_builtin;refine bR wX rfl (.tmp 32) (.tmp 37) rfl aE.2.2.2.2.1 aE.2.2.2.2.2 rfl rfl rfl ab ab bO ?_;intro aT c2 bU an ay b8 bJ;have bW:=ai an ay;clear an ay b8 bJ));have N:∀b,(Value.slice cj j rc).ownBlock=some b→w.heap.size+1+1≤b:=fun b O=>(aE.2.2.2.2.1.lt O).1;have bB:Fr (fun b=>b=s) w bU:=aE.2.1.eB (bW.2.below aE.2.1.size fun k aj h=>by have:=N k h;omega);have cQ:gd bU ⟨s,wb,A,n,c,l,GA,gn,gc,MA,mn,mc,FA,fn,fc,M,F,ar⟩ left:=(H.1).next (aE.1.src.cG bW.2 fun b O h=>by have:=N b h;simp only at O;omega) bB;have bX:=dA cQ bB (aE.2.2.1.on bW.2 (fun h=>by have:=N _ h;omega)) (aE.2.2.2.1.on bW.2 (fun h=>by have:=N _ h;omega)) bW.1;clear N bB cQ;go_roundw
    case rel=>
     refine⟨j+1,aT,c2,aS++[.ex x],ab,by go_num,rfl,fun fs=>?_,bX.1,bX.2.1,bX.2.2.1,bX.2.2.2.1,by rw[JX];exact bX.2.2.2.2⟩;rw[List.take_add_one,dv.o];exact nr _ _ (ao.o fs) ⟨rfl,m.o⟩
    case measure=>exact aB
  ·obtain rfl:j=bQ:=ab;clear T hF bF bx hG az;go_wp2_with(fail);go_ret;have ae:=ao.o;rw[JY ab] at ae;exact⟨aS,cj,j,rc,rfl,ae,aX.2.2.2.2.cap.1,aX.2.2.2.2.sl (fun b h hp=>⟨hp,h⟩) (fun b h hp=>⟨ab,h⟩),aX.1.src,aX.2.1⟩
end Go.Proofs.YtbkhhfajcgkpgaaGreat

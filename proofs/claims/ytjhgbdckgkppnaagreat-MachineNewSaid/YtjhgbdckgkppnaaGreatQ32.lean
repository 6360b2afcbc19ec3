/- Part 32 of the proof (Srx WrA WrB WrC), without conditions of its own. -/
import Derived.Test.YtjhgbdckgkppnaaGreatQ13
import Derived.Test.YtjhgbdckgkppnaaGreatQ25
namespace Go.Proofs.YtjhgbdckgkppnaaGreat
open Go.RowKit Go.Proofs.Tryz
set_option maxRecDepth 1000000
set_option maxHeartbeats 25600000
set_option linter.unusedVariables false
variable{V:GS}{l:List D}{cs:List Value}{aF g left n s:Nat}{M P:Nat→Prop}{A U:GR}{p:Prop}{t:TypeId}{ab w:World}
theorem fk.fr(h:fk s w ab):Fr (fun b=>b=s) w ab:=⟨h.os,h.tape,h.output,h.size,h.block⟩
theorem dA{X V:World}{cs:Array Value}(vs:List Value)(hs:cs.size=vs.length)(aT:ag V g t cs)(av:Fr M w V)(aM:w.heap.size≤g)(ah:pq g V 0 vs=X):
  ag X g t vs.toArray∧Fr M w X∧Fr (fun b=>b=g) V X:=by
 subst ah;have aw:=k9 (g:=g) vs 0 V;refine⟨?_,av.eg (aw.below av.size fun k ap h=>ad),aw⟩;have ac:=jZ vs 0 V cs aT;have J:iG cs 0 vs=vs.toArray:=by
  apply Array.toList_inj.1
  rw[kO vs 0 cs ad];simp;omega
 rwa [J] at ac
theorem bV.ch{c:Nat}{l:List Int}(h:bV w s A n c l)(O:Fr M w ab)(a5:∀b,b≤s→¬M b):bV ab s A n c l:=
 h.Ez (g:=s+1) (O.below h.lt fun k ap=>a5 k ad) ad
theorem Sl.Ay{aH aQ:World}(h:Sl aH (fresh w aH) A n l)(O:Fr M aH aQ)(a5:∀b,M b→b<w.heap.size):Sl aQ (fresh w aQ) A n l:=
 (h.ao fun b bQ=>O.block b bQ.2 fun hm=>by have:=a5 b hm;have:=bQ.1;omega).mono fun b bQ=>⟨bQ.1,Gc bQ.2 O.size⟩
theorem Sl.qn(aT:ag w g t cs.toArray)(aX:D.aL w P l cs)(U:P g)(hl:l.length=n):Sl w P (some ⟨g,0,none⟩) n l:=
 ⟨hl,fun _=>⟨g,0,cs,rfl,U,aX,fun j u ba=>by rw[Gv,aT.cell];simpa using ba⟩⟩
def qP(w:World)(s:Nat)(A:GR)(n c:Nat)(l:List Int)(V:GS)(d:Nat)(e:Ending)(ab:World):Prop:=
 ∃(x:VE) (b4:GR) (b2 cu:Nat),e=.returned (.agg #[.int .i64 x.aU,.int .i64 x.numOf,.string x.aZ,.slice b4 b2 cu])∧x.src V d∧b2≤cu∧Sl ab (fresh w ab) b4 b2 (x.args.map a4)∧bV ab s A n c l∧Fr (fun b=>b=s) w ab
def lO(w:World)(s:Nat)(V:GS)(U:GR)(aF:Nat):Prop:=Sl w (off (fun b=>b=s) w) U aF (V.map .s)
theorem lO.on(h:lO w s V U aF)(O:Fr (fun b=>b=s) w ab):lO ab s V U aF:=Sl.cZ h O
theorem rR(w:World)(s:Nat)(A:GR)(n c:Nat)(l:List Int)(V:GS)(U:GR)(aF ak:Nat)(d:Nat)(hd:d≤5)(a8:aF≤1000)(h:bV w s A n c l)(cj:lO w s V U aF)
  (dw:d≠0→∀aQ:World,bV aQ s A n c l→lO aQ s V U aF→Calls prog 123 #[.pointer (some ⟨s,0,none⟩),.slice U aF ak,.int .i64 ((d:Int) - 1)] aQ (qP aQ s A n c l V (d - 1))) :
  Calls prog 123 #[.pointer (some ⟨s,0,none⟩),.slice U aF ak,.int .i64 d] w (qP w s A n c l V d):=by
 have cW:=ae dw;have ck:=h.lt;have J:=ai h cj;clear dw h cj;go_enter func123,ntmps123;go_wp2_with (fail);generalize bg:World.alloc _ _=W;have av:Ext w W:=bg▸GN.alloc _;have aT:ag W w.heap.size 55 #[.int .i64 0,.int .i64 0,.string ⟨#[]⟩,.slice none 0 0]:=bg▸ag.bR _ _ _ rfl;have aI:Fr (fun b=>b=s) w W:=av.mono fun _ h=>h.elim;have aj:=cA (J.1.ch av fun _ _ h=>h) (J.2.on aI) aI aT ck;clear bg av aT aI J;refine(aN _ s A n c l 10 aj.1 ad ad).mono ?_;rintro e aH ⟨cm,rfl,aM,bQ,h,he⟩;have H1:=ai h he.fr;have m:=ai aM bQ;clear h he;have bN:w.heap.size<W.heap.size:=aj.2.2.2.1.lt;have b7:W.heap.size≤aH.heap.size:=H1.2.size;by_cases f:((d:Int) == 0)=true∨((d:Int) == 0)=false∧decide (cm<2)=true
 ·clear cW m aM bQ;rcases f with cc|⟨cc,ds⟩
  ·by_cases u:0<aF
   ·have aJ:decide ((0:Int)<(aF:Int))=true:=by simp;omega
    exact CZ
   ·obtain rfl:aF=0:=ad;go_wp2_with (fail);refine(kL _ s A n c l H1.1).mono ?_;rintro e bJ ⟨cz,rfl,L,bz,h,he⟩;have bH:=ai h (H1.2.trans he.fr);exact C0
  ·by_cases u:0<aF
   ·have aJ:decide ((0:Int)<(aF:Int))=true:=by simp;omega
    exact CZ
   ·obtain rfl:aF=0:=ad;go_wp2_with (fail);refine(kL _ s A n c l H1.1).mono ?_;rintro e bJ ⟨cz,rfl,L,bz,h,he⟩;have bH:=ai h (H1.2.trans he.fr);exact C0
 have aC:d≠0:=fun h=>f (.inl (by simp[h]));have cc:((d:Int) == 0)=false:=by simp;omega
 have ds:decide (cm<2)=false:=by
  have:¬(decide (cm<2)=true):=fun h=>f (.inr ⟨cc,h⟩);simpa using this
 have H:wrap64 ((d:Int) - 1)=(d:Int) - 1:=IntWalk.wrap64_in _ ad;have c6:=ae aC;have r:=ai bN b7;clear f aC;by_cases bp:cm<4
 ·obtain aE|aE:cm=2∨cm=3:=by simp at ds;omega
  ·subst aE;exact C1
  ·subst aE;exact C1
 have d1:decide (cm<4)=false:=by simpa using bp
 clear aM bQ bp b7 bN;go_wp2_with (fail);refine(aN _ s A n c l 13 H1.1 ad ad).mono ?_;rintro e aQ ⟨bZ,rfl,I,bt,h,he⟩;have bk:=ai h (H1.2.trans he.fr);have bK:=he.size;clear h he;have K:wrap64 (5+bZ)=5+bZ:=IntWalk.wrap64_in _ ad;have cO:=ae (show 5≤5+bZ∧5+bZ≤17 by omega);have t:=ae bK;clear I bt bK ds d1;go_wp2_with (fail);refine(cW.o c6.o _ bk.1 (aj.2.1.on bk.2)).mono ?_;rintro e bJ ⟨x,b4,b2,cu,rfl,hx,aG,bh,h,he⟩;have bH:=ai h (bk.2.trans he);have aU:=bO hx aG bh he;clear h he hx aG bh;go_wp2_with (fail);refine(cW.o c6.o _ bH.1 (aj.2.1.on bH.2)).mono ?_;rintro e cy ⟨y,aS,cM,cE,rfl,hx,aG,bh,h,he⟩;have cw:=ai h (bH.2.trans he);have bM:=bO hx aG bh he;have bP:=aj.2.2.2.1.on cw.2 (fun h=>by have:=aj.2.2.2.2;omega);have aZ:=ae bP;obtain⟨e0,bl,a5⟩:=bP.two;clear h he hx aG bh bP;go_wp2_with (fail);generalize cb:World.setCell _ _ _=Y;have bT:Y.heap.size=cy.heap.size:=by rw[←cb];simp
 obtain⟨bA,bw,bb⟩:=dA (M:=fun b=>b=s) [.int .i64 (5+bZ),.int .i64 0,.string ⟨#[]⟩,.slice (some ⟨cy.heap.size,0,none⟩) 2 2] (by rfl) aZ.o (aj.2.2.1.trans cw.2) (Gb _) cb;generalize bo:World.alloc _ _=Z;have bm:=bA.alloc (.cells #[.int .i64 x.aU,.int .i64 x.numOf,.string x.aZ,.slice b4 b2 cu,.int .i64 y.aU,.int .i64 y.numOf,.string y.aZ,.slice aS cM cE] 55);rw[bo] at bm;have g:ag Z cy.heap.size 55 #[.int .i64 x.aU,.int .i64 x.numOf,.string x.aZ,.slice b4 b2 cu,.int .i64 y.aU,.int .i64 y.numOf,.string y.aZ,.slice aS cM cE]:=bo▸ag.bR _ _ _ bT.symm;have a9:Fr (fun b=>b=s) w Z:=bo▸bw.alloc _;have bn:Fr (fun b=>b=w.heap.size) cy Z:=bo▸bb.alloc _;obtain⟨bx,bd,be⟩:=bm.two;obtain⟨hx,aG,bh,he⟩:=aU.o;obtain⟨a3,cQ,cF,bE⟩:=bM.o;have b0:=aj.2.2.2.2;obtain⟨bN,b7⟩:=r.o;have bK:=t.o;have bq:=he.size;have bu:=bE.size;have bC:=g.lt;refine GM (v:=.agg #[.int .i64 (5+bZ),.int .i64 0,.string ⟨#[]⟩,.slice (some ⟨cy.heap.size,0,none⟩) 2 2]) (by simp[results,Tryz.results123,go_sem,bx]) rfl ?_;have i:Sl Z (fresh w Z) b4 b2 (x.args.map a4):=(bh.ao fun b O=>(bn.block b (aB O.2) (aB O.1)).trans (bE.block b O.2 (aB O.1))).mono fun b O=>⟨by have:=O.1;omega,by have:=O.2;omega⟩
 have G:Sl Z (fresh w Z) aS cM (y.args.map a4):=(cF.ao fun b O=>bn.block b O.2 (aB O.1)).mono fun b O=>⟨by have:=O.1;omega,by have:=O.2;omega⟩
 refine⟨.bin (5+bZ) x y,some ⟨cy.heap.size,0,none⟩,2,2,rfl,?_,Gb _,Sl.qn g (fY.2 ⟨_,_,rfl,aV.2 ⟨b4,b2,cu,rfl,aG,i⟩,D.bH.2 (aV.2 ⟨aS,cM,cE,rfl,cQ,G⟩)⟩) ⟨ad,bC⟩ rfl,cw.1.ch bn (fun b O h=>ad),a9⟩;have:=c6.o;obtain⟨aP,rfl⟩:∃aP,d=aP+1:=⟨d - 1,ad⟩
 exact⟨cO.o,hx,a3⟩
theorem nh(s:Nat)(A:GR)(n c:Nat)(l:List Int)(V:GS)(U:GR)(aF ak:Nat)(a8:aF≤1000):∀(d:Nat),d≤5→∀(w:World),bV w s A n c l→lO w s V U aF→
  Calls prog 123 #[.pointer (some ⟨s,0,none⟩),.slice U aF ak,.int .i64 d] w (qP w s A n c l V d)
 | 0,hd,w,h,cj=>rR w s A n c l V U aF ak 0 hd a8 h cj (fun h=>absurd rfl h)
 | d+1,hd,w,h,cj=>rR w s A n c l V U aF ak (d+1) hd a8 h cj (fun _ aQ J a=>by
   have:=nh s A n c l V U aF ak a8 d ad aQ J a;rw[show ((d+1:Nat):Int) - 1=d by omega];exact this)
structure jr where
 s:Nat
 wb:Nat
 A:Option Addr
 n:Nat
 c:Nat
 l:List Int
 GA:Option Addr
 gn:Nat
 gc:Nat
 MA:Option Addr
 mn:Nat
 mc:Nat
 FA:Option Addr
 fn:Nat
 fc:Nat
 M:List bF
 F:List aG
 ar:Bool
abbrev jr.MW(p:jr):Nat→Prop:=fun b=>b=p.s∨b=p.wb
structure fE(w:World)(p:jr)(left:Nat):Prop where
 src:bV w p.s p.A p.n p.c p.l
 blk:ag w p.wb 129 #[.pointer (some ⟨p.s,0,none⟩),.slice p.GA p.gn p.gc,.slice p.MA p.mn p.mc,.slice p.FA p.fn p.fc,.int .i64 left,.bool p.ar]
 ne:p.s<p.wb
 ms:Sl w (off p.MW w) p.MA p.mn (p.M.map d4)
 fs:Sl w (off p.MW w) p.FA p.fn (p.F.map c7)
 nm:1≤p.mn∧p.mn≤4
 nf:1≤p.fn∧p.fn≤4
 eI:∀m∈p.M,0≤m.size∧m.size≤3
 ir:∀f∈p.F,f.params.length≤2
 jE:left≤24
theorem fE.next{p:jr}(h:fE w p left)(hs:bV ab p.s p.A p.n p.c p.l)(O:Fr (fun b=>b=p.s) w ab):fE ab p left:=
 ⟨hs,h.blk.on O (aB h.ne),h.ne,Sl.cZ h.ms (O.mono fun _ h=>.inl h),Sl.cZ h.fs (O.mono fun _ h=>.inl h),h.nm,h.nf,h.eI,h.ir,h.jE⟩
theorem fE.al{p:jr}(h:fE w p left)(O:Ext w ab):fE ab p left:=h.next (h.src.ch O fun _ _ h=>h) (O.mono fun _ h=>h.elim)
theorem lO.al(h:lO w s V U aF)(O:Ext w ab):lO ab s V U aF:=h.on (O.mono fun _ h=>h.elim)
theorem hL{V:GS}:∀(d:Nat) (x:VE),x.src V d→x.src V (d+1)
 | d,.num _,h=>by cases d<;>exact h
 | d,.ga _,h=>by cases d<;>exact h
 | d,.loc _,h=>by cases d<;>exact h.elim
 | d,.hR _,h=>by cases d<;>exact h.elim
 | 0,.un _ _,h=>h.elim
 | 0,.bin _ _ _,h=>h.elim
 | d+1,.un _ x,h=>⟨h.1,hL d x h.2⟩
 | d+1,.bin _ x y,h=>⟨h.1,hL d x h.2.1,hL d y h.2.2⟩
namespace yt
theorem xi(h:p:=by
 refine GM (v:=.agg #[.int .i64 x.aU,.int .i64 x.numOf,.string x.aZ,.slice b4 b2 cu]) (by simp[results,Tryz.results122,go_sem,bx]) rfl ?_;obtain⟨hx,aG,bh,b7,bK⟩:=aU.o;have bQ:=H1.2.2.2.lt;exact⟨x,b4,b2,cu,rfl,hL 1 x hx,aG,(bh.ao fun b O=>bb.block b O.2 (aB O.1)).mono fun b O=>⟨by have:=O.1;omega,Gc O.2 bb.size⟩,bk.1.ch bb (fun b O h=>ad),bw⟩
 ):p:=h
theorem xB(h:p:=by
 cases ar with
 | false=>
  go_wp2_with (fail);refine(aN _ s A n c l sz aj.1.src ac ad).mono ?_;rintro e aH ⟨cm,rfl,aM,bQ,h,he⟩;have aT:=aj.2.2.2.on he.fr ad;have H1:=ai h (aj.2.2.1.trans he.fr);have cI:=ai aM bQ;obtain⟨e0,bl,a5⟩:=aT.two;have a4:=ae aT;clear a0 al af h he aT aM bQ;go_wp2_with (fail);generalize cb:World.setCell _ _ _=Y;obtain⟨bA,bw,bb⟩:=dA (M:=fun b=>b=s) [.int .i64 1,.int .i64 cm,.string ⟨#[]⟩,.slice none 0 0] (by rfl) a4.o H1.2 (Gb _) cb;obtain⟨bx,bd,be⟩:=bA.two;refine GM (v:=.agg #[.int .i64 1,.int .i64 cm,.string ⟨#[]⟩,.slice none 0 0]) (by simp[results,Tryz.results122,go_sem,bx]) rfl ?_
  exact⟨.num cm,none,0,0,rfl,⟨cI.1,by have:=cI.2;omega⟩,Gb _,Sl.bu _,H1.1.ch bb (fun b O h=>ad),bw⟩
 | true=>
  go_wp2_with (fail);refine(aN _ s A n c l 3 aj.1.src ad ad).mono ?_;rintro e aH ⟨cm,rfl,aM,bQ,h,he⟩;have aT:=aj.2.2.2.on he.fr ad;have H1:=bO (aj.1.next h he.fr) (aj.2.1.on he.fr) (aj.2.2.1.trans he.fr) aT;clear a0 al af h he aT aj;obtain⟨a0,al,af⟩:=H1.1.blk.two;by_cases ap:cm=1
  ·have q:(cm == 1)=true:=by simpa using ap
   clear ap aM bQ;go_wp2_with (fail);refine(nh s A n c l V U aF ak a8 1 ad aH H1.1.src H1.2.1).mono ?_;rintro e aQ ⟨x,b4,b2,cu,rfl,hx,aG,bh,h,he⟩;have aT:=H1.2.2.2.on he ad;have bk:=ai h (H1.2.2.1.trans he);have aU:=cA hx aG bh he.size H1.2.2.1.size;exact x5
  ·have q:(cm == 1)=false:=by simpa using ap
   clear ap aM bQ;go_wp2_with (fail);refine(aN _ s A n c l sz H1.1.src ac ad).mono ?_;rintro e aQ ⟨bZ,rfl,I,bt,h,he⟩;have aT:=H1.2.2.2.on he.fr ad;have bk:=ai h (H1.2.2.1.trans he.fr);have cI:=ai I bt;obtain⟨e0,bl,a5⟩:=aT.two;have a4:=ae aT;clear a0 al af h he aT I bt;go_wp2_with (fail);generalize cb:World.setCell _ _ _=Y;obtain⟨bA,bw,bb⟩:=dA (M:=fun b=>b=s) [.int .i64 1,.int .i64 bZ,.string ⟨#[]⟩,.slice none 0 0] (by rfl) a4.o bk.2 (Gb _) cb;obtain⟨bx,bd,be⟩:=bA.two;refine GM (v:=.agg #[.int .i64 1,.int .i64 bZ,.string ⟨#[]⟩,.slice none 0 0]) (by simp[results,Tryz.results122,go_sem,bx]) rfl ?_;exact⟨.num bZ,none,0,0,rfl,⟨cI.1,by have:=cI.2;omega⟩,Gb _,Sl.bu _,bk.1.ch bb (fun b O h=>ad),bw⟩
 ):p:=h
theorem gB(h:p:=by
 exact xA
 ):p:=h
end yt
open yt in
theorem vq(p:jr)(left:Nat)(V:GS)(U:GR)(aF ak:Nat)(sz:Int)(ac:0<sz)(J:sz≤3)(w:World)(h:fE w p left)(cj:lO w p.s V U aF)(a8:aF≤1000) :
  Calls prog 122 #[.pointer (some ⟨p.wb,0,none⟩),.slice U aF ak,.int .i64 sz] w (qP w p.s p.A p.n p.c p.l V 2):=by
 obtain⟨s,wb,A,n,c,l,GA,gn,gc,MA,mn,mc,FA,fn,fc,M,F,ar⟩:=p;have H:=ai h cj;have ao:=h.blk.lt;have ck:=h.src.lt;simp only at ao ck;clear h cj;go_enter func122,ntmps122;exact gA
namespace yu
theorem di(h:p:=by
 generalize cb:World.setCell _ _ _=Y;obtain⟨bA,bw,bb⟩:=dA (M:=fun b=>b=s) [.int .i64 x.aU,.int .i64 x.numOf,.string x.aZ,.slice b4 b2 cu] (by rfl) a4.o bk.2 (Gb _) cb;obtain⟨bx,bd,be⟩:=bA.two;go_wp2_with (fail);refine GM (v:=.agg #[.int .i64 x.aU,.int .i64 x.numOf,.string x.aZ,.slice b4 b2 cu]) (by simp[results,Tryz.results100,go_sem,bx]) rfl ?_;obtain⟨hx,aG,bh,b7,bK⟩:=aU.o;have bV:x.src V 2:=by
  obtain rfl|rfl:k=0∨k=1:=ad
  ·exact hL 1 x hx
  ·exact hx
 exact⟨x,b4,b2,cu,rfl,bV,aG,(bh.ao fun b O=>bb.block b O.2 (aB O.1)).mono fun b O=>⟨by have:=O.1;omega,Gc O.2 bb.size⟩,bk.1.ch bb (fun b O h=>ad),bw⟩
 ):p:=h
theorem xi(h:p:=by
 refine GM (v:=.agg #[.int .i64 x.aU,.int .i64 x.numOf,.string x.aZ,.slice b4 b2 cu]) (by simp[results,Tryz.results100,go_sem,bx]) rfl ?_;obtain⟨hx,aG,bh,b7,bK⟩:=aU.o;exact⟨x,b4,b2,cu,rfl,hL 1 x (hL 0 x hx),aG,(bh.ao fun b O=>bb.block b O.2 (aB O.1)).mono fun b O=>⟨by have:=O.1;omega,Gc O.2 bb.size⟩,bk.1.ch bb (fun b O h=>ad),bw⟩
 ):p:=h
theorem xB(h:p:=by
 cases ar with
 | false=>
  go_wp2_with (fail);refine(nh s A n c l V U aF ak a8 0 ad W aj.1.src aj.2.1).mono ?_;rintro e aQ ⟨x,b4,b2,cu,rfl,hx,aG,bh,h,he⟩;have aT:=aj.2.2.2.on he ad;have bk:=ai h (aj.2.2.1.trans he);have aU:=cA hx aG bh he.size aj.2.2.2.lt
  exact x5
 | true=>
  have gJ:¬wb=s:=by have:=aj.1.ne;simp only at this;omega
  go_upto_region 3 with(fail);refine eh (fun b=>b=s) [(0,3),(1,3),(2,3),(3,0),(4,3),(5,3),(6,3),(7,3),(8,0),(9,1),(10,3),(11,2),(12,2)] ?_
  iterate 3 refine pf ?_
  refine ow ?_
  iterate 4 refine pf ?_
  refine ow ?_;refine aA rfl (fun K hK=>?_);go_simp;refine(aN W.drew s A n c l 2 (aj.1.al GN.drew).src ad ad).mono ?_;rintro e aH ⟨cm,rfl,aM,bQ,h,he⟩;obtain⟨k,rfl⟩:=Gg aM;have az:k<2:=ad;have t:Fr (fun b=>b=s) W aH:=Fr.aE he.fr;have H1:=bO (aj.1.next h t) (aj.2.1.on t) (aj.2.2.1.trans t) (aj.2.2.2.on t ad);refine hK _ _ (he.fr) ?_;clear hK K
  try simp only[PU]
  clear h he t a0 al af aM bQ;refine pf ?_;refine ax rfl (fun K hK=>?_);go_simp;have bF:(1:Int)+(k:Int)=((k+1:Nat):Int):=ad;rw[bF,show IntKind.i64.wrap ((k+1:Nat):Int)=((k+1:Nat):Int) from IntWalk.i64_in _ ad];refine(nh s A n c l V U aF ak a8 (k+1) ad aH H1.1.src H1.2.1).mono ?_;rintro e aQ ⟨x,b4,b2,cu,rfl,hx,aG,bh,h,he⟩;have aT:=H1.2.2.2.on he ad;have bk:=ai h (H1.2.2.1.trans he);have aU:=cA hx aG bh he.size H1.2.2.2.lt;obtain⟨e0,bl,a5⟩:=aT.two;have a4:=ae aT;clear h he aT hx aG bh;refine hK _ _ ?_;clear hK K
  try simp only[PU]
  exact dN
 ):p:=h
theorem gB(h:p:=by
 exact xA
 ):p:=h
end yu
open yu in
theorem iM(p:jr)(left:Nat)(V:GS)(U:GR)(aF ak:Nat)(w:World)(h:fE w p left)(cj:lO w p.s V U aF)(a8:aF≤1000) :
  Calls prog 100 #[.pointer (some ⟨p.wb,0,none⟩),.slice U aF ak] w (qP w p.s p.A p.n p.c p.l V 2):=by
 obtain⟨s,wb,A,n,c,l,GA,gn,gc,MA,mn,mc,FA,fn,fc,M,F,ar⟩:=p;have H:=ai h cj;have ao:=h.blk.lt;have ck:=h.src.lt;simp only at ao ck;clear h cj;go_enter func100,ntmps100;exact gA
def EK(w:World)(p:jr)(V:GS)(ps:List (ByteArray×Bool))(e:Ending)(ab:World):Prop:=
 ∃(r:d2) (IA:GR) (i ic:Nat),e=.returned (.agg #[.string r.name,.slice IA i ic])∧(∀fs,pN ⟨p.M,ps,fs⟩ V r)∧i≤ic∧Sl ab (fresh w ab) IA i (r.idx.toList.map a4)∧bV ab p.s p.A p.n p.c p.l∧Fr (fun b=>b=p.s) w ab
theorem qx{x:ByteArray×Bool}:(cW x).rep w P cs↔cs=[.string x.1,.bool x.2]:=by
 exact Dm
theorem rI{x:ByteArray}:(D.s x).rep w P cs↔cs=[.string x]:=by simp only[D.rep]
namespace yv
theorem h6(h:p:=by
 generalize bo:World.drew (World.alloc _ _)=Z;have a9:Ext wr Z:=bo▸(GN.alloc _).drew;have bm:ag Z wr.heap.size 9 #[.string co,.string co]:=bo▸GO;have aC:Src Z 1 (some ⟨wr.heap.size,0,none⟩) 2 [.string co,.string co]:=⟨rfl,fun u hu=>by
  simp only[Gt,List.not_mem_nil,or_false] at hu;rcases hu with rfl|rfl<;>rfl,fun _=>⟨_,0,rfl,fun j u ba=>by rw[Gv,bm.cell];simpa using ba⟩⟩
 have cc:=cK.al a9;have bC:=a9.size;clear bo a6 aL aP c0 c1;refine ax rfl (fun K hK=>?_);rw[if_pos (by rfl)];refine tZ jt (.tmp 50) (.tmp 63) (by rfl) cc (m:=2) (k:=[D.s co,D.s co]) (ca.2 ⟨_,rfl,ca.2 ⟨_,rfl,aM.2 rfl⟩⟩) rfl aC (fun h=>by cases h) (by rfl) (by rfl) ad ad ad ?_;intro a2 c2 aQ an aq b3 ce;have aO:Ext W aQ:=(bh.trans a9).eg (aq.below (aB bh.size) fun i aJ O=>by have:=(cK.lt O).1;omega);have bB:=ai an aO;clear an aq b3 ce aO cc a9 bm aC;refine hK _ _ ?_;clear hK K
 try simp only[PU]
 refine pf ?_;refine aD ?_;go_wp2_with (fail);go_roundw
 case rel=>
  refine⟨j+1,a2,c2,bZ++[co,co],ad,by go_num,by simp[Nat.add_assoc],by simp;omega,?_,bB.2,?_⟩
  ·intro x hx;rcases Gk.1 hx with hx|hx
   ·exact J.o x hx
   ·simp at hx;subst hx;exact Ge dr.o
  ·have:=bB.1;rw[←Gq,Gi,Gd];exact this
 case measure=>simp[intOf];omega
 ):p:=h
end yv
open yv in
theorem lJ(p:jr)(left:Nat)(V:GS)(U:GR)(aF ak:Nat)(bc:ByteArray)(ps:List (ByteArray×Bool))(QA:GR)(ch qc:Nat)(bP:Value)(w:World)(h:fE w p left)(cj:lO w p.s V U aF)(a8:aF≤1000)
  (bi:Sl w (off (fun b=>b=p.s) w) QA ch (ps.map cW)) (bu:ch≤2) :
  Calls prog 99 #[.pointer (some ⟨p.wb,0,none⟩),.agg #[.string bc,.slice QA ch qc,bP],.slice U aF ak] w (EK w p V ps):=by
 obtain⟨s,wb,A,n,c,l,GA,gn,gc,MA,mn,mc,FA,fn,fc,M,F,ar⟩:=p;have H:=aK h cj bi;have ao:=h.blk.lt;have ck:=h.src.lt;have I:=h.nm;have bj:M.length=mn:=by have:=h.ms.1;simpa using this
 simp only at ao ck I;clear h cj bi;go_enter func99,ntmps99;go_wp2_with (fail);generalize bg:World.alloc _ _=W;have av:Ext w W:=bg▸(GN.alloc _).alloc _;have cw:ag W w.heap.size 140 #[.string bc,.slice QA ch qc,bP]:=bg▸(GO).alloc _;have bD:ag W (w.heap.size+1) 172 #[.string ⟨#[]⟩,.slice none 0 0]:=bg▸ag.bR _ _ _ (by simp);have cH:W.heap.size=w.heap.size+1+1:=by rw[←bg];simp
 have aj:=aK av cw bD;clear bg av cw bD;obtain⟨d8,ay⟩:∃d8:Nat→List D,d8=fun j=>(M.take j).map fun m=>D.s m.name:=⟨_,rfl⟩
 have bU:d8 0=[]:=by rw[ay];rfl
 have N:∀j m,M[j]?=some m→d8 (j+1)=d8 j++[.s m.name]:=fun j m h=>by rw[ay];simp only;rw[List.take_add_one,h];simp
 have bf:=ae ay;have aR:=ae bU;have aa:=ae N;clear ay bU N;go_loopw [7,8] (fun hQ cp wr=>∃(k:Nat) (bH:GR) (rc:Nat),k≤mn∧cp=.int .i64 k∧hQ=.slice bH k rc∧Ext W wr∧Gr (fun _=>False) (w.heap.size+1+1) 9 1 wr bH k rc (d8 k)) (fun _ cp _=>mn - (intOf cp).toNat)
 case atStart=>exact⟨0,none,0,Gz _,rfl,rfl,GN,by rw[aR.o];exact Gr.nil _ _ _ _ _⟩
 case round=>
  obtain⟨k,bH,rc,ap,rfl,rfl,av,bR⟩:=hrel;have bh:=ae av;have cK:=ae bR;have S:=H.1.al (aj.1.trans av);obtain⟨a0,al,af⟩:=S.blk.two;by_cases T:k<mn
  ·obtain⟨b,o,m,cs,aY,O,hm,aX,a1,hc⟩:=Sl.fJ (z:=3) S.ms (fun _=>rfl) T;simp only at aY;subst aY;obtain rfl:=ez.1 aX;have c0:=hc 0 _ rfl;simp only[Gl] at c0;have dr:=ae hm;have aG:(0:Int)≤(k:Int):=ad;have bF:(k:Int)<(mn:Int):=ad;have cf:w.heap.size+1+1≤wr.heap.size:=by have:=av.size;omega
   clear av bR S aX hc a1 hm;go_wp2_with ((at_builtin;refine bS jt rfl (.tmp 23) (.tmp 33) rfl cK.o (rI.2 rfl) rfl rfl rfl ad ad cf ?_;intro a2 c2 aQ an aq b3 ce;have bB:=ai an aq;clear an aq b3 ce));have aO:Ext W aQ:=bh.eg (bB.2.below bh.size fun j ba O=>by have:=(cK.lt O).1;omega);have aW:=ae aO;clear aO;go_roundw
   case rel=>exact⟨k+1,a2,c2,ad,by go_num,rfl,aW.o,by rw[aa.o k m dr.o];exact bB.1⟩
   case measure=>simp[intOf];omega
  ·obtain rfl:k=mn:=ad;have bX:Gr (fun _=>False) (w.heap.size+1+1) 9 1 wr bH k rc ((M.map (·.name)).map D.s):=by
    have:=cK.o;rw[bf.o] at this;simp only at this;rw[Gj ad] at this;rw[List.map_map];exact this
   have bK:=ae bX;clear av bR S cK bX bf aR aa;go_wp2_with (fail);go_loopw [7,10] (fun hQ cp wr=>∃(j:Nat) (bH:GR) (rc:Nat) (bZ:GS),j≤ch∧cp=.int .i64 j∧hQ=.slice bH (k+bZ.length) rc∧bZ.length≤2*j∧(∀x∈bZ,(x,true)∈ps)∧Ext W wr∧Gr (fun _=>False) (w.heap.size+1+1) 9 1 wr bH (k+bZ.length) rc ((M.map (·.name)++bZ).map D.s)) (fun _ cp _=>ch - (intOf cp).toNat)
   case atStart=>exact⟨0,bH,rc,[],Gz _,rfl,rfl,by simp,(fun x hx=>by cases hx),bh.o,by rw[GF];exact bK.o⟩
   case round=>
    obtain⟨j,bH,rc,bZ,ba,rfl,rfl,bv,aA,av,bR⟩:=hrel;clear bK bh;have bh:=ae av;have cK:=ae bR;have J:=ae aA;have cf:w.heap.size+1+1≤wr.heap.size:=by have:=av.size;omega
    by_cases T:j<ch
    ·obtain⟨a6,aL,aP⟩:=(aj.2.1.al av).two;obtain⟨b,o,q,cs,bQ,O,hm,aX,a1,hc⟩:=Sl.fJ (z:=2) (Sl.cZ H.2.2 ((aj.1.trans av).mono (M':=fun b=>b=s) fun _ h=>h.elim)) (fun _=>rfl) T;subst bQ;obtain rfl:=qx.1 aX;have c0:=hc 0 _ rfl;have c1:=hc 1 _ rfl;simp only[Gl] at c0;have dr:=ae hm;have R:=O.1;have cy:(0:Int)≤(j:Int):=ad;have gl:(j:Int)<(ch:Int):=ad;clear av bR aX hc a1 hm aA O;obtain⟨co,ej⟩:=q
     cases ej with
     | false=>
      go_wp2_with (fail);go_roundw
      case rel=>exact⟨j+1,bH,rc,bZ,ad,by go_num,rfl,ad,J.o,bh.o,cK.o⟩
      case measure=>simp[intOf];omega
     | true=>
      go_upto_region 11 with(fail);refine eh (fun _=>False) [(0,3),(1,3),(2,0),(3,3),(4,3),(5,3),(6,0),(7,3),(8,0),(9,3),(10,3),(11,3),(12,0),(13,2),(14,2),(15,3)] ?_
      iterate 2 refine pf ?_
      refine ph ?_
      iterate 3 refine pf ?_
      refine ph ?_;refine pf ?_;refine ph ?_
      iterate 3 refine pf ?_
      refine ph ?_;exact h5
    ·obtain rfl:j=ch:=ad;have S:=H.1.al (aj.1.trans av);obtain⟨a0,al,af⟩:=S.blk.two;obtain⟨a6,aL,aP⟩:=(aj.2.1.al av).two;have cl:1≤k+bZ.length∧k+bZ.length≤8:=ad;have bt:=ae S;clear av bR aA S;go_wp2_with (fail);refine(aN wr s A n c l ((k+bZ.length:Nat):Int) bt.src ad ad).mono ?_;rintro e aH ⟨cz,rfl,L,bz,h,he⟩;obtain⟨aT,rfl⟩:=Gg L;have b4:aT<k+bZ.length:=ad;have b0:s<w.heap.size:=ck;have bs:=bt.next h he.fr;have aI:Fr (fun b=>b=s) w aH:=((aj.1.trans bh.o).mono fun _ h=>h.elim).trans he.fr;have bl:=cK.cZ he.fr (fun b O _=>⟨fun h=>h,ad⟩);have bD:=(aj.2.2.al bh.o).on he.fr (fun h=>ad);have H1:=bO bs aI bl bD;have aw:Sl aH (au aH) bH (k+bZ.length) ((M.map (·.name)++bZ).map D.s):=bl.sl (fun _ _ h=>h.elim) (fun _ h _=>h);obtain⟨b,o,x,cs,b6,O,hm,aX,a1,hc⟩:=Sl.fJ (z:=1) aw (fun _=>rfl) b4;subst b6;obtain rfl:=rI.1 aX;have c0:=hc 0 _ rfl;simp only[Nat.mul_one,Gl] at c0;have dr:=ae hm;have cd:(0:Int)≤(aT:Int):=ad;have cg:(aT:Int)<((k+bZ.length:Nat):Int):=ad;clear h he bs aI bl aw aX hc a1 hm a0 al af a6 aL aP bt L bz bD;go_upto_region 14 with(fail);generalize ah:World.alloc _ _=X;have br:Ext aH X:=ah▸GN.alloc _;have dq:ag X aH.heap.size 172 #[.string x,.slice none 0 0]:=ah▸GO;have ci:w.heap.size+1+1≤aH.heap.size:=by have:=H1.2.2.2.lt;omega
     have bk:=cA (H1.1.al br) (H1.2.1.trans (br.mono fun _ h=>h.elim)) (H1.2.2.2.al br) dq (H.2.1.on (H1.2.1.trans (br.mono fun _ h=>h.elim)));clear ah br dq H1 c0;obtain⟨a0,al,af⟩:=bk.1.blk.two;obtain⟨a7,am,aE⟩:=bk.2.2.1.two;obtain⟨a6,aL,aP⟩:=bk.2.2.2.1.two;have gJ:¬wb=s:=by have:=bk.1.ne;simp only at this;omega
     by_cases cL:aT<k
     ·obtain⟨hY,bG,m,cs,aY,b9,P,aX,a1,hc⟩:=Sl.fJ (z:=3) bk.1.ms (fun _=>rfl) cL;simp only at aY;subst aY;obtain rfl:=ez.1 aX;have c2:=hc 2 _ rfl;have b2:x=m.name:=by
       have:=dr.o;rw[List.getElem?_append_left (by simp;omega),List.getElem?_map,P] at this;injection this with this;exact this.symm
      have bI:m∈M:=Ge P;have a5:=bk.1.eI m bI;have az:=ai b2 bI;have b1:(aT:Int)<(k:Int):=ad;clear aX hc a1 P b2 bI b9;by_cases bN:0<m.size
      ·go_wp2_with (fail);refine(vq ⟨s,wb,A,n,c,l,GA,gn,gc,_,k,mc,FA,fn,fc,M,F,ar⟩ left V U aF ak m.size bN a5.2 X bk.1 bk.2.2.2.2 a8).mono ?_;rintro e bJ ⟨y,aS,cM,cE,rfl,a3,cQ,cF,aC,t⟩;simp only at aC t;have bL:=bk.2.2.1.on t ad;have b5:=bk.2.2.2.1.on t ad;have r:=bk.2.1.trans t;have cn:=t.size;clear a0 al af a7 am aE a6 aL aP c2;obtain⟨a7,am,aE⟩:=bL.two;obtain⟨a6,aL,aP⟩:=b5.two;have bM:=gK a3 cQ cF aC r bL b5;clear a3 cQ cF aC r t bL b5;go_upto_region 16 with(fail);generalize bo:World.setCell _ _ _=Z;have bC:Z.heap.size=bJ.heap.size:=by rw[←bo];simp
       generalize aU:World.alloc _ _=Q;have bn:Fr (fun b=>b=aH.heap.size) bJ Z:=bo▸(Fr.refl (fun b=>b=aH.heap.size) bJ).setCell (.inl rfl) _;have ab:Ext Z Q:=aU▸GN.alloc _;have aZ:ag Q bJ.heap.size 55 #[.int .i64 y.aU,.int .i64 y.numOf,.string y.aZ,.slice aS cM cE]:=aU▸ag.bR _ _ _ bC.symm;have bY:ag Q aH.heap.size 172 #[.string x,.slice (some ⟨bJ.heap.size,0,none⟩) 1 1]:=by
        have ac:ag Z aH.heap.size 172 #[.string x,.slice (some ⟨bJ.heap.size,0,none⟩) 1 1]:=bo▸bM.2.2.2.2.2.2.aH 1 _;exact ac.al ab
       have bE:=((bM.2.2.2.2.2.1.on bn ad).al ab)
       have bW:Fr (fun b=>b=s) w Q:=(bM.2.2.2.2.1.eg (bn.below bM.2.2.2.2.1.size fun i aJ h=>ad)).trans (ab.mono fun _ h=>h.elim);have bp:bV Q s A n c l:=(bM.2.2.2.1.ch bn fun b O h=>ad).ch ab fun _ _ h=>h;have dJ:aH.heap.size<X.heap.size:=bk.2.2.2.1.lt;have bq:Sl Q (fresh X Q) aS cM (y.args.map a4):=(bM.2.2.1.ao fun b O=>(ab.block b (aB O.2) fun h=>h).trans (bn.block b O.2 (aB O.1))).mono fun b O=>⟨O.1,by have:=O.2;have:=ab.size;omega⟩
       have bT:=cA aZ bE bW bp bq;have cm:=aZ.lt;clear a7 am aE a6 aL aP;obtain⟨a7,am,aE⟩:=bE.two;obtain⟨a6,aL,aP⟩:=bY.two;clear bo aU bn ab aZ bY bE bW bp bq;go_wp2_with (fail);generalize cb:World.setCell _ _ _=Y;obtain⟨bA,bw,bb⟩:=dA (M:=fun b=>b=s) [.string x,.slice (some ⟨bJ.heap.size,0,none⟩) 1 1] (by rfl) bT.2.1 bT.2.2.1 ad cb;obtain⟨bx,bd,be⟩:=bA.two;refine GM (v:=.agg #[.string x,.slice (some ⟨bJ.heap.size,0,none⟩) 1 1]) (by simp[results,Tryz.results99,go_sem,bx]) rfl ?_;obtain⟨aZ,_,_,bp,bq⟩:=bT.o;have b8:Sl Y (fresh w Y) aS cM (y.args.map a4):=(bq.ao fun b O=>bb.block b O.2 (aB O.1)).mono fun b O=>⟨by have:=O.1;omega,Gc O.2 bb.size⟩
       refine⟨⟨x,some y⟩,some ⟨bJ.heap.size,0,none⟩,1,1,rfl,fun fs=>.inl ⟨m,az.2,az.1.symm,fun _=>⟨y,rfl,bM.1⟩,fun h=>absurd bN h⟩,Gb _,?_,bp.ch bb (fun b O h=>ad),bw⟩;exact Sl.qn (aZ.on bb ad) (D.bH.2 (aV.2 ⟨aS,cM,cE,rfl,bM.2.1,b8⟩)) ⟨ad,by have:=bb.size;omega⟩ rfl
      ·go_wp2_with (fail);generalize cb:World.setCell _ _ _=Y;obtain⟨bA,bw,bb⟩:=dA (M:=fun b=>b=s) [.string x,.slice none 0 0] (by rfl) bk.2.2.1 bk.2.1 ad cb;obtain⟨bx,bd,be⟩:=bA.two;refine GM (v:=.agg #[.string x,.slice none 0 0]) (by simp[results,Tryz.results99,go_sem,bx]) rfl ?_;exact⟨⟨x,none⟩,none,0,0,rfl,fun fs=>.inl ⟨m,az.2,az.1.symm,fun h=>absurd h ad,fun _=>rfl⟩,Gb _,Sl.bu _,bk.1.src.ch bb (fun b O h=>by simp only at O;omega),bw⟩
     ·have b1:¬(aT:Int)<(k:Int):=ad;go_wp2_with (fail);generalize cb:World.setCell _ _ _=Y;obtain⟨bA,bw,bb⟩:=dA (M:=fun b=>b=s) [.string x,.slice none 0 0] (by rfl) bk.2.2.1 bk.2.1 ad cb;obtain⟨bx,bd,be⟩:=bA.two;refine GM (v:=.agg #[.string x,.slice none 0 0]) (by simp[results,Tryz.results99,go_sem,bx]) rfl ?_;have b7:x∈bZ:=by
       have:=dr.o;rw[List.getElem?_append_right (by simp;omega)] at this;exact Ge this
      exact⟨⟨x,none⟩,none,0,0,rfl,fun fs=>.inr ⟨J.o x b7,rfl⟩,Gb _,Sl.bu _,bk.1.src.ch bb (fun b O h=>by simp only at O;omega),bw⟩
theorem uw:b0 prog 173 209 (.agg #[.bool false,.string ⟨#[]⟩,.slice none 0 0,.int .i64 0,.int .i64 0,.string ⟨#[]⟩,.slice none 0 0]) 7 104:=b0.mk' Tryz.underlying173 (by kernel_rfl) rfl ad
theorem Cq{r:d2}{IA:GR}{i ic:Nat}(h:Sl w P IA i (r.idx.toList.map a4))(hc:i≤ic):(fQ (.mx r)).rep w P [.bool true,.string r.name,.slice IA i ic,.int .i64 0,.int .i64 0,.string ⟨#[]⟩,.slice none 0 0]:=by
 unfold fQ;rw[bw];exact eE.2 ⟨_,rfl,fY.2 ⟨[.string r.name,.slice IA i ic],_,rfl,fR.2 ⟨IA,i,ic,rfl,hc,h⟩,D.bH.2 (eA.2 ⟨none,0,rfl⟩)⟩⟩
theorem Cp{x:VE}{b4:GR}{b2 cu:Nat}(h:Sl w P b4 b2 (x.args.map a4))(hc:b2≤cu):(fQ (.ex x)).rep w P [.bool false,.string ⟨#[]⟩,.slice none 0 0,.int .i64 x.aU,.int .i64 x.numOf,.string x.aZ,.slice b4 b2 cu]:=by
 unfold fQ;rw[bw];refine eE.2 ⟨_,rfl,fY.2 ⟨[.string ⟨#[]⟩,.slice none 0 0],_,rfl,?_,D.bH.2 (aV.2 ⟨b4,b2,cu,rfl,hc,h⟩)⟩⟩;exact wh
theorem mb{G:Env}{V:GS}{q:ByteArray×Bool}{a:cQ}:∀(ps:List (ByteArray×Bool)) (aO:List cQ),hN G V ps aO→Fs G V q a→hN G V (ps++[q]) (aO++[a])
 | [],[],_,h=>⟨h,trivial⟩
 | _::ps,_::aO,h,J=>⟨h.1,mb ps aO h.2 J⟩
 | [],_::_,h,_=>h.elim
 | _::_,[],h,_=>h.elim
def EB(w:World)(p:jr)(V:GS)(ps gs:List (ByteArray×Bool))(e:Ending)(ab:World):Prop:=
 ∃(aO:List cQ) (KA:GR) (k kc:Nat),e=.returned (.slice KA k kc)∧(∀fs,hN ⟨p.M,ps,fs⟩ V gs aO)∧k≤kc∧Sl ab (fresh w ab) KA k (aO.map fQ)∧bV ab p.s p.A p.n p.c p.l∧Fr (fun b=>b=p.s) w ab
theorem vR(p:jr)(left:Nat)(V:GS)(U:GR)(aF ak:Nat)(bc:ByteArray)(ps:List (ByteArray×Bool))(QA:GR)(ch qc:Nat)(bP:Value)(m:ByteArray)(gs:List (ByteArray×Bool))(bI:GR)(bG bq:Nat)(u:Value)(w:World)(h:fE w p left)(cj:lO w p.s V U aF)(a8:aF≤1000)
  (bi:Sl w (off (fun b=>b=p.s) w) QA ch (ps.map cW)) (bu:ch≤2) (bZ:Sl w (off (fun b=>b=p.s) w) bI bG (gs.map cW)) (cB:bG≤2) :
  Calls prog 101 #[.pointer (some ⟨p.wb,0,none⟩),.agg #[.string bc,.slice QA ch qc,bP],.agg #[.string m,.slice bI bG bq,u],.slice U aF ak] w (EB w p V ps gs):=by
 obtain⟨s,wb,A,n,c,l,GA,gn,gc,MA,mn,mc,FA,fn,fc,M,F,ar⟩:=p;have ao:=h.blk.lt;have ck:=h.src.lt;have cc:gs.length=bG:=by have:=bZ.1;simpa using this
 simp only at ao ck;have H:=bO h cj bi bZ;clear h cj bi bZ;go_enter func101,ntmps101;go_wp2_with (fail);generalize bg:World.alloc _ _=W;have av:Ext w W:=bg▸(GN.alloc _).alloc _;have cw:ag W w.heap.size 140 #[.string bc,.slice QA ch qc,bP]:=bg▸(GO).alloc _;have bD:ag W (w.heap.size+1) 140 #[.string m,.slice bI bG bq,u]:=bg▸ag.bR _ _ _ (by simp);have cH:W.heap.size=w.heap.size+1+1:=by rw[←bg];simp
 have aj:=bO (H.1.al av) (av.mono (M':=fun b=>b=s) fun _ h=>h.elim) cw bD;clear bg av cw bD;go_loopw [9,10] (fun aI cp wr=>∃(j:Nat) (bH:GR) (rc:Nat) (aO:List cQ),j≤bG∧cp=.int .i64 j∧aI=.slice bH j rc∧(∀fs,hN ⟨M,ps,fs⟩ V (gs.take j) aO)∧fE wr ⟨s,wb,A,n,c,l,GA,gn,gc,MA,mn,mc,FA,fn,fc,M,F,ar⟩ left∧Fr (fun b=>b=s) w wr∧ag wr w.heap.size 140 #[.string bc,.slice QA ch qc,bP]∧ag wr (w.heap.size+1) 140 #[.string m,.slice bI bG bq,u]∧
  Gr (fun b=>w.heap.size≤b) (w.heap.size+1+1) 209 7 wr bH j rc (aO.map fQ)) (fun _ cp _=>bG - (intOf cp).toNat)
 case atStart=>exact⟨0,none,0,[],Gz _,rfl,rfl,fun fs=>trivial,aj.1,aj.2.1,aj.2.2.1,aj.2.2.2,Gr.nil _ _ _ _ _⟩
 case round=>
  obtain⟨j,bH,rc,aO,ba,rfl,rfl,P,S,hF,bQ,bt,bR⟩:=hrel;clear aj;have aZ:=cA S hF bQ bt bR;have az:=ae P;obtain⟨a6,aL,aP⟩:=bt.two;obtain⟨e0,bl,a5⟩:=bQ.two;by_cases T:j<bG
  ·obtain⟨b,o,q,cs,dc,O,hm,aX,a1,hc⟩:=Sl.fJ (z:=2) (Sl.cZ H.2.2.2 hF) (fun _=>rfl) T;subst dc;obtain rfl:=qx.1 aX;have c1:=hc 1 _ rfl;have dr:=ae hm;have cy:(0:Int)≤(j:Int):=ad;have gl:(j:Int)<(bG:Int):=ad;have b9:=hF.size;clear aX hc a1 hm O S hF bQ bt bR P;obtain⟨co,ej⟩:=q;simp only at c1
   cases ej with
   | true=>
    go_wp2_with (fail);refine(lJ ⟨s,wb,A,n,c,l,GA,gn,gc,MA,mn,mc,FA,fn,fc,M,F,ar⟩ left V U aF ak bc ps QA ch qc bP wr aZ.1 (H.2.1.on aZ.2.1) a8 (Sl.cZ H.2.2.1 aZ.2.1) bu).mono ?_;rintro e aQ ⟨r,IA,i,ic,rfl,aJ,Z,aa,aC,t⟩;simp only at aJ aC t;have eN:=aZ.2.2.2.2.cZ t (fun b O _=>⟨ad,ad⟩);have hd:(fQ (.mx r)).rep aQ (j2 (fun b=>w.heap.size≤b) aQ (.slice bH j rc)) [.bool true,.string r.name,.slice IA i ic,.int .i64 0,.int .i64 0,.string ⟨#[]⟩,.slice none 0 0]:=
     Cq (aa.mono fun b O=>⟨by have:=O.1;omega,O.2,fun h=>by have:=(aZ.2.2.2.2.lt h).2;have:=O.1;omega⟩) Z
    have bk:=dz (aZ.1.next aC t) (aZ.2.1.trans t) (aZ.2.2.1.on t ad) (aZ.2.2.2.1.on t ad) eN hd;have g:=ae aJ;have cf:w.heap.size+1+1≤aQ.heap.size:=by have:=t.size;omega
    clear a6 aL aP e0 bl a5 c1 eN hd t aC aa Z aJ aZ;go_wp2_with ((at_builtin;refine bS uw rfl (.tmp 24) (.tmp 30) rfl bk.2.2.2.2.1 bk.2.2.2.2.2 rfl rfl rfl ad ad cf ?_;intro a2 c2 bJ an aq b3 ce;have bB:=ai an aq;clear an aq b3 ce));have bN:∀b,(Value.slice bH j rc).ownBlock=some b→w.heap.size+1+1≤b:=fun b O=>(bk.2.2.2.2.1.lt O).1;have ay:Fr (fun b=>b=s) w bJ:=bk.2.1.eg (bB.2.below bk.2.1.size fun k ap h=>by have:=bN k h;omega);have dg:fE bJ ⟨s,wb,A,n,c,l,GA,gn,gc,MA,mn,mc,FA,fn,fc,M,F,ar⟩ left:=(H.1).next (bk.1.src.ch bB.2 fun b O h=>by have:=bN b h;simp only at O;omega) ay;have bW:=cA dg ay (bk.2.2.1.on bB.2 (fun h=>by have:=bN _ h;omega)) (bk.2.2.2.1.on bB.2 (fun h=>by have:=bN _ h;omega)) bB.1;clear bN ay dg;go_roundw
    case rel=>
     refine⟨j+1,a2,c2,aO++[.mx r],ad,by go_num,rfl,fun fs=>?_,bW.1,bW.2.1,bW.2.2.1,bW.2.2.2.1,by rw[Gi];exact bW.2.2.2.2⟩;rw[List.take_add_one,dr.o];exact mb _ _ (az.o fs) ⟨rfl,g.o fs⟩
    case measure=>simp[intOf];omega
   | false=>
    go_wp2_with (fail);refine(iM ⟨s,wb,A,n,c,l,GA,gn,gc,MA,mn,mc,FA,fn,fc,M,F,ar⟩ left V U aF ak wr aZ.1 (H.2.1.on aZ.2.1) a8).mono ?_;rintro e aQ ⟨x,b4,b2,cu,rfl,aJ,Z,aa,aC,t⟩;simp only at aC t;have eN:=aZ.2.2.2.2.cZ t (fun b O _=>⟨ad,ad⟩);have hd:(fQ (.ex x)).rep aQ (j2 (fun b=>w.heap.size≤b) aQ (.slice bH j rc)) [.bool false,.string ⟨#[]⟩,.slice none 0 0,.int .i64 x.aU,.int .i64 x.numOf,.string x.aZ,.slice b4 b2 cu]:=
     Cp (aa.mono fun b O=>⟨by have:=O.1;omega,O.2,fun h=>by have:=(aZ.2.2.2.2.lt h).2;have:=O.1;omega⟩) Z
    have bk:=dz (aZ.1.next aC t) (aZ.2.1.trans t) (aZ.2.2.1.on t ad) (aZ.2.2.2.1.on t ad) eN hd;have g:=ae aJ;have cf:w.heap.size+1+1≤aQ.heap.size:=by have:=t.size;omega
    clear a6 aL aP e0 bl a5 c1 eN hd t aC aa Z aJ aZ;go_wp2_with ((at_builtin;refine bS uw rfl (.tmp 32) (.tmp 37) rfl bk.2.2.2.2.1 bk.2.2.2.2.2 rfl rfl rfl ad ad cf ?_;intro a2 c2 bJ an aq b3 ce;have bB:=ai an aq;clear an aq b3 ce));have bN:∀b,(Value.slice bH j rc).ownBlock=some b→w.heap.size+1+1≤b:=fun b O=>(bk.2.2.2.2.1.lt O).1;have ay:Fr (fun b=>b=s) w bJ:=bk.2.1.eg (bB.2.below bk.2.1.size fun k ap h=>by have:=bN k h;omega);have dg:fE bJ ⟨s,wb,A,n,c,l,GA,gn,gc,MA,mn,mc,FA,fn,fc,M,F,ar⟩ left:=(H.1).next (bk.1.src.ch bB.2 fun b O h=>by have:=bN b h;simp only at O;omega) ay;have bW:=cA dg ay (bk.2.2.1.on bB.2 (fun h=>by have:=bN _ h;omega)) (bk.2.2.2.1.on bB.2 (fun h=>by have:=bN _ h;omega)) bB.1;clear bN ay dg;go_roundw
    case rel=>
     refine⟨j+1,a2,c2,aO++[.ex x],ad,by go_num,rfl,fun fs=>?_,bW.1,bW.2.1,bW.2.2.1,bW.2.2.2.1,by rw[Gi];exact bW.2.2.2.2⟩;rw[List.take_add_one,dr.o];exact mb _ _ (az.o fs) ⟨rfl,g.o⟩
    case measure=>simp[intOf];omega
  ·obtain rfl:j=bG:=ad;clear S hF bQ bt bR P;go_wp2_with (fail);go_ret;have ac:=az.o;rw[Gj ad] at ac;exact⟨aO,bH,j,rc,rfl,ac,aZ.2.2.2.2.cap.1,aZ.2.2.2.2.sl (fun b h hp=>⟨hp,h⟩) (fun b h hp=>⟨ad,h⟩),aZ.1.src,aZ.2.1⟩
end Go.Proofs.YtjhgbdckgkppnaaGreat

/- Part 35 of the proof. No condition of its own. -/
import Derived.Test.YtnigabjngpnbiaaGreatQ15
import Derived.Test.YtnigabjngpnbiaaGreatQ31
namespace Go.Proofs.YtnigabjngpnbiaaGreat
open Go.RowKit Go.Proofs.Tryz
set_option maxRecDepth 1000000
set_option maxHeartbeats 25600000
set_option linter.unusedVariables false
variable{d:D}{e o p threads:Int}{r:Int×Int}{cs:List Value}{T:List cp}{b c left:Nat}{P:Nat->Prop}{A a:Kj}{V:World}
theorem gy.fr{s:Nat}{w J:World}(h:gy s w J):Fr (λb=>b=s) w J:=⟨h.os,h.tape,h.output,h.size,h.block⟩
theorem hO{M:Nat->Prop}{w X:World}{g:Nat}{t:TypeId}{cs:Array Value}(vs:List Value)(hs:cs.size=vs.length)(aK:au V g t cs)(ar:Fr M w V)(aS:w.heap.size<=g)(hX:qf g V 0 vs=X):
  au X g t vs.toArray/\Fr M w X/\Fr (λb=>b=g) V X:=by
 subst hX;have aA:=lH (g:=g) vs 0 V;refine⟨?_,ar.mY (aA.below ar.size λk aj h=>ad),aA⟩;have ac:=kn vs 0 V cs aK;have ap:ij cs 0 vs=vs.toArray:=by
  apply Array.toList_inj.1
  rw[ld vs 0 cs ad];simp;omega
 rwa [ap] at ac
theorem fm.gW{M:Nat->Prop}{w J:World}{s:Nat}{n:Nat}{l:List Int}(h:fm w s A n c l)(O:Fr M w J)(hM:∀b,b<=s->¬M b):fm J s A n c l:=
 h.Jh (g:=s+1) (O.below h.lt λk aj=>hM k ad) ad
theorem Sl.GL{w:World}{g n:Nat}{t:TypeId}{l:List D}(aK:au w g t cs.toArray)(aZ:D.aR w P l cs)(S:P g)(hl:l.length=n):Sl w P (some ⟨g,0,none⟩) n l:=
 ⟨hl,λ_=>⟨g,0,cs,rfl,S,aZ,λj u be=>by rw[J0,aK.cell];simpa using be⟩⟩
def wU(w:World)(s:Nat)(V:Kk)(a:Kj)(j:Nat):Prop:=Sl w (off (λb=>b=s) w) a j (V.map .s)
theorem wU.on{w J:World}{s:Nat}{V:Kk}{j:Nat}(h:wU w s V a j)(O:Fr (λb=>b=s) w J):wU J s V a j:=Sl.eQ h O
structure te where
 s:Nat
 wb:Nat
 A:Option Addr
 n:Nat
 c:Nat
 l:List Int
 GA:Option Addr
 gn:Nat
 gc:Nat
 MA:Option Addr
 mn:Nat
 mc:Nat
 FA:Option Addr
 fn:Nat
 fc:Nat
 M:List bI
 F:List a1
 ar:Bool
abbrev te.MW(p:te):Nat->Prop:=λb=>b=p.s\/b=p.wb
structure pB(w:World)(p:te)(left:Nat):Prop where
 src:fm w p.s p.A p.n p.c p.l
 blk:au w p.wb 162 #[.pointer (some ⟨p.s,0,none⟩),.slice p.GA p.gn p.gc,.slice p.MA p.mn p.mc,.slice p.FA p.fn p.fc,.int .i64 left,.bool p.ar]
 ne:p.s<p.wb
 ms:Sl w (off p.MW w) p.MA p.mn (p.M.map eL)
 fs:Sl w (off p.MW w) p.FA p.fn (p.F.map fA)
 nm:1<=p.mn/\p.mn<=4
 nf:1<=p.fn/\p.fn<=4
 gE:∀m∈p.M,0<=m.size/\m.size<=3
 iN:∀f∈p.F,f.params.length<=2
 Hu:left<=24
theorem pB.next{w J:World}{p:te}(h:pB w p left)(hs:fm J p.s p.A p.n p.c p.l)(O:Fr (λb=>b=p.s) w J):pB J p left:=
 ⟨hs,h.blk.on O (aC h.ne),h.ne,Sl.eQ h.ms (O.mono λ_ h=>.inl h),Sl.eQ h.fs (O.mono λ_ h=>.inl h),h.nm,h.nf,h.gE,h.iN,h.Hu⟩
theorem pB.aj{w J:World}{p:te}(h:pB w p left)(O:Ext w J):pB J p left:=h.next (h.src.gW O λ_ _ h=>h) (O.mono λ_ h=>h.elim)
theorem wU.aj{w J:World}{s:Nat}{V:Kk}{j:Nat}(h:wU w s V a j)(O:Ext w J):wU J s V a j:=h.on (O.mono λ_ h=>h.elim)
def DW(w:World)(x:ax)(e:Ending)(J:World):Prop:=
 ∃(IA:Kj) (i ic:Nat) (bo:Kj) (k lc:Nat),e=.returned (.agg (eT x.op x.target x.c5 IA i ic bo k lc))/\(dH x).rep J (fresh w J) (eT x.op x.target x.c5 IA i ic bo k lc).toList/\Ext w J
structure jT(w wr:World)(l:List dv)(op ah:Int)(aZ:Array Value)(aH:List dh)(k:Nat)(IA:Kj)(i ic:Nat)(bo:Kj)(j lc:Nat):Prop where
 ext:Ext w wr
 b4:au wr w.heap.size 185 aZ
 b6:au wr (w.heap.size+1) 77 (eT 0 0 false none 0 0 none 0 0)
 b7:au wr (w.heap.size+2) 77 (eT op ah false IA i ic bo j lc)
 g2:lu (w.heap.size+3) 72 4 74 3 wr IA i ic ((bL l (aH.take k)).map bB) bo j lc ((cr l (aH.take k)).map c8)
section
variable {w wr aL aV X:World} {l:List dv} {op ah:Int} {aZ:Array Value} {aH:List dh} {k:Nat} {IA:Kj} {i ic:Nat} {bo:Kj} {j lc:Nat}
theorem mO{own:Nat->Prop}{g:Nat}(h:Ext w wr)(he:Ext wr aL)(aA:Fr own aL aV)(aE:∀b,own b->w.heap.size<=b)(aS:w.heap.size<=g)(hX:Fr (λb=>b=g) aV X):Ext w X:=by
 have e1:Fr (λb=>w.heap.size<=b) w X:=Fr.trans (Fr.mono h λ_ h=>h.elim) (Fr.trans (Fr.mono he λ_ h=>h.elim) (Fr.trans (aA.mono aE) (hX.mono λb O=>by subst O;exact aS)));exact e1.low λ_ h=>h
theorem jT.place(h:jT w wr l op ah aZ aH k IA i ic bo j lc)(he:Ext wr aL){r:eR}(bE:aH[k]?=some (.mx r)){dd:Kj}{di:Nat}
  (aS:Gr (λb=>w.heap.size+3<=b/\(Value.slice IA i ic).ownBlock≠some b) (w.heap.size+3) 74 3 aV dd (j+1) di ((cr l (aH.take k)).map c8++[c8 (la l r)]))
  (aA:Fr (λb=>(Value.slice bo j lc).ownBlock=some b) aL aV) (bb:fT aL bo j lc dd (j+1) di) (hX:aV.setCell ⟨w.heap.size+2,11,none⟩ (.slice dd (j+1) di)=X) :
  jT w X l op ah aZ aH (k+1) IA i ic dd (j+1) di:=by
 have bM:=da hX;have aq:∀b,(Value.slice bo j lc).ownBlock=some b->w.heap.size+3<=b:=λb O=>(h.g2.two.lt O).1;refine⟨mO h.ext he aA (λb O=>by have:=aq b O;omega) ad bM,?_,?_,?_,?_⟩
 .exact((h.b4.aj he).on aA λO=>by have:=aq _ O;omega).on bM ad
 .exact((h.b6.aj he).on aA λO=>by have:=aq _ O;omega).on bM ad
 .rw[<-hX];exact((h.b7.aj he).on aA λO=>by have:=aq _ O;omega).bH 11 _
 .have e1:bL l (aH.take (k+1))=bL l (aH.take k):=by rw[aX bE,(g1 l _ _).1];simp[bL]
  have e2:(cr l (aH.take (k+1))).map c8=(cr l (aH.take k)).map c8++[c8 (la l r)]:=by rw[aX bE,(g1 l _ _).2];simp[cr]
  rw[e1,e2];exact(((h.g2.aj he).swap.grow aS aA bb).swap).eQ bM λb O _=>ad
theorem jT.int(h:jT w wr l op ah aZ aH k IA i ic bo j lc)(he:Ext wr aL){x:VE}(bE:aH[k]?=some (.ex x)){ay:Kj}{cN:Nat}
  (aS:Gr (λb=>w.heap.size+3<=b/\(Value.slice bo j lc).ownBlock≠some b) (w.heap.size+3) 72 4 aV ay (i+1) cN ((bL l (aH.take k)).map bB++[bB (bG l x)]))
  (aA:Fr (λb=>(Value.slice IA i ic).ownBlock=some b) aL aV) (bb:fT aL IA i ic ay (i+1) cN) (hX:aV.setCell ⟨w.heap.size+2,10,none⟩ (.slice ay (i+1) cN)=X) :
  jT w X l op ah aZ aH (k+1) ay (i+1) cN bo j lc:=by
 have bM:=da hX;have aq:∀b,(Value.slice IA i ic).ownBlock=some b->w.heap.size+3<=b:=λb O=>(h.g2.one.lt O).1;refine⟨mO h.ext he aA (λb O=>by have:=aq b O;omega) ad bM,?_,?_,?_,?_⟩
 .exact((h.b4.aj he).on aA λO=>by have:=aq _ O;omega).on bM ad
 .exact((h.b6.aj he).on aA λO=>by have:=aq _ O;omega).on bM ad
 .rw[<-hX];exact((h.b7.aj he).on aA λO=>by have:=aq _ O;omega).bH 10 _
 .have e1:cr l (aH.take (k+1))=cr l (aH.take k):=by rw[aX bE,(g1 l _ _).2];simp[cr]
  have e2:(bL l (aH.take (k+1))).map bB=(bL l (aH.take k)).map bB++[bB (bG l x)]:=by rw[aX bE,(g1 l _ _).1];simp[bL]
  rw[e1,e2];exact((h.g2.aj he).grow aS aA bb).eQ bM λb O _=>ad
end
theorem sn{aL:World}{B:Nat}{a1:Kj}{n aQ aW:Nat}(h:d.rep aL (fresh V aL) cs)(aK:B<=V.heap.size)(ac:∀b,(Value.slice A n c).ownBlock=some b->b<V.heap.size)(ap:∀b,(Value.slice a1 aQ aW).ownBlock=some b->b<V.heap.size):
  d.rep aL (mS (λb=>B<=b/\(Value.slice a1 aQ aW).ownBlock≠some b) aL (.slice A n c)) cs:=
 D.aA (λb O=>⟨⟨JZ aK O.1,λhc=>by have:=ap b hc;have:=O.1;omega⟩,O.2,λhc=>by have:=ac b hc;have:=O.1;omega⟩) _ _ h
theorem CH(c9:tk)(g:Nat)(l:List dv)(M:List bI)(F:List a1)(bj:Bool)(s:ByteArray)(aH:List dh)(v:dv)(f:a1)(aA:dg l s=some v)(aj:v.kind=3)(h0:0<=v.n)(hF:F[v.n.toNat]?=some f)(b2:iu M l f.params aH)(iN:f.params.length<=1000)
  (eo en:Int) (es:ByteArray) (EA:Kj) (em ec:Nat) (rs:ByteArray) (cq:Kj) (b5 rc:Nat) (bz:Kj) (n1 c1:Nat) (bg:Kj) (n2 c2:Nat) (bU:Kj) (n3 c3:Nat) (st:Int)
  (w:World) (bP:r0 w g l) (hM:wT w g M) (ci:xU w g F) (hs:Sl w (ao w) bz n1 (aH.map eg)) :
  Calls prog 139 #[.pointer (some ⟨g,0,none⟩),.agg #[.int .i64 (if bj then 4 else 3),.string s,.int .i64 eo,.int .i64 en,.string es,.slice EA em ec,.string rs,.slice cq b5 rc,.slice bz n1 c1,.slice bg n2 c2,.slice bU n3 c3],.int .i64 st] w
   (DW w (kK bj v.n (bL l aH) (cr l aH))):=by
 have hlen:=kV b2;have cH:aH.length=n1:=by rw[<-hs.1,JM]
 obtain⟨av,b6,cE,bW,cF,cK,bF⟩:=Fg b2 aA hF bP hM ci hs;obtain⟨cg,cV,bR⟩:=v;simp only at aj h0 hF;subst aj;obtain⟨ah,rfl⟩:=JN h0;clear hs bP hM ci b2 aA hF h0;obtain⟨op,cf⟩:∃op:Int,op=if bj then 3 else 2:=⟨_,rfl⟩
 have hx:kK bj (ah:Int) (bL l aH) (cr l aH)=⟨op,ah,false,none,jB,bL l aH,cr l aH⟩:=by rw[cf];rfl
 rw[hx];clear hx;obtain⟨cx,b7⟩:∃cx:Int,cx=if bj then 4 else 3:=⟨_,rfl⟩
 have dk:(cx == 4)=bj:=by rw[b7];cases bj<;>rfl
 rw[<-b7];clear b7;go_enter func139,ntmps139;cases bj
 all_goals
  simp only[if_true,Kd,if_false] at cf;go_upto_region 4 with(fail);generalize ba:World.alloc _ _=W;have ar:=l6 ba;have bJ:=jV ba;have cC:=iF ba;have cL:au W (w.heap.size+2) 77 (eT op 0 false none 0 0 none 0 0):=by rw[<-ba,cf];exact au.k5 _ _ _ (by simp)
  clear ba cf;obtain⟨bd,br,bv,fz⟩:=jF ar bJ cC cL;obtain⟨aS,bo,ln,lc,dt,cv,bZ⟩:=bW.on ar;have cc:=ae bZ;obtain⟨a0,al,af⟩:=bJ.two;clear ar bJ cC cL bZ;refine uU (λ_=>False) [6,11] (.free 0 (.free 1 (.free 2 (.held 3 (.free 4 (.held 5 (.pick [6,10] (λi=>bif i == 6 then .free 7 (.free 8 (.free 9 (.pick [10] (λ_=>.pick [11] (λ_=>.free 12 (.stop)))))) else .pick [6] (λ_=>.free 7 (.free 8 (.free 9 (.pick [11] (λ_=>.free 12 (.stop)))))))))))))) ?_
  iterate 3 refine tf ?_
  refine th ?_;refine tf ?_;refine th ?_;refine kB (P:=?_) (ops:=?_) (Q:=?_) (R:=?_) (tails:=?_) (rest:=.pick [11] (λ_=>.free 12 (.stop))) (aa:=?_) (C:=λcS V=>Ext W V/\au V cS 133 #[.string ⟨#[]⟩,.int .i64 0,.int .i64 0]/\W.heap.size<=cS) (λkey=>?_) ?_
  rotate_left 6
  ·
   refine b1 ?_ ?_
   ·
    refine ca rfl (λK hK=>?_) rfl;go_simp;refine(dC bo ln lc l s W.drew (cc.on (Fr.ext Kf.drew)) dt).mono ?_;rintro e aL ⟨rfl,L⟩;rw[b6.o];simp only[ia,pH];refine eC hK ?_;clear hK K
    iterate 3 refine tf ?_
    refine aB ?_;refine gX ?_;generalize hV:World.alloc _ _=V;have aK:=aF hV;have a9:Ext W V:=hV▸(Fr.aL L).alloc _;have hle:=(Fr.aL L).size;clear hV L;generalize aL.heap.size=cS at *;exact key cS V ⟨a9,aK,hle⟩
   ·
    refine gX ?_;refine aB ?_;refine ca rfl (λK hK=>?_) rfl;go_simp;generalize hV:World.alloc _ _=V;have aK:=aF hV;have a9:=aY hV;clear hV;refine(dC bo ln lc l s V.drew (cc.on (Fr.ext a9.drew)) dt).mono ?_;rintro e aL ⟨rfl,L⟩;rw[b6.o];simp only[ia,pH];refine eC hK ?_;clear hK K
    iterate 3 refine tf ?_
    have cA:=aK.aj (Fr.aL L);have ag:=a9.trans (Fr.aL L);clear aK a9 L;exact key W.heap.size aL ⟨ag,cA,JI _⟩
  ·
   rintro cS V ⟨a9,b8,bm⟩;have cP:=fz.lt;obtain⟨b0,am,aw⟩:=b8.two;clear a0 al af cv;refine aB ?_;refine ca rfl (λK hK=>?_) rfl;go_simp;refine eC hK ?_;clear hK K;refine tf ?_;refine cY ?_;generalize hX:World.setCell _ _ _=X;obtain⟨a6,bf,_⟩:=oj b8 a9 bm hX;have aT:=ae (bd.trans bf);have aJ:=ae (br.aj bf);have u:=ae (bv.aj bf);have n:=fz.aj bf;have bi:=ae n;clear hX b0 am aw b8 a9 bf;obtain⟨b0,am,aw⟩:=a6.two;obtain⟨a0,al,af⟩:=n.two;clear n;go_upto_region 12 with(fail);generalize cm:World.setCell _ _ _=Y;have bp:=u.lt;have bu:=da cm;have aI:au Y (w.heap.size+2) 77 (eT op ah false none 0 0 none 0 0):=cm▸bi.bH 1 _;have a7:Ext w Y:=(Fr.trans (aT.mono λ_ h=>h.elim) bu).low (λb hm=>ad);have N:=aJ.on bu ad;have aC:=u.on bu ad;obtain⟨a4,bM,bt,cb⟩:=jF a7 N aC aI;have bD:=a6.on bu ad;obtain⟨bC,FA,fn,fc,bQ,f3,bq⟩:=cK.o;have cn:F[ah]?=some f:=by have:=cE.o;simpa using this
   have bw:ah<fn:=by have ac:=(List.getElem?_eq_some_iff.1 cn).1;have ap:=bq.1;rw[JM] at ap;omega
   obtain⟨bT,cT,U,cs,rfl,cy,S,bO,cB,aE⟩:=bq.iG mg bw;rw[cn] at S;injection S with S;subst S;obtain⟨PA,pn,pc,cW,bn,bc,rfl,c4,cp,b3,_⟩:=iK.1 bO;replace f3:=(a7.cell bC (λh=>h)).trans f3
   have f4:=(a7.cell cy (λh=>h)).trans (aE 1 _ rfl);have bH:=a7.size;have cj:bT<Y.heap.size:=JJ cy bH;have cO:g<Y.heap.size:=JJ bC bH;have b4:f.params.length=pn:=by rw[<-b3.1,JM]
   have c5:=ae b3;obtain⟨b0,am,aw⟩:=bD.two;obtain⟨a0,al,af⟩:=N.two;obtain rfl:n1=pn:=ad;have bK:=ae (show jT w Y l op ah #[.int .i64 cx,.string s,.int .i64 eo,.int .i64 en,.string es,.slice EA em ec,.string rs,.slice cq b5 rc,.slice bz n1 c1,.slice bg n2 c2,.slice bU n3 c3] aH 0 none 0 0 none 0 0 from
    ⟨a7,N,aC,aI,lu.nil _ _ _ _ _ _⟩)
   clear cm bu a7 aC aI a6 bq bO cB aE b3 cy aT aJ u bi bm N bD a4 bM bt cb;go_wp2;refine fj (λ_=>False) [(0,3),(1,3),(2,3),(3,3),(4,0),(5,3),(6,0),(7,3),(8,3),(9,0),(10,3)] ?_
   iterate 4 refine pf ?_
   refine ph ?_;refine pf ?_;refine ph ?_
   iterate 2 refine pf ?_
   refine ph ?_;refine pf ?_;refine aG ?_;clear b0 am aw f3 f4 cj;go_wp2;clear a0 al af;go_loopw [11] (λaX wr=>∃(k:Nat) (IA:Kj) (i ic:Nat) (bo:Kj) (j lc:Nat),k<=n1/\aX=.int .i64 k/\i<=k/\j<=k/\jT w wr l op ah #[.int .i64 cx,.string s,.int .i64 eo,.int .i64 en,.string es,.slice EA em ec,.string rs,.slice cq b5 rc,.slice bz n1 c1,.slice bg n2 c2,.slice bU n3 c3] aH k IA i ic bo j lc) (λaX _=>n1 - (intOf aX).toNat)
   case atStart=>exact⟨0,none,0,0,none,0,0,ad,rfl,JI _,JI _,⟨bK.ext.drew,bK.b4,bK.b6,bK.b7,bK.g2.aj Kf.drew⟩⟩
   case round=>
    obtain⟨k,IA,i,ic,bo,j,lc,aj,rfl,cl,z,hC⟩:=hrel;clear bK;have bK:=ae hC;obtain⟨a0,al,af⟩:=hC.b4.two;by_cases aq:k<n1
    .obtain⟨ab,dc,a,cs,rfl,ai,bE,H,a8,Z⟩:=(bF.on (Fr.ext hC.ext)).iG rj aq;obtain⟨pb,db,q,de,rfl,ch,bx,bA,bl,cG⟩:=(c5.on (Fr.ext hC.ext)).iG p9 aq;obtain rfl:=mM.1 bA;have J:=cG 1 _ rfl;have a3:pb<wr.heap.size:=ch;have bS:ab<wr.heap.size:=ai;have HA:=ae bE;rcases l8 av.o bx bE with⟨r,rfl,aN,ev⟩|⟨x,rfl,aN,cw⟩
     .rw[aN] at J;obtain⟨cu,cZ,cU,cQ,cI,zc,rfl,ak⟩:=CN H;have c0:=Z 0 _ rfl;have ct:=Z 1 _ rfl;have be:=Z 2 _ rfl;have a5:=Z 3 _ rfl;have bV:=Z 4 _ rfl;have bX:=Z 5 _ rfl;have bY:=Z 6 _ rfl;simp only[JS] at c0;have m:=ae ak;clear hC a8 Z bA bl cG ch ai H bE bx ak;go_upto_region 20 with(fail);generalize hV:World.alloc _ _=V;have T:=aY hV;have bs:=aF hV;have cL:=bK.b7.aj T;replace J:=((Fr.xC T).1 pb _ a3).trans J
      replace a3:pb<V.heap.size:=JJ a3 T.size
      have l4:=bK.b7.lt;have cM:=T.size;clear hV a0 al af c0 ct be a5 bV bX bY bS;obtain⟨d0,aQ,aR⟩:=bs.two;obtain⟨a0,al,af⟩:=cL.two;clear cL bs;go_wp2;refine fj (λ_=>False) [(0,3),(1,0),(2,3),(3,3),(4,3),(5,3),(6,0),(7,3)] ?_;refine pf ?_;refine ph ?_
      iterate 4 refine pf ?_
      refine ph ?_;refine pf ?_;refine aG ?_;clear J a3;go_wp2;refine fj (λ_=>False) [(0,3),(1,0),(2,3),(3,3),(4,0),(5,3),(6,1),(7,1),(8,2),(9,3),(10,2)] ?_;refine pf ?_;refine cR (v:=?_) rfl (by rfl) (λV hV=>?_) ?_;rotate_left
      .obtain⟨hVc,hVf⟩:=Fr.iB hV
       (go_simp<;>with_reducible rfl)
      try simp only[PU]
      iterate 2 refine pf ?_
      refine cR (v:=?_) rfl (by rfl) (λV hV=>?_) ?_;rotate_left
      .obtain⟨hVc,hVf⟩:=Fr.iB hV
       (go_simp<;>with_reducible rfl)
      try simp only[PU]
      refine pf ?_;refine aP rfl (λK hK=>?_);go_simp;refine(c9 g l M r ev st cu cZ cU cQ _ (bW.on (bK.ext.trans T).drew.drew) (cF.on (bK.ext.trans T).drew.drew) (D.on m.o (Fr.ext T.drew.drew))).mono ?_;rintro e aL ⟨g1,g2,fg,fd,fx,rfl,aD,L⟩;refine gu hK (L) ?_;clear hK K;have ag:Ext V aL:=Fr.aL (Fr.aL L);have y:(c8 (la l r)).rep aL (fresh V aL) [.bool g1,.int .i64 g2,.slice fg fd fx]:=aD;have a9:=T.trans ag;have a2:=ag.size;have aW:∀b,(Value.slice IA i ic).ownBlock=some b->b<V.heap.size:=λb O=>by have:=(bK.g2.one.lt O).2;omega
      have aO:∀b,(Value.slice bo j lc).ownBlock=some b->b<V.heap.size:=λb O=>by have:=(bK.g2.two.lt O).2;omega
      refine sG ?_;refine az rfl (λK hK=>?_);rw[if_pos (by rfl)];refine pt Gt (.tmp 92) (.tmp 98) (by rfl) (bK.g2.aj a9).two (sn y ad aO aW) (by rfl) (by rfl) (by rfl) ad ad ad ?_;intro dd di aV bb ax I ck;have n:=(bK.b7.aj a9).on ax (λO=>by have:=(bK.g2.two.lt O).1;omega);have bN:=b9 bb ax I a9;clear bb ax I aD y L ag a9 T a0 al af d0 aQ aR aW aO a2;obtain⟨a0,al,af⟩:=n.two;clear n;refine eC hK ?_;clear hK K;refine pf ?_;refine az rfl (λK hK=>?_);go_simp;refine eC hK ?_;clear hK K;refine aG ?_;clear a0 al af;generalize hX:World.setCell aV _ _=cD;have c6:=ae (bK.place bN.2.2.2 HA.o bN.1 bN.2.1 bN.2.2.1 hX);clear hX;go_wp2;go_roundw
      case rel=>exact⟨k+1,IA,i,ic,dd,j+1,di,ad,by go_num,ad,ad,c6.o⟩
      case measure=>exact aU
     .rw[aN] at J;obtain⟨cI,cJ,zc,dn,fd,xs,fg,dl,fx,rfl,ak⟩:=CL H;have c0:=Z 0 _ rfl;have ct:=Z 1 _ rfl;have be:=Z 2 _ rfl;have a5:=Z 3 _ rfl;have bV:=Z 4 _ rfl;have bX:=Z 5 _ rfl;have bY:=Z 6 _ rfl;simp only[JS] at c0;have m:=ae ak;clear hC a8 Z bA bl cG ch ai H bE bx ak;go_upto_region 20 with(fail);generalize hV:World.alloc _ _=V;have T:=aY hV;have bs:=aF hV;have cL:=bK.b7.aj T;replace J:=((Fr.xC T).1 pb _ a3).trans J
      replace a3:pb<V.heap.size:=JJ a3 T.size
      have l4:=bK.b7.lt;have cM:=T.size;clear hV a0 al af c0 ct be a5 bV bX bY bS;obtain⟨d0,aQ,aR⟩:=bs.two;obtain⟨a0,al,af⟩:=cL.two;clear cL bs;go_wp2;refine fj (λ_=>False) [(0,3),(1,0),(2,3),(3,3),(4,3),(5,3),(6,0),(7,3)] ?_;refine pf ?_;refine ph ?_
      iterate 4 refine pf ?_
      refine ph ?_;refine pf ?_;refine aG ?_;clear J a3;go_wp2;refine fj (λ_=>False) [(0,3),(1,0),(2,3),(3,3),(4,0),(5,3),(6,1),(7,1),(8,2),(9,3),(10,2)] ?_;refine pf ?_;refine cR (v:=?_) rfl (by rfl) (λV hV=>?_) ?_;rotate_left
      .obtain⟨hVc,hVf⟩:=Fr.iB hV
       (go_simp<;>with_reducible rfl)
      try simp only[PU]
      iterate 2 refine pf ?_
      refine cR (v:=?_) rfl (by rfl) (λV hV=>?_) ?_;rotate_left
      .obtain⟨hVc,hVf⟩:=Fr.iB hV
       (go_simp<;>with_reducible rfl)
      try simp only[PU]
      refine pf ?_;refine aP rfl (λK hK=>?_);go_simp;refine(fD l x cw g st _ _ _ _ _ _ _ (bW.on (bK.ext.trans T).drew.drew) (D.on m.o (Fr.ext T.drew.drew))).mono ?_;rintro e aL ⟨cX,cz,co,dj,c7,df,rfl,aD,L⟩;refine gu hK (L) ?_;clear hK K;have ag:Ext V aL:=Fr.aL (Fr.aL L);have y:(bB (bG l x)).rep aL (fresh V aL) [.int .i64 cX,.int .i64 cz,.string co,.slice dj c7 df]:=aD;have a9:=T.trans ag;have a2:=ag.size;have aW:∀b,(Value.slice IA i ic).ownBlock=some b->b<V.heap.size:=λb O=>by have:=(bK.g2.one.lt O).2;omega
      have aO:∀b,(Value.slice bo j lc).ownBlock=some b->b<V.heap.size:=λb O=>by have:=(bK.g2.two.lt O).2;omega
      refine sG ?_;refine az rfl (λK hK=>?_);rw[if_pos (by rfl)];refine pt nT (.tmp 102) (.tmp 108) (by rfl) (bK.g2.aj a9).one (sn y ad aW aO) (by rfl) (by rfl) (by rfl) ad ad ad ?_;intro ay cN aV bb ax I ck;have n:=(bK.b7.aj a9).on ax (λO=>by have:=(bK.g2.one.lt O).1;omega);have bN:=b9 bb ax I a9;clear bb ax I aD y L ag a9 T a0 al af d0 aQ aR aW aO a2;obtain⟨a0,al,af⟩:=n.two;clear n;refine eC hK ?_;clear hK K;refine pf ?_;refine az rfl (λK hK=>?_);go_simp;refine eC hK ?_;clear hK K;refine aG ?_;clear a0 al af;generalize hX:World.setCell aV _ _=cD;have c6:=ae (bK.int bN.2.2.2 HA.o bN.1 bN.2.1 bN.2.2.1 hX);clear hX;go_wp2;go_roundw
      case rel=>exact⟨k+1,ay,i+1,cN,bo,j,lc,ad,by go_num,ad,ad,c6.o⟩
      case measure=>exact aU
    .obtain rfl:k=n1:=ad;have cL:=hC.b7;have cC:=hC.b6;clear hC a0 al af;obtain⟨a0,al,af⟩:=cL.two;obtain⟨d0,aQ,aR⟩:=cC.two;clear cL;go_wp2;generalize hX:World.setCell _ _ _=cD;obtain⟨cd,d5,ce⟩:=bk (eT op ah false IA i ic bo j lc).toList (by rfl) cC bK.ext ad hX;clear hX a0 al af d0 aQ aR;obtain⟨bh,an,aM⟩:=cd.two;refine Ke (v:=.agg (eT op ah false IA i ic bo j lc)) (by simp[results,Tryz.results139,go_sem,bh]) rfl ?_;have hG:=bK.g2.eQ ce λb O _=>ad;have eF:=ce.size;rw[JQ ad] at hG;refine⟨IA,i,ic,bo,j,lc,rfl,?_,d5⟩;exact iL (hG.one.sl (λb ac ap=>⟨by have:=ap.1;omega,ac⟩) (λb ac ap=>⟨ad,ac⟩)) (hG.two.sl (λb ac ap=>⟨by have:=ap.1;omega,ac⟩) (λb ac ap=>⟨ad,ac⟩)) hG.one.cap.1 hG.two.cap.1
section
variable {w J aL aV bV cE X:World} {g B:Nat} {M:List bI} {F:List a1} {l:List dv} {bo:Kj} {ln lc:Nat} {n:Int} {st:Nat} {code:List ax} {sites:List Int} {S:Kj} {bx:Nat} {bP:Kj} {bQ:Nat}
theorem cx.own(h:cx w g B M F l bo ln lc n st code sites S bx bP bQ){j:Nat}{v:Value}(hX:w.setCell ⟨g,j,none⟩ v=X):
  Mv g (.slice S code.length bx) (.slice bP sites.length bQ) w (.slice S code.length bx) (.slice bP sites.length bQ) X/\Fr (λb=>b=g) w X/\lu B 77 12 3 1 X S code.length bx (code.map dH) bP sites.length bQ (sites.map D.i):=by
 have aA:=da hX;exact⟨Mv.HH (aA.mono λb O=>.inl O),aA,h.rows.eQ aA λb O _=>by have:=h.base.1;omega⟩
namespace AP
theorem zW{p:Prop}(h:p:=by
 rw[<-hX];exact aK.bH 5 _
 ):p:=h
end AP
open AP in
theorem cx.stmt(h:cx w g B M F l bo ln lc n st code sites S bx bP bQ)(hX:w.setCell ⟨g,5,none⟩ (.int .i64 ((st+1:Nat):Int))=X) :
  cx X g B M F l bo ln lc n (st+1) code sites S bx bP bQ/\Mv g (.slice S code.length bx) (.slice bP sites.length bQ) w (.slice S code.length bx) (.slice bP sites.length bQ) X:=by
 exact zV
namespace AQ
theorem zW{p:Prop}(h:p:=by
 rw[<-hX];exact aK.bH 4 _
 ):p:=h
end AQ
open AQ in
theorem cx.locals(h:cx w g B M F l bo ln lc n st code sites S bx bP bQ){aQ:Int}(hX:w.setCell ⟨g,4,none⟩ (.int .i64 aQ)=X):
  cx X g B M F l bo ln lc aQ st code sites S bx bP bQ/\Mv g (.slice S code.length bx) (.slice bP sites.length bQ) w (.slice S code.length bx) (.slice bP sites.length bQ) X:=by
 exact zV
theorem cx.Di(h:cx w g B M F l bo ln lc n st code sites S bx bP bQ){aM:List dv}{a4:Kj}{aZ bi:Nat}(hn:aZ<=1000000)(hl:Sl w (off (Ms g (.slice S code.length bx) (.slice bP sites.length bQ)) w) a4 aZ (aM.map bR))(hX:w.setCell ⟨g,3,none⟩ (.slice a4 aZ bi)=X):
  cx X g B M F aM a4 aZ bi n st code sites S bx bP bQ/\Mv g (.slice S code.length bx) (.slice bP sites.length bQ) w (.slice S code.length bx) (.slice bP sites.length bQ) X:=by
 obtain⟨hM,aA,hG⟩:=h.own hX;obtain⟨GA,gn,gc,MA,mn,mc,FA,fn,fc,aK,cp,bE,cB,aI⟩:=h.blk;refine⟨⟨⟨GA,gn,gc,MA,mn,mc,FA,fn,fc,?_,cp,bE,cB.gW hM,aI.gW hM⟩,⟨h.base.1,JZ h.base.2 hM.fr.size⟩,⟨hn,hl.gW hM⟩,hG⟩,hM⟩;rw[<-hX];exact aK.bH 3 _
theorem cx.target(h:cx w g B M F l bo ln lc n st code sites S bx bP bQ)(O:b<code.length)(t:Int):∃aD,S=some ⟨aD,0,none⟩/\aD<w.heap.size/\w.frozen? ⟨aD,b*12+1,none⟩=false/\(∃u,w.cell? ⟨aD,b*12+1,none⟩=some (.int .i64 u))/\
  ∀X,w.setCell ⟨aD,b*12+1,none⟩ (.int .i64 t)=X->cx X g B M F l bo ln lc n st (fw code b t) sites S bx bP bQ/\Mv g (.slice S code.length bx) (.slice bP sites.length bQ) w (.slice S code.length bx) (.slice bP sites.length bQ) X:=by
 obtain⟨hl,xs,ac,ap⟩:=h.rows.one;obtain⟨aD,bu,C,br,Q,c3,ag⟩:=hj ac ad;have bH:xs.length=code.length*12:=by rw[D.h5 _ _ ap,D.hq (z:=12) (λd hd=>by obtain⟨x,_,rfl⟩:=J6.1 hd;exact lE x),JM]
 have aq:b*12+1<xs.length:=by rw[bH];omega
 have f:xs[b*12+1]?=some (xs[b*12+1]'aq):=List.getElem?_eq_getElem _;have hint:∃u,xs[b*12+1]?=some (.int .i64 u):=by
  have hm:(code.map dH)[b]?=some (dH (code[b]'O)):=by rw[List.getElem?_map,List.getElem?_eq_getElem O];rfl
  obtain⟨cs,aZ,a8,be⟩:=D.nB ap (z:=12) (λd hd=>by obtain⟨x,_,rfl⟩:=J6.1 hd;exact lE x) hm;unfold dH at aZ;rw[bK,bm] at aZ;obtain⟨y,rfl,aZ⟩:=aZ;rw[bm] at aZ;obtain⟨b3,rfl,aZ⟩:=aZ;exact⟨_,be 1 _ rfl⟩
 refine⟨aD,bu,br,c3 _,?_,λX hX=>?_⟩
 .obtain⟨u,hu⟩:=hint;exact⟨u,Q _ _ hu⟩
 have aE:(Value.slice S code.length bx).ownBlock=some aD:=by rw[bu];rfl
 have aA:=da hX;have hM:Mv g (.slice S code.length bx) (.slice bP sites.length bQ) w (.slice S code.length bx) (.slice bP sites.length bQ) X:=Mv.HH (aA.mono λb O=>by subst O;exact .inr (.inl aE));have a:¬(Value.slice bP sites.length bQ).ownBlock=some aD:=h.rows.ne aD aE;obtain⟨GA,gn,gc,MA,mn,mc,FA,fn,fc,aK,cp,bE,cB,aI⟩:=h.blk;refine⟨⟨⟨GA,gn,gc,MA,mn,mc,FA,fn,fc,?_,cp,bE,?_,?_⟩,⟨h.base.1,JZ h.base.2 hM.fr.size⟩,⟨h.names.1,?_⟩,?_⟩,hM⟩
 .rw[cm];exact aK.on aA (aC h.base.1)
 .rw[cm];exact cB.gW hM
 .rw[cm];exact aI.gW hM
 .rw[cm];exact h.names.2.gW hM
 .have bz:=ag (b*12+1) (.int .i64 t) ad;rw[hX] at bz;rw[cm];refine⟨⟨by rw[JM,cm],_,bz,?_⟩,?_,h.rows.ne⟩
  .refine qu t code xs b ?_ O;exact D.bZ (λb O=>⟨O.1,by have:=aA.size;have:=O.2.1;omega,O.2.2⟩) _ _ (D.bY (λb aN=>aA.block b aN.2.1 λhe=>aN.2.2 (by rw[aE,he])) _ _ ap)
  .exact h.rows.two.ek aA.size λb aq hp=>aA.block b aq λhe=>by
    subst he;rcases hp with hp|hp
    .exact hp.2 aE
    .exact a hp
end
theorem au.gW{w J:World}{g:Nat}{t:TypeId}{cs:Array Value}{cv sv a f:Value}(h:au w b t cs)(hn:¬Ms g cv sv b)(hM:Mv g cv sv w a f J):au J b t cs/\¬Ms g a f b:=
 ⟨h.on hM.fr hn,λhm=>hn (hM.own b h.lt hm)⟩
theorem ox(b:an):b.isNil=decide (b.list.length=0):=by cases b<;>simp[an.isNil,an.list]
theorem r8(b:an):(dw b).length=b.list.length:=by rw[cD,JM]
def CG(e:dv):List Value:=[.string e.name,.int .i64 e.kind,.int .i64 e.n]
theorem ir:cA prog 129 133 (.agg #[.string ⟨#[]⟩,.int .i64 0,.int .i64 0]) 3 32:=cA.mk' Tryz.underlying129 (by kernel_rfl) rfl ad
theorem jh{w:World}(e:dv):(bR e).rep w P (CG e):=hL.2 rfl
theorem kj{w:World}(l:List dv):D.aR w P (l.map bR) (l.flatMap CG):=lV jh l
theorem sd{w:World}{P Q:Nat->Prop}:∀{l:List dv} {xs:List Value},D.aR w P (l.map bR) xs->D.aR w Q (l.map bR) xs
 | [],xs,h=>by simpa only[J5,D.aR] using h
 | e::l,xs,h=>by
  rw[JO] at h ⊢;obtain⟨x,y,rfl,hx,aa⟩:=dm.1 h;exact dm.2 ⟨x,y,rfl,hL.2 (hL.1 hx),sd aa⟩
theorem j1{w:World}{n:Nat}{l:List dv}(h:Sl w (ao w) A n (l.map bR)):Src w 3 A n (l.flatMap CG):=
 Src.kL (Sl.H5 (f:=CG) (sz:=3) (λ_ _ _ _ h=>hL.1 h) (λ_=>rfl) h) (λ_ _=>rfl) (λx _ u hu=>by
  simp only[CG,JY,List.not_mem_nil,or_false] at hu;rcases hu with rfl|rfl|rfl<;>rfl) ad
theorem hh{w aL:World}{g B:Nat}{M:List bI}{F:List a1}{l:List dv}{bo:Kj}{ln lc:Nat}{n:Int}{st:Nat}{code:List ax}{sites:List Int}{S:Kj}{bx:Nat}{bP:Kj}{bQ:Nat}(h:cx w g B M F l bo ln lc n st code sites S bx bP bQ)(hd:d.rep aL (fresh w aL) cs):
  d.rep aL (IQ B g (.slice S code.length bx) (.slice bP sites.length bQ) aL) cs:=by
 have aq:=h.lt;have z:=h.base;refine D.aA (λb O=>⟨by have:=O.1;omega,O.2,λhm=>?_⟩) _ _ hd;have ac:=O.1;rcases hm with hm|hm|hm
 .omega
 .have:=(h.rows.one.lt hm).2;omega
 .have:=(h.rows.two.lt hm).2;omega
theorem ki{w:World}{op t:Int}{g:Bool}{e:VE}{eo en:Int}{es:ByteArray}{EA:Kj}{em ec:Nat}(h:(bB e).rep w P [.int .i64 eo,.int .i64 en,.string es,.slice EA em ec]):
  (dH ⟨op,t,g,some e,jB,[],[]⟩).rep w P [.int .i64 op,.int .i64 t,.bool g,.int .i64 eo,.int .i64 en,.string es,.slice EA em ec,.bool false,.int .i64 0,.slice none 0 0,.slice none 0 0,.slice none 0 0]:=by
 unfold dH;rw[bK];exact bm.2 ⟨_,rfl,bm.2 ⟨_,rfl,eN.2 ⟨_,rfl,dm.2 ⟨[_,_,_,_],_,rfl,h,mW (aO.2 ⟨none,0,0,_,rfl,JI _,Sl.c7 _,aO.2 ⟨none,0,0,[],rfl,JI _,Sl.c7 _,aS.2 rfl⟩⟩)⟩⟩⟩⟩
theorem tZ{w:World}{op t:Int}{g:Bool}{p:bN}{pb:Bool}{pi:Int}{PA:Kj}{pm pc:Nat}(h:(c8 p).rep w P [.bool pb,.int .i64 pi,.slice PA pm pc]):
  (dH ⟨op,t,g,none,p,[],[]⟩).rep w P [.int .i64 op,.int .i64 t,.bool g,.int .i64 0,.int .i64 0,.string ⟨#[]⟩,.slice none 0 0,.bool pb,.int .i64 pi,.slice PA pm pc,.slice none 0 0,.slice none 0 0]:=by
 unfold dH;rw[bK];exact bm.2 ⟨_,rfl,bm.2 ⟨_,rfl,eN.2 ⟨_,rfl,oX (dm.2 ⟨[_,_,_],_,rfl,h,aO.2 ⟨none,0,0,_,rfl,JI _,Sl.c7 _,aO.2 ⟨none,0,0,[],rfl,JI _,Sl.c7 _,aS.2 rfl⟩⟩⟩)⟩⟩⟩
def kP(U:gJ)(nk:Int)(F:List a1)(b:an):Prop:=
 ∀(G:Env) (d:Nat) (l:List dv) (V T:Kk) (n:Int) (st:Nat) (code:List ax) (sites:List Int) (g B:Nat) (bo:Kj) (ln lc:Nat) (S:Kj) (bx:Nat) (bP:Kj) (bQ:Nat) (A:Kj) (m c:Nat) (w:World),
  gr G d V T b->Sc U G l V T n nk->tg F G l->(∀f∈F,f.params.length<=1000)->cx w g B U.af F l bo ln lc n st code sites S bx bP bQ->Sl w (off (Ms g (.slice S code.length bx) (.slice bP sites.length bQ)) w) A m (dw b)->
  code.length+2*b.num<=100000->sites.length=code.length->n+b.num<=100000->st+b.num<=100000->l.length+b.num<=100000->
  Calls prog 108 #[.pointer (some ⟨g,0,none⟩),.slice A m c] w λe J=>e=.returned (.tuple #[])/\∃ah ai aR aT y,y.length=(ds b l n code).1.length/\
   cx J g B U.af F l bo ln lc (ds b l n code).2 (st+b.num) (ds b l n code).1 y ah ai aR aT/\
   Mv g (.slice S code.length bx) (.slice bP sites.length bQ) w (.slice ah (ds b l n code).1.length ai) (.slice aR y.length aT) J
section
attribute [local go_sem ↓] fH fI
def ee(X:List bI)(threads:Int)(i:Nat)(h:cp):Bool:=
 !(decide (h.owner<0) || decide (threads<h.owner) || ((h.owner == 0) != (h.depth == 0)) || decide (h.depth<0) || (decide (1<h.depth) && !uR X (bh X i)))
def gq(X:List bI)(T:List cp)(threads:Int):Bool:=decide (T.length=(own X).length) && (List.range T.length).all λi=>ee X threads i (jm T i)
theorem vw{X:List bI}(h:T.length≠(own X).length):gq X T threads=false:=by
 unfold gq;rw[decide_eq_false h];rfl
theorem vv{X:List bI}{k:Nat}{hd:cp}(hx:T[k]?=some hd)(h:ee X threads k hd=false):gq X T threads=false:=by
 unfold gq;have aj:=(List.getElem?_eq_some_iff.1 hx).1;have bu:jm T (k:Int)=hd:=by unfold jm;rw[J3,hx];rfl
 rw[Bool.and_eq_false_iff];right;rw[List.all_eq_false];exact⟨k,List.mem_range.2 aj,by rw[bu,h];simp⟩
theorem m0{X:List bI}(hl:T.length=(own X).length)(h:∀k hd,T[k]?=some hd->ee X threads k hd=true):gq X T threads=true:=by
 unfold gq;rw[decide_eq_true hl,Bool.true_and,List.all_eq_true];intro k aj;have aj:=List.mem_range.1 aj;refine h k _ ?_;unfold jm;rw[J3,List.getElem?_eq_getElem aj];rfl
theorem xF(A bg:Kj)(n c n2 c2:Nat)(X:List bI)(T:List cp)(th:Int)(w:World)(h:cB (EF fO) 3 w w.heap.size A n X)(hX:l5 X)
  (ht:cB (EF bA) 2 w w.heap.size bg n2 T) :
  Calls prog 37 #[.slice A n c,.slice bg n2 c2,.int .i64 th] w λr J=>r=.returned (.bool (gq X T th))/\Below w.heap.size w J:=by
 have hl:=h.1;have bZ:=ht.1;have al:=cq hX;have l:=dR X;go_enter func37,ntmps37;go_wp2_with(fail);refine(g4 A n c X w h hX).mono ?_;rintro r aL ⟨rfl,O⟩;rw[<-l];generalize bo:(own X).length=N at *;by_cases aH:n2=N
 case neg=>
  have a2:=ae (show gq X T th=false from vw ad);have v:(n2 != N)=true:=by simpa using aH
  have m:((n2:Int) != (N:Int))=true:=by simp;omega
  clear hl bZ bo l aH;exact Cm
 subst aH;have bW:=ae (show T.length=(own X).length by omega);obtain⟨K,Q,y⟩:=eS l bZ hl;clear hl bZ bo l;have aT:((n2:Int) != (n2:Int))=false:=by simp
 go_wp2;go_loopw [16] (λi wr=>∃k:Nat,k<=n2/\i=.int .i64 k/\(∀j hd,j<k->T[j]?=some hd->ee X th j hd=true)/\Below w.heap.size w wr) (λi _=>n2 - (intOf i).toNat)
 case atStart=>exact⟨0,J4 _,rfl,λj hd be=>absurd be ad,O⟩
 case round=>
  obtain⟨k,aj,rfl,bK,aN⟩:=hrel;have ay:=ae bK;clear bK;by_cases aq:k<n2
  .obtain⟨b,o,hd,rfl,H,hx,c0,c1⟩:=(ht.ep aN).hold aq;have G:=aN.size;have aJ:=ae hx;have e:Kl (ee X th k hd=false->gq X T th=false):=ae λac=>vv aJ.o ac;clear hx;by_cases e1:hd.owner<0
   .have a2:=ae (e.o (by unfold ee;simp[e1]));exact r4
   by_cases e2:th<hd.owner
   .have a2:=ae (e.o (by unfold ee;simp[e2]));exact r4
   by_cases f1:hd.owner=0
   .have bX:(hd.owner == 0)=true:=by simpa using f1
    by_cases f2:hd.depth=0
    .have g2:(hd.depth == 0)=true:=by simpa using f2
     have av:=ae (show ee X th k hd=true by unfold ee;rw[bX,g2];simp;omega);have f3:¬hd.depth<0:=ad;have f4:¬1<hd.depth:=ad;clear f1 f2;exact FI
    .have g2:(hd.depth == 0)=false:=by simpa using f2
     have a2:=ae (e.o (by unfold ee;rw[bX,g2];simp));clear f1 f2;exact r4
   have bX:(hd.owner == 0)=false:=by simpa using f1
   by_cases f2:hd.depth=0
   .have g2:(hd.depth == 0)=true:=by simpa using f2
    have a2:=ae (e.o (by unfold ee;rw[bX,g2];simp));clear f1 f2;exact r4
   have g2:(hd.depth == 0)=false:=by simpa using f2
   by_cases cn:hd.depth<0
   .have a2:=ae (e.o (by unfold ee;simp[cn]));exact r4
   by_cases ci:1<hd.depth
   case neg=>
    have av:=ae (show ee X th k hd=true by unfold ee;rw[bX,g2];simp[e1,e2,cn,ci]);exact FI
   have P:0<=bh X (k:Int):=k4 ad (aC K.o);obtain⟨i,t,I,u,_⟩:=lL P;have E:i<n:=by have:=(List.getElem?_eq_some_iff.1 u).1;have:=y.o;omega
   have S:uR X (bh X (k:Int))=t.re:=by rw[I];unfold uR;rw[J3,u];rfl
   obtain⟨s,b2,F⟩:=eS S I u;clear S I u P;go_wp2_with(fail);have f:=aN.alloc G (.cells #[.int .i64 hd.owner,.int .i64 hd.depth] 89);refine(mV A n c X k _ (h.eQ f f.size) hX ad).mono ?_;rintro r aV ⟨rfl,bv⟩;have aE:=f.trans (bv.mono f.size);obtain⟨Y,ai,L,rfl,g,d,d0,d1,d2⟩:=(h.ep aE).HF E;obtain rfl:t=L:=by have:=F.o;rw[d] at this;injection this with this;exact this.symm
   clear d;rw[b2.o]
   cases aZ:t.re with
   | false=>
    have a2:=ae (e.o (by unfold ee;rw[s.o,aZ];simp[ci]));rw[aZ] at d1;clear aZ;go_wp2;go_ret
    exact⟨ret_bool (by rw[a2.o]),aE⟩
   | true=>
    have av:=ae (show ee X th k hd=true by unfold ee;rw[s.o,aZ,bX,g2];simp[e1,e2,cn]);rw[aZ] at d1;clear aZ;go_wp2;go_roundw
    case rel=>
     refine⟨k+1,ad,by go_num,λj D be d=>?_,aE⟩;by_cases z:j<k
     .exact ay.o j D z d
     .obtain rfl:j=k:=ad;rw[aJ.o] at d;injection d with d;rw[<-d];exact av.o
    case measure=>exact aU
  .obtain rfl:k=n2:=ad;have a2:=ae (show gq X T th=true from m0 bW.o λj hd hx=>ay.o j hd (by have:=(List.getElem?_eq_some_iff.1 hx).1;have:=Q.o;omega) hx);go_wp2;go_ret;exact⟨ret_bool (by rw[a2.o]),aN⟩
end
def m1(u:ay)(s:ah)(t:Int):Option (Int×Int):=
 match dJ s t,dD u s t with
 | some f,some x=>if x.op=4 then
   if (bu u s f x.place).2≠0 then none else if free u.af s.table (bu u s f x.place).1 t=true then none
   else some ((bu u s f x.place).1,(jm s.table (bu u s f x.place).1).owner - 1) else none
 | _,_=>none
def HX(u:ay)(s:ah)(t:Int):Bool:=(dD u s t).isSome && (m1 u s t).isNone
section
variable {u:ay} {D:Nat} {s:ah} {t:Int}
theorem so(h:dJ s t=none):dD u s t=none:=by unfold dD;rw[h];rfl
theorem ll(h:m1 u s t=some r):∃f x,dJ s t=some f/\dD u s t=some x/\x.op=4/\(bu u s f x.place).2=0/\free u.af s.table (bu u s f x.place).1 t=false/\
  r=((bu u s f x.place).1,(jm s.table (bu u s f x.place).1).owner - 1):=by
 unfold m1 at h;split at h
 .rename_i f x aA hx;split at h
  .rename_i cf;split at h
   .cases h
   .rename_i a;split at h
    .cases h
    .rename_i bO;injection h with h;exact⟨f,x,aA,hx,cf,ad,by simpa using bO,h.symm⟩
  .cases h
 .cases h
theorem Ed(hU:de u)(hS:aV u D s):HX u s t=(bM u s t).2:=by
 unfold HX m1 bM
 cases aA:dJ s t with
 | none=>rw[so aA];rfl
 | some f=>
  cases hx:dD u s t with
  | none=>rfl
  | some x=>
   simp only[Option.isSome_some,Bool.true_and];unfold bU;by_cases ac:x.op=1\/x.op=6
   .rw[if_pos ac,if_neg ad];simp only[]
    repeat' split
    all_goals rfl
   .rw[if_neg ac];by_cases ap:x.op=2\/x.op=3
    .rw[if_pos ap,if_neg ad];simp only[]
     repeat' split
     all_goals rfl
    .rw[if_neg ap];by_cases bt:x.op=4
     .rw[if_pos bt,if_pos (Or.inl bt)];simp only[bt,if_true]
      repeat' split
      all_goals first|rfl|simp_all
     .rw[if_neg bt];simp only[]
      repeat' split
      all_goals first|rfl|omega
def jr:VE->Prop
 | .hP _=>False
 | .un _ x=>jr x
 | .bin _ x y=>jr x/\jr y
 | _=>True
theorem kk(g ak l:List Int):∀x:VE,jr x->ev g l x=ev ak l x
 | .num _,_=>rfl
 | .eP _,_=>rfl
 | .loc _,_=>rfl
 | .hP _,h=>h.elim
 | .un op x,h=>by
  have ab:=kk g ak l x h
  simp only[ev,ab]
 | .bin op x y,h=>by
  have c:=kk g ak l x h.1;have i:=kk g ak l y h.2;simp only[ev,c,i]
structure vD(u:ay)(s:ah)(t e o:Int):Prop where
 waits:m1 u s t=some (e,o)
 o0:0<=o
 jr:∀x v,dD u s t=some x->x.place.at_=some v->jr v
theorem tX{aB:ah}{f:ai}{p:bN}(h:∀v,p.at_=some v->jr v):bu u aB f p=bu u s f p:=by
 have I:cF u aB f p=cF u s f p:=by
  unfold cF
  cases hp:p.at_ with
  | none=>rfl
  | some v=>simp only[kk aB.globals s.globals f.ints v (h v hp)]
 unfold bu;rw[I]
theorem vD.al{aB:ah}(h:vD u s t e o)(ht:dJ aB t=dJ s t)(an:jm aB.table e=jm s.table e):vD u aB t e o:=by
 obtain⟨f,x,aA,hx,cf,a,bO,aZ⟩:=ll h.waits;have d:dD u aB t=some x:=by
  unfold dD at hx ⊢;rw[ht];exact hx
 have he:=tX (u:=u) (s:=s) (aB:=aB) (f:=f) (p:=x.place) λv bD=>h.jr x v hx bD;injection aZ with L H;refine⟨?_,h.o0,λy v aa bD=>?_⟩
 .unfold m1;rw[ht,aA,d];simp only[];rw[if_pos cf,he,if_neg ad];have b:free u.af aB.table (bu u s f x.place).1 t=false:=by
   rw[<-L];rw[<-L] at bO;unfold free at bO ⊢;rw[an];exact bO
  rw[if_neg (by simp[b]),<-L,an,<-L] at *;simp[H]
 .rw[d] at aa;injection aa with aa;subst aa;exact h.jr x v hx bD
theorem g6{l:List (List ai)}{i j:Nat}{g:List ai->List ai}(h:i≠j):(l.modify i g)[j]?=l[j]?:=by
 rw[List.getElem?_modify]
 cases l[j]? with
 | none=>rfl
 | some y=>simp[h]
theorem s6{s aB:ah}(aA:aB.fault=s.fault)(h:aB.threads[t.toNat]?=s.threads[t.toNat]?):dJ aB t=dJ s t:=by
 unfold dJ;rw[aA,h]
theorem vc(hU:de u)(ht:0<=t/\t<s.threads.length)(hp:p≠t)(aC:s.fault=0)(aA:(bM u s p).1.fault=0):dJ (bM u s p).1 t=dJ s t:=by
 refine s6 (aA.trans aC.symm) ?_;unfold bM at aA ⊢
 cases bx:dJ s p with
 | none=>rfl
 | some f=>
  have m:0<=p:=(jb bx).2.1;have aH:p.toNat≠t.toNat:=ad
  cases hx:dD u s p with
  | none=>rfl
  | some x=>
   simp only[];unfold bU;simp only[]
   repeat' split
   all_goals simp only[bg,oR,sH]
   all_goals first
    | rfl
    | exact g6 aH
    | (rw[g6 aH];exact g6 aH)
    | (rw[List.getElem?_append_left (by rw[List.length_modify];omega)];exact g6 aH)
theorem Da{X:List bI}{l:Int}(h0:0<=bh X e\/True)(he:0<=e)(bb:(jm T e).owner≠0)(hp:(jm T e).owner≠p+1):jm (eV X T l p) e=jm T e:=by
 unfold eV;split
 .rename_i bO;by_cases g:l=e
  .subst g;unfold free at bO;simp[bb,hp] at bO
  .have a:0<=l:=by
    unfold free at bO;simp only[JU,Kc] at bO;exact(fp.1 bO.1.1).1
   unfold jm;rw[List.getElem?_set_ne ad]
 .rfl
theorem vt{X:List bI}{l:Int}(he:0<=e)(hp:(jm T e).owner≠p+1):jm (cJ X T l p) e=jm T e:=by
 unfold cJ;split
 .rename_i an;by_cases g:l=e
  .subst g;unfold heldBy at an;simp[hp] at an
  .have a:0<=l:=by
    unfold heldBy at an;simp only[JU,Kc] at an;exact(fp.1 an.1.1).1
   unfold jm;rw[List.getElem?_set_ne ad]
 .rfl
theorem vd(he:0<=e)(bb:(jm s.table e).owner≠0)(hp:(jm s.table e).owner≠p+1):jm (bM u s p).1.table e=jm s.table e:=by
 unfold bM
 cases bx:dJ s p with
 | none=>rfl
 | some f=>
  cases hx:dD u s p with
  | none=>rfl
  | some x=>
   simp only[];unfold bU;simp only[]
   repeat' split
   all_goals first
    | rfl
    | exact Da (.inr trivial) he bb hp
    | exact vt he hp
theorem jx(h:(bM u s t).2=false):(bM u s t).1=s:=by
 unfold bM at h ⊢
 cases bx:dJ s t with
 | none=>rfl
 | some f=>
  cases hx:dD u s t with
  | none=>rfl
  | some x=>
   rw[bx,hx] at h;simp only[] at h ⊢;unfold bU at h ⊢;simp only[] at h ⊢
   repeat' split
   all_goals first
    | rfl
    | (exfalso;simp_all;done)
    | (exfalso;revert h;repeat' split;all_goals simp_all)
theorem s8(hU:de u)(hS:aV u D s)(h:m1 u s t=some (e,o)):0<=e/\(jm s.table e).owner=o+1/\0<=t/\t<s.threads.length:=by
 obtain⟨f,x,aA,hx,cf,a,bO,aZ⟩:=ll h;injection aZ with L H;have ht:=hS.top aA;refine⟨?_,by rw[L];omega,ht.2.1,ht.2.2⟩;obtain⟨p,y,hp,S,aa,len,hlen,I,_⟩:=ov hU ht.1;have c:x=y:=by
  unfold dD at hx;rw[aA] at hx;simp only[Option.bind_some,hp,aa,Ka] at hx;exact hx.symm
 subst c;obtain⟨q,bx,_,_,aj⟩:=ht.1.ex;rw[hp] at bx;injection bx with bx;subst bx;have bB:cQ (bp u) p.locals p.aq x.place:=by
  rcases I with⟨ac,_⟩|⟨ac,_⟩|⟨ac,_,ap⟩|⟨ac,_⟩|⟨ac,_⟩|⟨ac,_⟩
  .omega
  .omega
  .exact ap
  .omega
  .omega
  .omega
 have:=(iJ (s:=s) hU ht.1 ad bB).2 ad;rw[L];exact this.1
theorem rP(h:m1 u s t=some r):HX u s t=false:=by unfold HX;rw[h];simp
def nM(u:ay)(s:ah)(d:List Int):Prop:=∀t∈d,∃e o,vD u s t e o/\o∈d
theorem nM.step{d:List Int}(hU:de u)(hS:aV u D s)(h:nM u s d)(p:Int)(aA:(bM u s p).1.fault=0):nM u (bM u s p).1 d:=by
 by_cases hp:p∈d
 .obtain⟨e,o,hs,_⟩:=h p hp;rw[jx (by rw[<-Ed hU hS];exact rP hs.waits)];exact h
 .intro t ht;obtain⟨e,o,hs,bb⟩:=h t ht;obtain⟨f,x,ax,_⟩:=ll hs.waits;obtain⟨ac,ap,aD,bt⟩:=s8 hU hS hs.waits;have dK:p≠t:=λe=>hp (by rw[e];exact ht);have dl:p≠o:=λe=>hp (by rw[e];exact bb);have h0:=hs.o0;exact⟨e,o,hs.al (vc hU ⟨aD,bt⟩ dK (jb ax).1 aA) (vd ac ad ad),bb⟩
end
end Go.Proofs.YtnigabjngpnbiaaGreat

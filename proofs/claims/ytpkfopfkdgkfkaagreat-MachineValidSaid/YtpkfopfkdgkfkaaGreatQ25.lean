/- Part 25 of the proof. No condition of its own. -/
import Derived.Test.YtpkfopfkdgkfkaaGreatQ20
namespace Go.Proofs.YtpkfopfkdgkfkaaGreat
open Go.RowKit Go.Proofs.Tryz
set_option maxRecDepth 1000000
set_option maxHeartbeats 25600000
set_option linter.unusedVariables false
variable{d:D}{t:Int}{cs:List Value}{b:Nat}{P:Nat->Prop}{A:Mt}{p:Prop}
def FP(w:World)(x:aC)(e:Ending)(ab:World):Prop:=
 ∃(IA:Mt) (i ic:Nat) (bw:Mt) (k lc:Nat),e=.returned (.agg (fJ x.op x.target x.dv IA i ic bw k lc))/\(ew x).rep ab (fresh w ab) (fJ x.op x.target x.dv IA i ic bw k lc).toList/\Ext w ab
structure kC(w wr:World)(l:List dQ)(op ah:Int)(aJ:Array Value)(aW:List dt)(k:Nat)(IA:Mt)(i ic:Nat)(bw:Mt)(j lc:Nat):Prop where
 ext:Ext w wr
 b4:au wr w.heap.size 151 aJ
 b6:au wr (w.heap.size+1) 122 (fJ 0 0 false none 0 0 none 0 0)
 b7:au wr (w.heap.size+2) 122 (fJ op ah false IA i ic bw j lc)
 g2:lA (w.heap.size+3) 117 4 119 3 wr IA i ic ((bW l (aW.take k)).map bm) bw j lc ((cG l (aW.take k)).map dy)
section
variable {w wr aS aT X:World} {l:List dQ} {op ah:Int} {aJ:Array Value} {aW:List dt} {k:Nat} {IA:Mt} {i ic:Nat} {bw:Mt} {j lc:Nat}
theorem n8{own:Nat->Prop}{g:Nat}(h:Ext w wr)(he:Ext wr aS)(J:Fr own aS aT)(ao:∀b,own b->w.heap.size<=b)(aR:w.heap.size<=g)(hX:Fr (λb=>b=g) aT X):Ext w X:=by
 have e1:Fr (λb=>w.heap.size<=b) w X:=Fr.trans (Fr.mono h λ_ h=>h.elim) (Fr.trans (Fr.mono he λ_ h=>h.elim) (Fr.trans (J.mono ao) (hX.mono λb O=>by subst O;exact aR)));exact e1.low λ_ h=>h
theorem kC.place(h:kC w wr l op ah aJ aW k IA i ic bw j lc)(he:Ext wr aS){r:e4}(aZ:aW[k]?=some (.mx r)){df:Mt}{dg:Nat}
  (aR:Gr (λb=>w.heap.size+3<=b/\(Value.slice IA i ic).ownBlock≠some b) (w.heap.size+3) 119 3 aT df (j+1) dg ((cG l (aW.take k)).map dy++[dy (mh l r)]))
  (J:Fr (λb=>(Value.slice bw j lc).ownBlock=some b) aS aT) (bn:dB aS bw j lc df (j+1) dg) (hX:aT.setCell ⟨w.heap.size+2,11,none⟩ (.slice df (j+1) dg)=X) :
  kC w X l op ah aJ aW (k+1) IA i ic df (j+1) dg:=by
 have b4:=cp hX;have an:∀b,(Value.slice bw j lc).ownBlock=some b->w.heap.size+3<=b:=λb O=>(h.g2.two.lt O).1;refine⟨n8 h.ext he J (λb O=>by have:=an b O;omega) ad b4,?_,?_,?_,?_⟩
 .exact((h.b4.aj he).on J λO=>by have:=an _ O;omega).on b4 ad
 .exact((h.b6.aj he).on J λO=>by have:=an _ O;omega).on b4 ad
 .rw[<-hX];exact((h.b7.aj he).on J λO=>by have:=an _ O;omega).aN 11 _
 .have e1:bW l (aW.take (k+1))=bW l (aW.take k):=by rw[aY aZ,(ia l _ _).1];simp[bW]
  have e2:(cG l (aW.take (k+1))).map dy=(cG l (aW.take k)).map dy++[dy (mh l r)]:=by rw[aY aZ,(ia l _ _).2];simp[cG]
  rw[e1,e2];exact(((h.g2.aj he).swap.grow aR J bn).swap).cZ b4 λb O _=>ad
theorem kC.int(h:kC w wr l op ah aJ aW k IA i ic bw j lc)(he:Ext wr aS){x:VE}(aZ:aW[k]?=some (.ex x)){cD:Mt}{cT:Nat}
  (aR:Gr (λb=>w.heap.size+3<=b/\(Value.slice bw j lc).ownBlock≠some b) (w.heap.size+3) 117 4 aT cD (i+1) cT ((bW l (aW.take k)).map bm++[bm (bP l x)]))
  (J:Fr (λb=>(Value.slice IA i ic).ownBlock=some b) aS aT) (bn:dB aS IA i ic cD (i+1) cT) (hX:aT.setCell ⟨w.heap.size+2,10,none⟩ (.slice cD (i+1) cT)=X) :
  kC w X l op ah aJ aW (k+1) cD (i+1) cT bw j lc:=by
 have b4:=cp hX;have an:∀b,(Value.slice IA i ic).ownBlock=some b->w.heap.size+3<=b:=λb O=>(h.g2.one.lt O).1;refine⟨n8 h.ext he J (λb O=>by have:=an b O;omega) ad b4,?_,?_,?_,?_⟩
 .exact((h.b4.aj he).on J λO=>by have:=an _ O;omega).on b4 ad
 .exact((h.b6.aj he).on J λO=>by have:=an _ O;omega).on b4 ad
 .rw[<-hX];exact((h.b7.aj he).on J λO=>by have:=an _ O;omega).aN 10 _
 .have e1:cG l (aW.take (k+1))=cG l (aW.take k):=by rw[aY aZ,(ia l _ _).2];simp[cG]
  have e2:(bW l (aW.take (k+1))).map bm=(bW l (aW.take k)).map bm++[bm (bP l x)]:=by rw[aY aZ,(ia l _ _).1];simp[bW]
  rw[e1,e2];exact((h.g2.aj he).grow aR J bn).cZ b4 λb O _=>ad
end
theorem uc{V aS:World}{B:Nat}{I:Mt}{n c a6 aE:Nat}(h:d.rep aS (fresh V aS) cs)(aQ:B<=V.heap.size)(ac:∀b,(Value.slice A n c).ownBlock=some b->b<V.heap.size)(ap:∀b,(Value.slice I a6 aE).ownBlock=some b->b<V.heap.size):
  d.rep aS (lh (λb=>B<=b/\(Value.slice I a6 aE).ownBlock≠some b) aS (.slice A n c)) cs:=
 D.aK (λb O=>⟨⟨L6 aQ O.1,λhc=>by have:=ap b hc;have:=O.1;omega⟩,O.2,λhc=>by have:=ac b hc;have:=O.1;omega⟩) _ _ h
theorem Ef(ei:vo)(g:Nat)(l:List dQ)(M:List bM)(F:List aL)(bB:Bool)(s:ByteArray)(aW:List dt)(v:dQ)(f:aL)(J:dJ l s=some v)(aj:v.kind=3)(h0:0<=v.n)(hF:F[v.n.toNat]?=some f)(ca:jl M l f.params aW)(ja:f.params.length<=1000)
  (eo en:Int) (es:ByteArray) (EA:Mt) (em ec:Nat) (rs:ByteArray) (cM:Mt) (di rc:Nat) (cR:Mt) (n1 c1:Nat) (A2:Mt) (n2 c2:Nat) (cC:Mt) (n3 c3:Nat) (st:Int)
  (w:World) (bD:tF w g l) (hM:yy w g M) (ck:zz w g F) (hs:Sl w (aq w) cR n1 (aW.map eU)) :
  Calls prog 121 #[.pointer (some ⟨g,0,none⟩),.agg #[.int .i64 (if bB then 4 else 3),s,eo,en,es,.slice EA em ec,rs,.slice cM di rc,.slice cR n1 c1,.slice A2 n2 c2,.slice cC n3 c3],st] w
   (FP w (lJ bB v.n (bW l aW) (cG l aW))):=by
 have hlen:=lY ca;have c8:aW.length=n1:=by rw[<-hs.1,LO]
 obtain⟨aY,b3,cz,b6,cU,cA,bt⟩:=DE ca J hF bD hM ck hs;obtain⟨bd,cL,bS⟩:=v;simp only at aj h0 hF;subst aj;obtain⟨ah,rfl⟩:=LP h0;clear hs bD hM ck ca J hF h0;obtain⟨op,cw⟩:∃op:Int,op=if bB then 3 else 2:=⟨_,rfl⟩
 have hx:lJ bB (ah:Int) (bW l aW) (cG l aW)=⟨op,ah,false,none,kn,bW l aW,cG l aW⟩:=by rw[cw];rfl
 rw[hx];clear hx;obtain⟨bQ,az⟩:∃bQ:Int,bQ=if bB then 4 else 3:=⟨_,rfl⟩
 have cW:(bQ == 4)=bB:=by rw[az];cases bB<;>rfl
 rw[<-az];clear az;go_enter func121,ntmps121;cases bB
 all_goals
  simp only[if_true,Mm,if_false] at cw;go_upto_region 4 with(fail);generalize ba:World.alloc _ _=W;have aw:=lD ba;have bZ:=jx ba;have cH:=h6 ba;have a5:au W (w.heap.size+2) 122 (fJ op 0 false none 0 0 none 0 0):=by rw[<-ba,cw];exact au.gX _ _ _ (by simp)
  clear ba cw;obtain⟨br,T,bE,fE⟩:=iY aw bZ cH a5;obtain⟨aR,bw,ln,lc,dw,cP,y⟩:=b6.on aw;have cu:=ae y;obtain⟨a0,ai,af⟩:=bZ.two;clear aw bZ cH a5 y;refine r0 (λ_=>False) [6,11] (.free 0 (.free 1 (.free 2 (.held 3 (.free 4 (.held 5 (.pick [6,10] (λi=>bif i == 6 then .free 7 (.free 8 (.free 9 (.pick [10] (λ_=>.pick [11] (λ_=>.free 12 (.stop)))))) else .pick [6] (λ_=>.free 7 (.free 8 (.free 9 (.pick [11] (λ_=>.free 12 (.stop)))))))))))))) ?_
  iterate 3 refine tf ?_
  refine th ?_;refine tf ?_;refine th ?_;refine lz (P:=?_) (ops:=?_) (Q:=?_) (R:=?_) (tails:=?_) (rest:=.pick [11] (λ_=>.free 12 (.stop))) (aa:=?_) (C:=λdh V=>Ext W V/\au V dh 105 #[Mq,(0:Int),(0:Int)]/\W.heap.size<=dh) (λkey=>?_) ?_
  rotate_left 6
  ·
   refine a2 ?_ ?_
   ·
    refine bR rfl (λK hK=>?_) rfl;go_simp;refine(ej bw ln lc l s W.drew (cu.on (Fr.ext Mo.drew)) dw).mono ?_;rintro e aS ⟨rfl,ar⟩;rw[b3.o];simp only[jb,q9];refine dX hK ?_;clear hK K
    iterate 3 refine tf ?_
    refine av ?_;refine eu ?_;generalize hV:World.alloc _ _=V;have aQ:=aI hV;have bo:Ext W V:=hV▸(Fr.aG ar).alloc _;have hle:=(Fr.aG ar).size;clear hV ar;generalize aS.heap.size=dh at *;exact key dh V ⟨bo,aQ,hle⟩
   ·
    refine eu ?_;refine av ?_;refine bR rfl (λK hK=>?_) rfl;go_simp;generalize hV:World.alloc _ _=V;have aQ:=aI hV;have bo:=aU hV;clear hV;refine(ej bw ln lc l s V.drew (cu.on (Fr.ext bo.drew)) dw).mono ?_;rintro e aS ⟨rfl,ar⟩;rw[b3.o];simp only[jb,q9];refine dX hK ?_;clear hK K
    iterate 3 refine tf ?_
    have cK:=aQ.aj (Fr.aG ar);have aO:=bo.trans (Fr.aG ar);clear aQ bo ar;exact key W aS ⟨aO,cK,LK _⟩
  ·
   rintro dh V ⟨bo,b8,ak⟩;have cN:=fE.lt;obtain⟨bq,am,aG⟩:=b8.two;clear a0 ai af cP;refine av ?_;refine bR rfl (λK hK=>?_) rfl;go_simp;refine dX hK ?_;clear hK K;refine tf ?_;refine ch ?_;generalize hX:World.setCell _ _ _=X;obtain⟨bp,bu,_⟩:=pX b8 bo ak hX;have a8:=ae (br.trans bu);have be:=ae (T.aj bu);have u:=ae (bE.aj bu);have m:=fE.aj bu;have bz:=ae m;clear hX bq am aG b8 bo bu;obtain⟨bq,am,aG⟩:=bp.two;obtain⟨a0,ai,af⟩:=m.two;clear m;go_upto_region 12 with(fail);generalize co:World.setCell _ _ _=Y;have cr:=u.lt;have bx:=cp co;have aX:au Y (w.heap.size+2) 122 (fJ op ah false none 0 0 none 0 0):=co▸bz.aN 1 _;have a7:Ext w Y:=(Fr.trans (a8.mono λ_ h=>h.elim) bx).low (λb hm=>ad);have N:=be.on bx ad;have aN:=u.on bx ad;obtain⟨cd,bC,bf,cc⟩:=iY a7 N aN aX;have bV:=bp.on bx ad;obtain⟨cl,FA,fn,fc,bi,f3,cI⟩:=cA.o;have bN:F[ah]?=some f:=by have:=cz.o;simpa using this
   have aE:ah<fn:=by have ac:=(List.getElem?_eq_some_iff.1 bN).1;have ap:=cI.1;rw[LO] at ap;omega
   obtain⟨cm,da,S,cs,rfl,cy,z,cg,bG,bk⟩:=cI.hf nt aE;rw[bN] at z;injection z with z;subst z;obtain⟨PA,pn,pc,ce,bn,bc,rfl,dc,cx,bO,_⟩:=k5.1 cg;replace f3:=(a7.cell cl (λh=>h)).trans f3
   have f4:=(a7.cell cy (λh=>h)).trans (bk 1 _ rfl);have U:=a7.size;have a6:cm<Y:=LL cy U;have eh:g<Y:=LL cl U;have dW:f.params.length=pn:=by rw[<-bO.1,LO]
   have b7:=ae bO;obtain⟨bq,am,aG⟩:=bV.two;obtain⟨a0,ai,af⟩:=N.two;obtain rfl:n1=pn:=ad;have bU:=ae (show kC w Y l op ah #[bQ,s,eo,en,es,.slice EA em ec,rs,.slice cM di rc,.slice cR n1 c1,.slice A2 n2 c2,.slice cC n3 c3] aW 0 none 0 0 none 0 0 from
    ⟨a7,N,aN,aX,lA.nil _ _ _ _ _ _⟩)
   clear co bx a7 aN aX bp cI cg bG bk bO cy a8 be u bz ak N bV cd bC bf cc;go_wp2;refine eJ (λ_=>False) [(0,3),(1,3),(2,3),(3,3),(4,0),(5,3),(6,0),(7,3),(8,3),(9,0),(10,3)] ?_
   iterate 4 refine pf ?_
   refine ph ?_;refine pf ?_;refine ph ?_
   iterate 2 refine pf ?_
   refine ph ?_;refine pf ?_;refine aF ?_;clear bq am aG f3 f4 a6;go_wp2;clear a0 ai af;go_loopw [11] (λbH wr=>∃(k:Nat) (IA:Mt) (i ic:Nat) (bw:Mt) (j lc:Nat),k<=n1/\bH=.int .i64 k/\i<=k/\j<=k/\kC w wr l op ah #[bQ,s,eo,en,es,.slice EA em ec,rs,.slice cM di rc,.slice cR n1 c1,.slice A2 n2 c2,.slice cC n3 c3] aW k IA i ic bw j lc) (λbH _=>n1 - (intOf bH).toNat)
   case atStart=>exact⟨0,none,0,0,none,0,0,ad,rfl,LK _,LK _,⟨bU.ext.drew,bU.b4,bU.b6,bU.b7,bU.g2.aj Mo.drew⟩⟩
   case round=>
    obtain⟨k,IA,i,ic,bw,j,lc,aj,rfl,bT,ag,hC⟩:=hrel;clear bU;have bU:=ae hC;obtain⟨a0,ai,af⟩:=hC.b4.two;by_cases an:k<n1
    .obtain⟨ab,cQ,a,cs,rfl,aA,aZ,Z,bh,a4⟩:=(bt.on (Fr.ext hC.ext)).hf sU an;obtain⟨pb,gU,q,cS,rfl,cZ,bK,bL,ao,fh⟩:=(b7.on (Fr.ext hC.ext)).hf rF an;obtain rfl:=nZ.1 bL;have a1:=fh 1 _ rfl;have bg:pb<wr:=cZ;have bY:ab<wr:=aA;have HA:=ae aZ;rcases ni aY.o bK aZ with⟨r,rfl,bs,eH⟩|⟨x,rfl,bs,ct⟩
     .rw[bs] at a1;obtain⟨bI,fj,cF,cE,b4,zc,rfl,ay⟩:=Em Z;have c0:=a4 0 _ rfl;have cq:=a4 1 _ rfl;have cf:=a4 2 _ rfl;have a9:=a4 3 _ rfl;have b1:=a4 4 _ rfl;have b2:=a4 5 _ rfl;have b9:=a4 6 _ rfl;simp only[LW] at c0;have H:=ae ay;clear hC bh a4 bL ao fh cZ aA Z aZ bK ay;go_upto_region 20 with(fail);generalize hV:World.alloc _ _=V;have L:=aU hV;have n:=aI hV;have a5:=bU.b7.aj L;replace a1:=((Fr.qO L).1 pb _ bg).trans a1
      replace bg:pb<V:=LL bg L.size
      have od:=bU.b7.lt;have cB:=L.size;clear hV a0 ai af c0 cq cf a9 b1 b2 b9 bY;obtain⟨d0,aK,aM⟩:=n.two;obtain⟨a0,ai,af⟩:=a5.two;clear a5 n;go_wp2;refine eJ (λ_=>False) [(0,3),(1,0),(2,3),(3,3),(4,3),(5,3),(6,0),(7,3)] ?_;refine pf ?_;refine ph ?_
      iterate 4 refine pf ?_
      refine ph ?_;refine pf ?_;refine aF ?_;clear a1 bg;go_wp2;refine eJ (λ_=>False) [(0,3),(1,0),(2,3),(3,3),(4,0),(5,3),(6,1),(7,1),(8,2),(9,3),(10,2)] ?_;refine pf ?_;refine bJ (v:=?_) rfl (by rfl) (λV hV=>?_) ?_;rotate_left
      .obtain⟨hVc,hVf⟩:=Fr.jt hV
       (go_simp<;>with_reducible rfl)
      try simp only[PU]
      iterate 2 refine pf ?_
      refine bJ (v:=?_) rfl (by rfl) (λV hV=>?_) ?_;rotate_left
      .obtain⟨hVc,hVf⟩:=Fr.jt hV
       (go_simp<;>with_reducible rfl)
      try simp only[PU]
      refine pf ?_;refine aB rfl (λK hK=>?_);go_simp;refine(ei g l M r eH st bI fj cF cE _ (b6.on (bU.ext.trans L).drew.drew) (cU.on (bU.ext.trans L).drew.drew) (D.on H.o (Fr.ext L.drew.drew))).mono ?_;rintro e aS ⟨g6,g7,cX,cO,cY,rfl,aV,ar⟩;refine dq hK (ar) ?_;clear hK K;have aO:Ext V aS:=Fr.aG (Fr.aG ar);have I:(dy (mh l r)).rep aS (fresh V aS) [g6,g7,.slice cX cO cY]:=aV;have bo:=L.trans aO;have a3:=aO.size;have bv:∀b,(Value.slice IA i ic).ownBlock=some b->b<V.heap.size:=λb O=>by have:=(bU.g2.one.lt O).2;omega
      have bb:∀b,(Value.slice bw j lc).ownBlock=some b->b<V.heap.size:=λb O=>by have:=(bU.g2.two.lt O).2;omega
      refine rb ?_;refine ax rfl (λK hK=>?_);rw[if_pos (by rfl)];refine qS Im (.tmp 92) (.tmp 98) (by rfl) (bU.g2.aj bo).two (uc I ad bb bv) (by rfl) (by rfl) (by rfl) ad ad ad ?_;intro df dg aT al aC cn cb;have m:=(bU.b7.aj bo).on aC (λO=>by have:=(bU.g2.two.lt O).1;omega);have bX:=bF al aC cn bo;clear al aC cn aV I ar aO bo L a0 ai af d0 aK aM bv bb a3;obtain⟨a0,ai,af⟩:=m.two;clear m;refine dX hK ?_;clear hK K;refine pf ?_;refine ax rfl (λK hK=>?_);go_simp;refine dX hK ?_;clear hK K;refine aF ?_;clear a0 ai af;generalize hX:World.setCell aT _ _=b5;have bj:=ae (bU.place bX.2.2.2 HA.o bX.1 bX.2.1 bX.2.2.1 hX);clear hX;go_wp2;go_roundw
      case rel=>exact⟨k+1,IA,i,ic,df,j+1,dg,ad,by go_num,ad,ad,bj.o⟩
      case measure=>exact aH
     .rw[bs] at a1;obtain⟨b4,ci,zc,c7,cO,xs,cX,c4,cY,rfl,ay⟩:=Ek Z;have c0:=a4 0 _ rfl;have cq:=a4 1 _ rfl;have cf:=a4 2 _ rfl;have a9:=a4 3 _ rfl;have b1:=a4 4 _ rfl;have b2:=a4 5 _ rfl;have b9:=a4 6 _ rfl;simp only[LW] at c0;have H:=ae ay;clear hC bh a4 bL ao fh cZ aA Z aZ bK ay;go_upto_region 20 with(fail);generalize hV:World.alloc _ _=V;have L:=aU hV;have n:=aI hV;have a5:=bU.b7.aj L;replace a1:=((Fr.qO L).1 pb _ bg).trans a1
      replace bg:pb<V:=LL bg L.size
      have od:=bU.b7.lt;have cB:=L.size;clear hV a0 ai af c0 cq cf a9 b1 b2 b9 bY;obtain⟨d0,aK,aM⟩:=n.two;obtain⟨a0,ai,af⟩:=a5.two;clear a5 n;go_wp2;refine eJ (λ_=>False) [(0,3),(1,0),(2,3),(3,3),(4,3),(5,3),(6,0),(7,3)] ?_;refine pf ?_;refine ph ?_
      iterate 4 refine pf ?_
      refine ph ?_;refine pf ?_;refine aF ?_;clear a1 bg;go_wp2;refine eJ (λ_=>False) [(0,3),(1,0),(2,3),(3,3),(4,0),(5,3),(6,1),(7,1),(8,2),(9,3),(10,2)] ?_;refine pf ?_;refine bJ (v:=?_) rfl (by rfl) (λV hV=>?_) ?_;rotate_left
      .obtain⟨hVc,hVf⟩:=Fr.jt hV
       (go_simp<;>with_reducible rfl)
      try simp only[PU]
      iterate 2 refine pf ?_
      refine bJ (v:=?_) rfl (by rfl) (λV hV=>?_) ?_;rotate_left
      .obtain⟨hVc,hVf⟩:=Fr.jt hV
       (go_simp<;>with_reducible rfl)
      try simp only[PU]
      refine pf ?_;refine aB rfl (λK hK=>?_);go_simp;refine(gx l x ct g st _ _ _ _ _ _ _ (b6.on (bU.ext.trans L).drew.drew) (D.on H.o (Fr.ext L.drew.drew))).mono ?_;rintro e aS ⟨cV,dd,b0,c5,c6,de,rfl,aV,ar⟩;refine dq hK (ar) ?_;clear hK K;have aO:Ext V aS:=Fr.aG (Fr.aG ar);have I:(bm (bP l x)).rep aS (fresh V aS) [cV,dd,b0,.slice c5 c6 de]:=aV;have bo:=L.trans aO;have a3:=aO.size;have bv:∀b,(Value.slice IA i ic).ownBlock=some b->b<V.heap.size:=λb O=>by have:=(bU.g2.one.lt O).2;omega
      have bb:∀b,(Value.slice bw j lc).ownBlock=some b->b<V.heap.size:=λb O=>by have:=(bU.g2.two.lt O).2;omega
      refine rb ?_;refine ax rfl (λK hK=>?_);rw[if_pos (by rfl)];refine qS pD (.tmp 102) (.tmp 108) (by rfl) (bU.g2.aj bo).one (uc I ad bv bb) (by rfl) (by rfl) (by rfl) ad ad ad ?_;intro cD cT aT al aC cn cb;have m:=(bU.b7.aj bo).on aC (λO=>by have:=(bU.g2.one.lt O).1;omega);have bX:=bF al aC cn bo;clear al aC cn aV I ar aO bo L a0 ai af d0 aK aM bv bb a3;obtain⟨a0,ai,af⟩:=m.two;clear m;refine dX hK ?_;clear hK K;refine pf ?_;refine ax rfl (λK hK=>?_);go_simp;refine dX hK ?_;clear hK K;refine aF ?_;clear a0 ai af;generalize hX:World.setCell aT _ _=b5;have bj:=ae (bU.int bX.2.2.2 HA.o bX.1 bX.2.1 bX.2.2.1 hX);clear hX;go_wp2;go_roundw
      case rel=>exact⟨k+1,cD,i+1,cT,bw,j,lc,ad,by go_num,ad,ad,bj.o⟩
      case measure=>exact aH
    .obtain rfl:k=n1:=ad;have a5:=hC.b7;have cH:=hC.b6;clear hC a0 ai af;obtain⟨a0,ai,af⟩:=a5.two;obtain⟨d0,aK,aM⟩:=cH.two;clear a5;go_wp2;generalize hX:World.setCell _ _ _=b5;obtain⟨cJ,cv,cj⟩:=bA (fJ op ah false IA i ic bw j lc).toList (by rfl) cH bU.ext ad hX;clear hX a0 ai af d0 aK aM;obtain⟨bl,aD,aP⟩:=cJ.two;refine Mn (v:=.agg (fJ op ah false IA i ic bw j lc)) (by simp[results,Tryz.results121,go_sem,bl]) rfl ?_;have hG:=bU.g2.cZ cj λb O _=>ad;have eO:=cj.size;rw[LS ad] at hG;refine⟨IA,i,ic,bw,j,lc,rfl,?_,cv⟩;exact jC (hG.one.sl (λb ac ap=>⟨by have:=ap.1;omega,ac⟩) (λb ac ap=>⟨ad,ac⟩)) (hG.two.sl (λb ac ap=>⟨by have:=ap.1;omega,ac⟩) (λb ac ap=>⟨ad,ac⟩)) hG.one.cap.1 hG.two.cap.1
section
variable {w ab aS aT b7 cS X:World} {g B:Nat} {M:List bM} {F:List aL} {l:List dQ} {bw:Mt} {ln lc:Nat} {n:Int} {st:Nat} {code:List aC} {sites:List Int} {S:Mt} {b2:Nat} {bV:Mt} {bD:Nat}
theorem cP.own(h:cP w g B M F l bw ln lc n st code sites S b2 bV bD){j:Nat}{v:Value}(hX:w.setCell ⟨g,j,none⟩ v=X):
  Mv g (.slice S code.length b2) (.slice bV sites.length bD) w (.slice S code.length b2) (.slice bV sites.length bD) X/\Fr (λb=>b=g) w X/\lA B 122 12 3 1 X S code.length b2 (code.map ew) bV sites.length bD (sites.map D.i):=by
 have J:=cp hX;exact⟨Mv.JK (J.mono λb O=>.inl O),J,h.rows.cZ J λb O _=>by have:=h.base.1;omega⟩
namespace CZ
theorem Bs(h:p:=by
 rw[<-hX];exact aQ.aN 5 _
 ):p:=h
end CZ
open CZ in
theorem cP.stmt(h:cP w g B M F l bw ln lc n st code sites S b2 bV bD)(hX:w.setCell ⟨g,5,none⟩ (.int .i64 ((st+1:Nat):Int))=X) :
  cP X g B M F l bw ln lc n (st+1) code sites S b2 bV bD/\Mv g (.slice S code.length b2) (.slice bV sites.length bD) w (.slice S code.length b2) (.slice bV sites.length bD) X:=by
 exact Br
namespace C0
theorem Bs(h:p:=by
 rw[<-hX];exact aQ.aN 4 _
 ):p:=h
end C0
open C0 in
theorem cP.locals(h:cP w g B M F l bw ln lc n st code sites S b2 bV bD){a6:Int}(hX:w.setCell ⟨g,4,none⟩ a6=X):
  cP X g B M F l bw ln lc a6 st code sites S b2 bV bD/\Mv g (.slice S code.length b2) (.slice bV sites.length bD) w (.slice S code.length b2) (.slice bV sites.length bD) X:=by
 exact Br
theorem cP.EZ(h:cP w g B M F l bw ln lc n st code sites S b2 bV bD){aP:List dQ}{bi:Mt}{aR bQ:Nat}(hn:aR<=1000000)(hl:Sl w (off (Ms g (.slice S code.length b2) (.slice bV sites.length bD)) w) bi aR (aP.map b0))(hX:w.setCell ⟨g,3,none⟩ (.slice bi aR bQ)=X):
  cP X g B M F aP bi aR bQ n st code sites S b2 bV bD/\Mv g (.slice S code.length b2) (.slice bV sites.length bD) w (.slice S code.length b2) (.slice bV sites.length bD) X:=by
 obtain⟨hM,J,hG⟩:=h.own hX;obtain⟨GA,gn,gc,MA,mn,mc,FA,fn,fc,aQ,cx,bY,b9,H⟩:=h.blk;refine⟨⟨⟨GA,gn,gc,MA,mn,mc,FA,fn,fc,?_,cx,bY,b9.cT hM,H.cT hM⟩,⟨h.base.1,L6 h.base.2 hM.fr.size⟩,⟨hn,hl.cT hM⟩,hG⟩,hM⟩;rw[<-hX];exact aQ.aN 3 _
theorem cP.target(h:cP w g B M F l bw ln lc n st code sites S b2 bV bD)(O:b<code.length)(t:Int):∃Q,S=some ⟨Q,0,none⟩/\Q<w.heap.size/\w.frozen? ⟨Q,b*12+1,none⟩=false/\(∃u,w.cell? ⟨Q,b*12+1,none⟩=some (.int .i64 u))/\
  ∀X,w.setCell ⟨Q,b*12+1,none⟩ t=X->cP X g B M F l bw ln lc n st (gm code b t) sites S b2 bV bD/\Mv g (.slice S code.length b2) (.slice bV sites.length bD) w (.slice S code.length b2) (.slice bV sites.length bD) X:=by
 obtain⟨hl,xs,ac,ap⟩:=h.rows.one;obtain⟨Q,bG,C,r,aZ,du,L⟩:=g1 ac ad;have U:xs.length=code.length*12:=by rw[D.hy _ _ ap,D.g7 (z:=12) (λd hd=>by obtain⟨x,_,rfl⟩:=Mf.1 hd;exact mF x),LO]
 have an:b*12+1<xs.length:=by rw[U];omega
 have bz:xs[b*12+1]?=some (xs[b*12+1]'an):=List.getElem?_eq_getElem _;have hint:∃u,xs[b*12+1]?=some (.int .i64 u):=by
  have hm:(code.map ew)[b]?=some (ew (code[b]'O)):=by rw[List.getElem?_map,List.getElem?_eq_getElem O];rfl
  obtain⟨cs,a5,bh,bd⟩:=D.mX ap (z:=12) (λd hd=>by obtain⟨x,_,rfl⟩:=Mf.1 hd;exact mF x) hm;unfold ew at a5;rw[bN,bo] at a5;obtain⟨y,rfl,a5⟩:=a5;rw[bo] at a5;obtain⟨cX,rfl,a5⟩:=a5;exact⟨_,bd 1 _ rfl⟩
 refine⟨Q,bG,r,du _,?_,λX hX=>?_⟩
 .obtain⟨u,hu⟩:=hint;exact⟨u,aZ _ _ hu⟩
 have ao:(Value.slice S code.length b2).ownBlock=some Q:=by rw[bG];rfl
 have J:=cp hX;have hM:Mv g (.slice S code.length b2) (.slice bV sites.length bD) w (.slice S code.length b2) (.slice bV sites.length bD) X:=Mv.JK (J.mono λb O=>by subst O;exact .inr (.inl ao));have a:¬(Value.slice bV sites.length bD).ownBlock=some Q:=h.rows.ne Q ao;obtain⟨GA,gn,gc,MA,mn,mc,FA,fn,fc,aQ,cx,bY,b9,H⟩:=h.blk;refine⟨⟨⟨GA,gn,gc,MA,mn,mc,FA,fn,fc,?_,cx,bY,?_,?_⟩,⟨h.base.1,L6 h.base.2 hM.fr.size⟩,⟨h.names.1,?_⟩,?_⟩,hM⟩
 .rw[cB];exact aQ.on J (ay h.base.1)
 .rw[cB];exact b9.cT hM
 .rw[cB];exact H.cT hM
 .rw[cB];exact h.names.2.cT hM
 .have bS:=L (b*12+1) t ad;rw[hX] at bS;rw[cB];refine⟨⟨by rw[LO,cB],_,bS,?_⟩,?_,h.rows.ne⟩
  .refine rZ t code xs b ?_ O;exact D.bK (λb O=>⟨O.1,by have:=J.size;have:=O.2.1;omega,O.2.2⟩) _ _ (D.bG (λb a1=>J.block b a1.2.1 λhe=>a1.2.2 (by rw[ao,he])) _ _ ap)
  .exact h.rows.two.dr J.size λb an hp=>J.block b an λhe=>by
    subst he;rcases hp with hp|hp
    .exact hp.2 ao
    .exact a hp
end
theorem au.cT{w ab:World}{g:Nat}{t:TypeId}{cs:Array Value}{cv sv a f:Value}(h:au w b t cs)(hn:¬Ms g cv sv b)(hM:Mv g cv sv w a f ab):au ab b t cs/\¬Ms g a f b:=
 ⟨h.on hM.fr hn,λhm=>hn (hM.own b h.lt hm)⟩
theorem qb(b:ao):b.isNil=decide (b.list.length=0):=by cases b<;>simp[ao.isNil,ao.list]
theorem tS(b:ao):(dc b).length=b.list.length:=by rw[cK,LO]
def Ee(e:dQ):List Value:=[.string e.name,.int .i64 e.kind,.int .i64 e.n]
theorem jk:cn prog 101 105 (.agg #[Mq,(0:Int),(0:Int)]) 3 32:=cn.mk' Tryz.underlying101 (by kernel_rfl) rfl ad
theorem jY{w:World}(e:dQ):(b0 e).rep w P (Ee e):=iF.2 rfl
theorem k7{w:World}(l:List dQ):D.aM w P (l.map b0) (l.flatMap Ee):=mY jY l
theorem tY{w:World}{P Q:Nat->Prop}:∀{l:List dQ} {xs:List Value},D.aM w P (l.map b0) xs->D.aM w Q (l.map b0) xs
 | [],xs,h=>by simpa only[Me,D.aM] using h
 | e::l,xs,h=>by
  rw[LQ] at h ⊢;obtain⟨x,y,rfl,hx,bb⟩:=dL.1 h;exact dL.2 ⟨x,y,rfl,iF.2 (iF.1 hx),tY bb⟩
theorem kM{w:World}{n:Nat}{l:List dQ}(h:Sl w (aq w) A n (l.map b0)):Src w 3 A n (l.flatMap Ee):=
 Src.jL (Sl.JZ (f:=Ee) (sz:=3) (λ_ _ _ _ h=>iF.1 h) (λ_=>rfl) h) (λ_ _=>rfl) (λx _ u hu=>by
  simp only[Ee,L5,List.not_mem_nil,or_false] at hu;rcases hu with rfl|rfl|rfl<;>rfl) ad
theorem ir{w aS:World}{g B:Nat}{M:List bM}{F:List aL}{l:List dQ}{bw:Mt}{ln lc:Nat}{n:Int}{st:Nat}{code:List aC}{sites:List Int}{S:Mt}{b2:Nat}{bV:Mt}{bD:Nat}(h:cP w g B M F l bw ln lc n st code sites S b2 bV bD)(hd:d.rep aS (fresh w aS) cs):
  d.rep aS (KN B g (.slice S code.length b2) (.slice bV sites.length bD) aS) cs:=by
 have an:=h.lt;have z:=h.base;refine D.aK (λb O=>⟨by have:=O.1;omega,O.2,λhm=>?_⟩) _ _ hd;have ac:=O.1;rcases hm with hm|hm|hm
 .omega
 .have:=(h.rows.one.lt hm).2;omega
 .have:=(h.rows.two.lt hm).2;omega
theorem k6{w:World}{op:Int}{g:Bool}{e:VE}{eo en:Int}{es:ByteArray}{EA:Mt}{em ec:Nat}(h:(bm e).rep w P [eo,en,es,.slice EA em ec]):
  (ew ⟨op,t,g,some e,kn,[],[]⟩).rep w P [op,t,g,eo,en,es,.slice EA em ec,false,(0:Int),(),(),()]:=by
 unfold ew;rw[bN];exact bo.2 ⟨_,rfl,bo.2 ⟨_,rfl,fD.2 ⟨_,rfl,dL.2 ⟨[_,_,_,_],_,rfl,h,om (aO.2 ⟨none,0,0,_,rfl,LK _,Sl.bS _,aO.2 ⟨none,0,0,[],rfl,LK _,Sl.bS _,aR.2 rfl⟩⟩)⟩⟩⟩⟩
theorem wc{w:World}{op:Int}{g:Bool}{p:bU}{pb:Bool}{pi:Int}{PA:Mt}{pm pc:Nat}(h:(dy p).rep w P [pb,pi,.slice PA pm pc]):
  (ew ⟨op,t,g,none,p,[],[]⟩).rep w P [op,t,g,(0:Int),(0:Int),Mq,(),pb,pi,.slice PA pm pc,(),()]:=by
 unfold ew;rw[bN];exact bo.2 ⟨_,rfl,bo.2 ⟨_,rfl,fD.2 ⟨_,rfl,qC (dL.2 ⟨[_,_,_],_,rfl,h,aO.2 ⟨none,0,0,_,rfl,LK _,Sl.bS _,aO.2 ⟨none,0,0,[],rfl,LK _,Sl.bS _,aR.2 rfl⟩⟩⟩)⟩⟩⟩
def lN(U:hO)(nk:Int)(F:List aL)(b:ao):Prop:=
 ∀(G:Env) (d:Nat) (l:List dQ) (V T:Mu) (n:Int) (st:Nat) (code:List aC) (sites:List Int) (g B:Nat) (bw:Mt) (ln lc:Nat) (S:Mt) (b2:Nat) (bV:Mt) (bD:Nat) (A:Mt) (m c:Nat) (w:World),
  fm G d V T b->Sc U G l V T n nk->vm F G l->(∀f∈F,f.params.length<=1000)->cP w g B U.af F l bw ln lc n st code sites S b2 bV bD->Sl w (off (Ms g (.slice S code.length b2) (.slice bV sites.length bD)) w) A m (dc b)->
  code.length+2*b.num<=100000->sites.length=code.length->n+b.num<=100000->st+b.num<=100000->l.length+b.num<=100000->
  Calls prog 71 #[.pointer (some ⟨g,0,none⟩),.slice A m c] w λe ab=>e=.returned (.tuple #[])/\∃Y ah al aH y,y.length=(dN b l n code).1.length/\
   cP ab g B U.af F l bw ln lc (dN b l n code).2 (st+b.num) (dN b l n code).1 y Y ah al aH/\
   Mv g (.slice S code.length b2) (.slice bV sites.length bD) w (.slice Y (dN b l n code).1.length ah) (.slice al y.length aH) ab
theorem gV:∀b:ao,b.list.length<=b.num
 | .nil=>by simp[ao.list]
 | .set _ _ _ rest=>by simp[ao.list,ao.num,gV rest]
 | .call _ _ _ rest=>by simp[ao.list,ao.num,gV rest]
 | .lock _ _ rest=>by simp[ao.list,ao.num,gV rest]
 | .ite _ th el rest=>by simp[ao.list,ao.num];have:=gV rest;omega
 | .gI _ th rest=>by simp[ao.list,ao.num];have:=gV rest;omega
 | .ret rest=>by simp[ao.list,ao.num,gV rest]
def gg:Code->Option Code
 | .loop c=>some c
 | .seq a b=>match gg a with
  | some c=>some c
  | none=>gg b
 | .block _ c=>gg c
 | .scope c=>gg c
 | .cond _ a b=>match gg a with
  | some c=>some c
  | none=>gg b
 | _=>none
noncomputable def sP:Code:=((Tryz.f71.body.bind gg).getD .skip)
def oy(U:hO)(nk:Int)(F:List aL)(b:ao)(G:Env)(d:Nat)(l:List dQ)(n:Int)(st:Nat)(code:List aC)(sites:List Int)(g B:Nat)(bw:Mt)(ln lc:Nat)(S:Mt)(b2:Nat)(bV:Mt)(bD:Nat)(A:Mt)(m c:Nat)(w:World)(bH:Value)(wr:World):Prop:=∃(k:Nat) (rest:ao) (aP:List dQ) (bc ba:Mu) (a6:Int) (ab:Nat) (u:List aC) (y:List Int) (bi:Mt) (aR bQ:Nat) (Y:Mt) (ah:Nat) (al:Mt) (aH:Nat),bH=.int .i64 k/\k<=m/\b.list.drop k=rest.list/\dN rest aP a6 u=dN b l n code/\ab+rest.num=st+b.num/\
   fm G d bc ba rest/\Sc U G aP bc ba a6 nk/\vm F G aP/\u.length+2*rest.num<=100000/\y.length=u.length/\a6+rest.num<=100000/\aP.length+rest.num<=100000/\cP wr g B U.af F aP bi aR bQ a6 ab u y Y ah al aH/\
   Mv g (.slice S code.length b2) (.slice bV sites.length bD) w (.slice Y u.length ah) (.slice al y.length aH) wr
def iW(U:hO)(nk:Int)(F:List aL)(b:ao)(G:Env)(d:Nat)(l:List dQ)(n:Int)(st:Nat)(code:List aC)(sites:List Int)(g B:Nat)(bw:Mt)(ln lc:Nat)(S:Mt)(b2:Nat)(bV:Mt)(bD:Nat)(A:Mt)(m c:Nat)(w:World)(a:Act)(wr:World):Prop:=∃gR gV fn u8 gS eW bK gw gv cc eX eY eZ e3 e4 e5 e6 e7 e8 e9 fa fb fd u32 fe ff fi fj fk fl fp fq fr fs ft fu fv fw fx fz fA fB fC fD fE fF fG fI fJ fK fL fM fN fO fP u64 fR fS fT fU fV fW fX fY fZ f3 f4 f5 f6 f7 f8 f9 ga gb gd ge gf gg gh gi gj gk gl gm go gp gq gr gs gt gu H I am aG aK aM aU a4 bb bf bm bo bp bq bu bz bB bI bW b6 b9 ca cd cj ck cm cq cu cw cy cB cE cF cH cK cM cN cO cQ cR cT cV cW cX cY c4 c5 c6 c7 c8 c9 da db dc dd de df dg dh di dj dk dl dm dn dp dr ds dt du dv dw dx dy dz dA dD dE dF dG dH dI dJ dK dL dM dO dP dR dS dT dU dV dY dZ d0 d1 d2 d3 d4 d5 d6 d7 d8 d9 ea eb ec ed ee ef eg eh ej ek el em en eo ep eq er es et ev ew ex ey ez eA eB eC eD eE eF eG eH eI eK eL eM eN eO eP eQ eR eT eU eV:Value,oy U nk F b G d l n st code sites g B bw ln lc S b2 bV bD A m c w gR wr/\a=⟨#[.pointer (some ⟨g,0,none⟩),.slice A m c,undef,undef,.slice bw ln lc,gR,gV,fn,u8,gS,eW,bK,gw,gv,cc,.pointer (some ⟨g,0,none⟩),.pointer (some ⟨g,0,none⟩),.pointer (some ⟨g,3,none⟩),.slice bw ln lc,eX,eY,eZ,e3,e4,e5,e6,e7,e8,e9,fa,fb,fd,u32,fe,ff,fi,fj,fk,fl,fp,fq,fr,fs,ft,fu,fv,fw,fx,fz,fA,fB,fC,fD,fE,fF,fG,fI,fJ,fK,fL,fM,fN,fO,fP,u64,fR,fS,fT,fU,fV,fW,fX,fY,fZ,f3,f4,f5,f6,f7,f8,f9,ga,gb,gd,ge,gf,gg,gh,gi,gj,gk,gl,gm,go,gp,gq,gr,gs,gt,gu,H,I,am,aG,aK,aM,aU,a4,bb,bf,bm,bo,bp,bq,bu,bz,bB,bI,bW,b6,b9,ca,cd,cj,ck,cm,cq,cu,cw,cy,cB,cE,cF,cH,cK,cM,cN,cO,cQ,cR,cT,cV,cW,cX,cY,c4,c5,c6,c7,c8,c9,da,db,dc,dd,de,df,dg,dh,di,dj,dk,dl,dm,dn,dp,dr,ds,dt,du,dv,dw,dx,dy,dz,dA,dD,dE,dF,dG,dH,dI,dJ,dK,dL,dM,dO,dP,dR,dS,dT,dU,dV,dY,dZ,d0,d1,d2,d3,d4,d5,d6,d7,d8,d9,ea,eb,ec,ed,ee,ef,eg,eh,ej,ek,el,em,en,eo,ep,eq,er,es,et,ev,ew,ex,ey,ez,eA,eB,eC,eD,eE,eF,eG,eH,eI,eK,eL,eM,eN,eO,eP,eQ,eR,eT,eU,eV,undef,undef,undef,undef],[]⟩
def jv(m:Nat)(a:Act)(_:World):Nat:=m - (intOf (a.tmps.getD 5 undef)).toNat
def FO(U:hO)(nk:Int)(F:List aL)(b:ao)(G:Env)(d:Nat)(l:List dQ)(n:Int)(st:Nat)(code:List aC)(sites:List Int)(g B:Nat)(bw:Mt)(ln lc:Nat)(S:Mt)(b2:Nat)(bV:Mt)(bD:Nat)(A:Mt)(m c:Nat)(w:World)(a:Act)(wr:World):Prop:=∃gR gV fn u8 gS eW bK gw gv cc eX eY eZ e3 e4 e5 e6 e7 e8 e9 fa fb fd u32 fe ff fi fj fk fl fp fq fr fs ft fu fv fw fx fz fA fB fC fD fE fF fG fI fJ fK fL fM fN fO fP u64 fR fS fT fU fV fW fX fY fZ f3 f4 f5 f6 f7 f8 f9 ga gb gd ge gf gg gh gi gj gk gl gm go gp gq gr gs gt gu H I am aG aK aM aU a4 bb bf bm bo bp bq bu bz bB bI bW b6 b9 ca cd cj ck cm cq cu cw cy cB cE cF cH cK cM cN cO cQ cR cT cV cW cX cY c4 c5 c6 c7 c8 c9 da db dc dd de df dg dh di dj dk dl dm dn dp dr ds dt du dv dw dx dy dz dA dD dE dF dG dH dI dJ dK dL dM dO dP dR dS dT dU dV dY dZ d0 d1 d2 d3 d4 d5 d6 d7 d8 d9 ea eb ec ed ee ef eg eh ej ek el em en eo ep eq er es et ev ew ex ey ez eA eB eC eD eE eF eG eH eI eK eL eM eN eO eP eQ eR eT eU eV:Value,oy U nk F b G d l n st code sites g B bw ln lc S b2 bV bD A m c w gR wr/\gR=.int .i64 m/\a=⟨#[.pointer (some ⟨g,0,none⟩),.slice A m c,undef,undef,.slice bw ln lc,gR,gV,fn,u8,gS,eW,bK,gw,gv,cc,.pointer (some ⟨g,0,none⟩),.pointer (some ⟨g,0,none⟩),.pointer (some ⟨g,3,none⟩),.slice bw ln lc,eX,eY,eZ,e3,e4,e5,e6,e7,e8,e9,fa,fb,fd,u32,fe,ff,fi,fj,fk,fl,fp,fq,fr,fs,ft,fu,fv,fw,fx,fz,fA,fB,fC,fD,fE,fF,fG,fI,fJ,fK,fL,fM,fN,fO,fP,u64,fR,fS,fT,fU,fV,fW,fX,fY,fZ,f3,f4,f5,f6,f7,f8,f9,ga,gb,gd,ge,gf,gg,gh,gi,gj,gk,gl,gm,go,gp,gq,gr,gs,gt,gu,H,I,am,aG,aK,aM,aU,a4,bb,bf,bm,bo,bp,bq,bu,bz,bB,bI,bW,b6,b9,ca,cd,cj,ck,cm,cq,cu,cw,cy,cB,cE,cF,cH,cK,cM,cN,cO,cQ,cR,cT,cV,cW,cX,cY,c4,c5,c6,c7,c8,c9,da,db,dc,dd,de,df,dg,dh,di,dj,dk,dl,dm,dn,dp,dr,ds,dt,du,dv,dw,dx,dy,dz,dA,dD,dE,dF,dG,dH,dI,dJ,dK,dL,dM,dO,dP,dR,dS,dT,dU,dV,dY,dZ,d0,d1,d2,d3,d4,d5,d6,d7,d8,d9,ea,eb,ec,ed,ee,ef,eg,eh,ej,ek,el,em,en,eo,ep,eq,er,es,et,ev,ew,ex,ey,ez,eA,eB,eC,eD,eE,eF,eG,eH,eI,eK,eL,eM,eN,eO,eP,eQ,eR,eT,eU,eV,undef,undef,undef,undef],[]⟩
def BK(X:ao):Prop:=∀(ei:vo) (U:hO) (nk:Int) (F:List aL) (b:ao) (G:Env) (d:Nat) (l:List dQ) (n:Int) (st:Nat) (code:List aC) (sites:List Int) (g B:Nat) (bw:Mt) (ln lc:Nat) (S:Mt) (b2:Nat) (bV:Mt) (bD:Nat) (A:Mt) (m c:Nat) (w:World) (bt:Mw (Sl w (off (Ms g (.slice S code.length b2) (.slice bV sites.length bD)) w) A m (b.list.map bj))) (b5:Mw (∀s∈b.list,lN U nk F s.th/\lN U nk F s.el)) (dW:Mw (∀f∈F,f.params.length<=1000)) (bF:Mw (b.list.length=m)) (fg:m<=100000) (e0:st+b.num<=100000) (k:Nat) (aP:List dQ) (bc ba:Mu) (a6:Int) (ab:Nat) (u:List aC) (y:List Int) (bi:Mt) (aR bQ:Nat) (Y:Mt) (ah:Nat) (al:Mt) (aH:Nat) (wr:World) (an:k<m) (br:b.list.drop k=X.list) (bC:dN X aP a6 u=dN b l n code) (aw:ab+X.num=st+b.num) (a8:fm G d bc ba X) (hS:Sc U G aP bc ba a6 nk) (bx:vm F G aP) (bh:u.length+2*X.num<=100000) (cf:y.length=u.length) (cg:a6+X.num<=100000) (bE:aP.length+X.num<=100000) (bG:cP wr g B U.af F aP bi aR bQ a6 ab u y Y ah al aH) (hM:Mv g (.slice S code.length b2) (.slice bV sites.length bD) w (.slice Y u.length ah) (.slice al y.length aH) wr)
  (dB:Exit->Act->World->Prop) (hQ0:∀c a d v w,dB (.panic c) (a.put d v) w->dB (.panic c) a w)
  {gV fn u8 gS eW bK gw gv cc eX eY eZ e3 e4 e5 e6 e7 e8 e9 fa fb fd u32 fe ff fi fj fk fl fp fq fr fs ft fu fv fw fx fz fA fB fC fD fE fF fG fI fJ fK fL fM fN fO fP u64 fR fS fT fU fV fW fX fY fZ f3 f4 f5 f6 f7 f8 f9 ga gb gd ge gf gg gh gi gj gk gl gm go gp gq gr gs gt gu H I am aG aK aM aU a4 bb bf bm bo bp bq bu bz bB bI bW b6 b9 ca cd cj ck cm cq cu cw cy cB cE cF cH cK cM cN cO cQ cR cT cV cW cX cY c4 c5 c6 c7 c8 c9 da db dc dd de df dg dh di dj dk dl dm dn dp dr ds dt du dv dw dx dy dz dA dD dE dF dG dH dI dJ dK dL dM dO dP dR dS dT dU dV dY dZ d0 d1 d2 d3 d4 d5 d6 d7 d8 d9 ea eb ec ed ee ef eg eh ej ek el em en eo ep eq er es et ev ew ex ey ez eA eB eC eD eE eF eG eH eI eK eL eM eN eO eP eQ eR eT eU eV:Value},
  Code.wp prog sP (Exit.then (λr j=>iW U nk F b G d l n st code sites g B bw ln lc S b2 bV bD A m c w r j/\jv m r j<jv m ⟨#[.pointer (some ⟨g,0,none⟩),.slice A m c,undef,undef,.slice bw ln lc,(.int .i64 k),gV,fn,u8,gS,eW,bK,gw,gv,cc,.pointer (some ⟨g,0,none⟩),.pointer (some ⟨g,0,none⟩),.pointer (some ⟨g,3,none⟩),.slice bw ln lc,eX,eY,eZ,e3,e4,e5,e6,e7,e8,e9,fa,fb,fd,u32,fe,ff,fi,fj,fk,fl,fp,fq,fr,fs,ft,fu,fv,fw,fx,fz,fA,fB,fC,fD,fE,fF,fG,fI,fJ,fK,fL,fM,fN,fO,fP,u64,fR,fS,fT,fU,fV,fW,fX,fY,fZ,f3,f4,f5,f6,f7,f8,f9,ga,gb,gd,ge,gf,gg,gh,gi,gj,gk,gl,gm,go,gp,gq,gr,gs,gt,gu,H,I,am,aG,aK,aM,aU,a4,bb,bf,bm,bo,bp,bq,bu,bz,bB,bI,bW,b6,b9,ca,cd,cj,ck,cm,cq,cu,cw,cy,cB,cE,cF,cH,cK,cM,cN,cO,cQ,cR,cT,cV,cW,cX,cY,c4,c5,c6,c7,c8,c9,da,db,dc,dd,de,df,dg,dh,di,dj,dk,dl,dm,dn,dp,dr,ds,dt,du,dv,dw,dx,dy,dz,dA,dD,dE,dF,dG,dH,dI,dJ,dK,dL,dM,dO,dP,dR,dS,dT,dU,dV,dY,dZ,d0,d1,d2,d3,d4,d5,d6,d7,d8,d9,ea,eb,ec,ed,ee,ef,eg,eh,ej,ek,el,em,en,eo,ep,eq,er,es,et,ev,ew,ex,ey,ez,eA,eB,eC,eD,eE,eF,eG,eH,eI,eK,eL,eM,eN,eO,eP,eQ,eR,eT,eU,eV,undef,undef,undef,undef],[]⟩ wr) dB) ⟨#[.pointer (some ⟨g,0,none⟩),.slice A m c,undef,undef,.slice bw ln lc,(.int .i64 k),gV,fn,u8,gS,eW,bK,gw,gv,cc,.pointer (some ⟨g,0,none⟩),.pointer (some ⟨g,0,none⟩),.pointer (some ⟨g,3,none⟩),.slice bw ln lc,eX,eY,eZ,e3,e4,e5,e6,e7,e8,e9,fa,fb,fd,u32,fe,ff,fi,fj,fk,fl,fp,fq,fr,fs,ft,fu,fv,fw,fx,fz,fA,fB,fC,fD,fE,fF,fG,fI,fJ,fK,fL,fM,fN,fO,fP,u64,fR,fS,fT,fU,fV,fW,fX,fY,fZ,f3,f4,f5,f6,f7,f8,f9,ga,gb,gd,ge,gf,gg,gh,gi,gj,gk,gl,gm,go,gp,gq,gr,gs,gt,gu,H,I,am,aG,aK,aM,aU,a4,bb,bf,bm,bo,bp,bq,bu,bz,bB,bI,bW,b6,b9,ca,cd,cj,ck,cm,cq,cu,cw,cy,cB,cE,cF,cH,cK,cM,cN,cO,cQ,cR,cT,cV,cW,cX,cY,c4,c5,c6,c7,c8,c9,da,db,dc,dd,de,df,dg,dh,di,dj,dk,dl,dm,dn,dp,dr,ds,dt,du,dv,dw,dx,dy,dz,dA,dD,dE,dF,dG,dH,dI,dJ,dK,dL,dM,dO,dP,dR,dS,dT,dU,dV,dY,dZ,d0,d1,d2,d3,d4,d5,d6,d7,d8,d9,ea,eb,ec,ed,ee,ef,eg,eh,ej,ek,el,em,en,eo,ep,eq,er,es,et,ev,ew,ex,ey,ez,eA,eB,eC,eD,eE,eF,eG,eH,eI,eK,eL,eM,eN,eO,eP,eQ,eR,eT,eU,eV,undef,undef,undef,undef],[]⟩ wr
theorem Sl.Ju{w:World}{o n k z:Nat}{l:List D}(h:Sl w P (some ⟨b,o,none⟩) n l)(aL:∀d∈l,d.sz=z)(aj:k<=n):Sl w P (some ⟨b,o+k*z,none⟩) (n - k) (l.drop k):=by
 refine⟨by have:=h.1;simp;omega,λh0=>?_⟩;obtain⟨K,Q,xs,bG,O,a5,bd⟩:=h.2 ad;injection bG with bG;injection bG with ac ap;subst ac ap;rw[<-List.take_append_drop k l] at a5;obtain⟨y,cX,rfl,bb,a⟩:=D.kd a5;have a3:y.length=k*z:=by
  rw[D.hy _ _ bb,D.g7 (z:=z) (λd hd=>aL d (List.mem_of_mem_take hd)),List.length_take];have:=h.1;rw[Nat.min_eq_left ad]
 refine⟨b,o+k*z,cX,rfl,O,a,λj u hu=>?_⟩;have:=bd (k*z+j) u (by rw[List.getElem?_append_right ad,a3,Nat.add_sub_cancel_left];exact hu)
 rwa [<-Nat.add_assoc] at this
theorem mL{w:World}{P:Nat->Prop}:∀l:List Int,D.aM w P (l.map D.i) (l.map (Value.int .i64))
 | []=>by simp only[Me,D.aM]
 | x::l=>by simp only[LQ];exact bo.2 ⟨_,rfl,mL l⟩
theorem oe{w:World}{P:Nat->Prop}:∀(l:List Int) (xs:List Value),D.aM w P (l.map D.i) xs->xs=l.map (Value.int .i64)
 | [],xs,h=>by simpa only[Me,D.aM] using h
 | x::l,xs,h=>by
  simp only[LQ] at h;obtain⟨y,rfl,ap⟩:=bo.1 h;rw[oe l y ap,LQ]
theorem s3{w:World}{n:Nat}{l:List Int}(h:Sl w P A n (l.map D.i)):Src w 1 A n (l.map (Value.int .i64)):=by
 obtain⟨xs,a5,hs⟩:=h.src (z:=1) (λd hd=>by obtain⟨x,_,rfl⟩:=Mf.1 hd;rfl)
 rwa [oe l xs a5] at hs
theorem FI(P:Nat->Prop)(lb lo:Nat)(ln lc:Nat)(l:List Int)(n:Int)(w:World)(hl:Sl w P (some ⟨lb,lo,none⟩) ln (l.map .i))(bg:∀b,P b->b<w.heap.size)(dw:ln<=1000000)(cx:ln<=lc)(h0:0<ln) :
  Calls prog 38 #[.slice (some ⟨lb,lo,none⟩) ln lc,n] w
   λe ab=>∃(A:Mt) (m c:Nat) (aP:List Int),e=.returned (.slice A m c)/\0<m/\m<=ln+1/\m<=c/\Sl ab (λb=>P b\/fresh w ab b) A m (aP.map .i)/\Ext w ab:=by
 have bE:l.length=ln:=by have:=hl.1;simpa using this
 obtain⟨b6,ct⟩:=aJ hl bg;clear hl bg;go_enter func38,ntmps38;go_wp2_with(fail);refine(yQ (some ⟨lb,lo,none⟩) ln lc l n w (b6.mono ct.o) ad).mono ?_;rintro e aS ⟨rfl,b0⟩;have aO:Ext w aS:=Fr.of b0;have bB:=ae aO;clear b0 aO;generalize decide (n∈l)=q
 cases q with
 | true=>
  go_wp2_with(fail);go_ret
  exact⟨some ⟨lb,lo,none⟩,ln,lc,l,rfl,h0,ad,cx,(b6.ai λb O=>bB.block b (ct.o b O) λh=>h).mono λb O=>.inl O,bB.o⟩
 | false=>
  go_wp2_with(fail);go_loopw [5] (λcA wr=>∃k:Nat,k<=ln/\cA=.int .i64 k/\Ext w wr) (λi _=>ln - (intOf i).toNat)
  case atStart=>exact⟨0,Md _,rfl,bB.o⟩
  case round=>
   obtain⟨k,aj,rfl,aw⟩:=hrel;have br:=ae aw;have hS:Sl wr P (some ⟨lb,lo,none⟩) ln (l.map .i):=b6.ai λb O=>aw.block b (ct.o b O) λh=>h;have bp:(0:Int)<=(k:Int):=ad;clear aw;have f:(k<ln/\∃x,x<n/\wr.cell? ⟨lb,lo+k,none⟩=some (.int .i64 x))\/(k<ln/\∃x,¬x<n/\wr.cell? ⟨lb,lo+k,none⟩=some (.int .i64 x))\/¬k<ln:=by
    by_cases an:k<ln
    .obtain⟨b,o,x,cs,bG,O,hm,a5,y,hc⟩:=Sl.hf (enc:=D.i) (z:=1) hS (λ_=>rfl) an;injection bG with bG;injection bG with ac ap;subst ac ap;have J:cs=[.int .i64 x]:=by simpa only[D.rep] using a5
     subst J;have c0:=hc 0 _ rfl;simp only[Nat.mul_one,LW] at c0;by_cases hx:x<n
     .exact .inl ⟨an,x,hx,c0⟩
     .exact .inr (.inl ⟨an,x,hx,c0⟩)
    .exact .inr (.inr an)
   have bt:=ae hS;clear hS;rcases f with⟨an,x,hx,c0⟩|f
   .have ce:(k:Int)<(ln:Int):=ad;go_wp2_with(fail);go_roundw
    case rel=>exact⟨k+1,ad,by go_num,br.o⟩
    case measure=>exact aH
   .rcases f with⟨an,x,hx,c0⟩|an
    all_goals
     have ce:(k:Int)<=(ln:Int):=ad;go_upto_region 6 with(fail);have bb:k<=lc:=ad;obtain⟨cN,dA⟩:∃N,N=wr.heap.size:=⟨_,rfl⟩
     refine r0 (λb=>cN<=b) [7,11] (.free 1 (.free 2 (.free 3 (.free 5 (.free 8 (.free 9 (.free 10 (.pick [0,6] (λi=>bif i == 0 then .pick [4,6] (λi=>bif i == 4 then .pick [6] (λ_=>.pick [7] (λ_=>.pick [11] (λ_=>.free 12 (.stop)))) else .pick [4] (λ_=>.pick [7] (λ_=>.pick [11] (λ_=>.free 12 (.stop))))) else .pick [0] (λ_=>.pick [4] (λ_=>.pick [7] (λ_=>.pick [11] (λ_=>.free 12 (.stop)))))))))))))) ?_
     iterate 7 refine tf ?_
     generalize Z:(if lc=k then (some ⟨lb,lo,none⟩:Mt) else some ⟨lb,lo+k,none⟩)=A2;have cd:Sl wr P A2 (ln - k) ((l.drop k).map .i):=by
      rw[<-Z];split
      .have:ln - k=0:=ad;rw[this,Mk ad];exact Sl.bS _
      .have:=bt.Ju (z:=1) (λd hd=>by obtain⟨x,_,rfl⟩:=Mf.1 hd;rfl) aj;rw[Nat.mul_one,<-List.map_drop] at this;exact this
     have ao:Sl wr P (some ⟨lb,lo,none⟩) k ((l.take k).map .i):=by rw[List.map_take];exact bt.take aj
     obtain⟨u,dc⟩:=aJ cd ao;have t:∀b,P b->b<wr.heap.size:=λb O=>LL (ct.o b O) br.size;have j:=ae t;clear Z cd ao t;refine iT (P:=?_) (ops:=?_) (Q:=?_) (R:=?_) (tails:=?_) (rest:=.pick [7] (λ_=>.pick [11] (λ_=>.free 12 (.stop)))) (aa:=?_)
      (C:=λ(_:Nat) bA cC b9 V=>Ext wr V/\Gr (λ_=>False) cN 3 1 V cC k b9 ((l.take k).map D.i)/\au V bA 3 #[n]) (λkey=>?_) ?_
     rotate_left 6
     ·
      refine a2 ?_ ?_
      ·
       refine eu ?_;generalize hV:World.drew (World.alloc _ _)=cc;have e1:=gQ hV;have dd:Gr (λ_=>False) cN 3 1 cc (some ⟨wr,0,none⟩) 0 0 []:=by rw[<-hV,dA];exact(Gr.lit (w:=wr) (n:=0) (l:=[]) rfl (by rfl) ad (by simp only[D.aM])).aj Mo.drew
       have fg:=s3 (dc.ai λb O=>e1.block b (j.o b O) λh=>h);clear hV;refine a2 ?_ ?_
       ·
        refine aE rfl (λK hK=>?_) rfl;rw[if_pos (by rfl)];refine ju cF (.tmp 24) (.tmp 27) (by rfl) dd (mL (l.take k)) (by simp;omega) fg (λh=>by cases h) (by rfl) (by rfl) ad ad (by rw[dA];exact e1.size) ?_;intro cC b9 cV bT f1 o1 c1;refine dq hK (f1.mono λb O=>ad) ?_;clear hK K;refine av ?_;refine eu ?_;have e2:Ext wr cV:=Fr.low (M:=λb=>wr.heap.size<=b) ((e1.mono λ_ h=>h.elim).trans (f1.mono λb O=>ad)) λ_ h=>h;have F:Ext wr (cV.alloc (.cells #[n] 3))/\Gr (λ_=>False) cN 3 1 (cV.alloc (.cells #[n] 3)) cC k b9 ((l.take k).map D.i)/\au (cV.alloc (.cells #[n] 3)) cV 3 #[n]:=
         ⟨e2.alloc _,bT.aj (Mo.alloc _),Mp⟩
        clear bT dd f1 o1 e1 e2 fg;revert F;generalize cV.heap.size=bA;generalize wr.heap.size=cZ;intro F;exact key cZ bA cC b9 _ F
       ·
        refine eu ?_;generalize hV:World.alloc _ _=eR;have e2:=aU hV;have a7:au eR cc 3 #[n]:=hV▸Mp;have dj:=s3 (dc.ai λb O=>(e1.trans e2).block b (j.o b O) λh=>h);clear hV fg;have dK:wr<cc.heap.size:=(dd.lt (g:=wr.heap.size) rfl).2;refine av ?_;refine aE rfl (λK hK=>?_) rfl;rw[if_pos (by rfl)];refine ju cF (.tmp 24) (.tmp 27) (by rfl) (dd.aj e2) (mL (l.take k)) (by simp;omega) dj (λh=>by cases h) (by rfl) (by rfl) ad ad (by rw[dA];exact(e1.trans e2).size) ?_;intro cC b9 cV bT f1 o1 c1;refine dq hK (f1.mono λb O=>ad) ?_;clear hK K;have e3:Ext wr cV:=Fr.low (M:=λb=>wr.heap.size<=b) (((e1.trans e2).mono λ_ h=>h.elim).trans (f1.mono λb O=>ad)) λ_ h=>h;have F:Ext wr cV/\Gr (λ_=>False) cN 3 1 cV cC k b9 ((l.take k).map D.i)/\au cV cc 3 #[n]:=⟨e3,bT,a7.on f1 ad⟩
        clear bT dd f1 o1 e1 e2 e3 dj a7 dK;revert F;generalize cc.heap.size=bA;generalize wr.heap.size=cZ;intro F;exact key cZ bA cC b9 _ F
      ·
       refine eu ?_;generalize hV:World.drew (World.alloc _ _)=cc;have e1:=gQ hV;have a7:au cc wr 3 #[n]:=hV▸Mp;clear hV;refine av ?_;refine eu ?_;generalize hV:World.alloc _ _=eR;have e2:=aU hV;have dd:Gr (λ_=>False) cc 3 1 eR (some ⟨cc,0,none⟩) 0 0 []:=hV▸Gr.lit (w:=cc) (n:=0) (l:=[]) rfl (by rfl) ad (by simp only[D.aM]);have dn:=a7.aj e2;have dj:=s3 (dc.ai λb O=>(e1.trans e2).block b (j.o b O) λh=>h);have dK:wr<cc.heap.size:=a7.lt;clear hV a7;refine av ?_;refine aE rfl (λK hK=>?_) rfl;rw[if_pos (by rfl)];refine ju cF (.tmp 24) (.tmp 27) (by rfl) dd (mL (l.take k)) (by simp;omega) dj (λh=>by cases h) (by rfl) (by rfl) ad ad e2.size ?_;intro cC b9 cV bT f1 o1 c1;refine dq hK (f1.mono λb O=>ad) ?_;clear hK K;have e3:Ext wr cV:=Fr.low (M:=λb=>wr.heap.size<=b) (((e1.trans e2).mono λ_ h=>h.elim).trans (f1.mono λb O=>ad)) λ_ h=>h;have F:Ext wr cV/\Gr (λ_=>False) cN 3 1 cV cC k b9 ((l.take k).map D.i)/\au cV wr 3 #[n]:=⟨e3,bT.base ad,dn.on f1 ad⟩
       clear bT dd f1 o1 e1 e2 e3 dj dn dK;revert F;generalize cc.heap.size=cZ;generalize wr.heap.size=bA;intro F;exact key cZ bA cC b9 _ F
     ·
      rintro cZ bA cC b9 gL ⟨be,db,a7⟩;have eF:=be.size;refine av ?_;refine bR rfl (λK hK=>?_) rfl;rw[if_pos (by rfl)];refine fo cF (.tmp 28) (.tmp 30) (by rfl) db a7 (show (D.i n).rep gL _ _ from by simp only[D.rep]) (by rfl) (by rfl) (by rfl) ad ad ad ?_;intro E H gT dU f5 gG gN;have co:Ext wr gT:=Fr.low (M:=λb=>wr.heap.size<=b) ((be.mono λ_ h=>h.elim).trans (f5.mono λb O=>by have:=(db.lt O).1;omega)) λ_ h=>h;clear db a7 be eF f5 gG gN;have dZ:=co.size;refine dX hK ?_;clear hK K;refine av ?_;refine bR rfl (λK hK=>?_) rfl;rw[if_pos (by rfl)];have s:∀d∈(l.drop k).map D.i,d.sz=1:=λd hd=>by obtain⟨x,_,rfl⟩:=Mf.1 hd;rfl
      refine FK (k:=(l.drop k).map D.i) (A2:=A2) cF (.tmp 31) (.tmp 34) (by rfl) (dU.mono (Q:=λb=>P b) λb _ h=>h.elim) ?_ s (by rfl) (by rfl) ad ad ad ?_
      .exact((u.ai λb O=>co.block b (j.o b O) λh=>h).mono λb O=>⟨O,by have:=j.o b O;omega,λh=>by have:=(dU.lt h).1;have:=j.o b O;omega⟩)
      intro v cf bU aq f6 o6 r;have bD:Ext wr bU:=Fr.low (M:=λb=>wr.heap.size<=b) ((co.mono λ_ h=>h.elim).trans (f6.mono λb O=>by have:=(dU.lt O).1;omega)) λ_ h=>h;have kz:k+1+(ln - k)=ln+1:=ad;simp only[kz] at aq r ⊢;refine dX hK ?_;clear hK K;refine tf ?_;refine ch ?_;clear dU f6 o6 co dZ;have b3:=az aq r bD;clear aq r bD;go_wp2_with(fail);go_ret;obtain⟨aq,r,bD⟩:=b3.o;have U:=br.size;have hS:=aq.sl (Q:=λb=>P b\/fresh w bU b) (λb _ h=>.inl h) (λb ac ap=>.inr ⟨ad,ac⟩);have Y:Sl bU (λb=>P b\/fresh w bU b) v (ln+1) ((l.take k++[n]++l.drop k).map .i):=by simpa only[LR,LQ,Me] using hS
      have cv:=br.trans bD
      first
       | exact⟨v,ln+1,cf,rfl,ad,ad,r,⟨l.take k++[n]++l.drop k,Y⟩,cv⟩
       | exact⟨v,ln+1,cf,l.take k++[n]++l.drop k,rfl,ad,ad,r,Y,cv⟩
end Go.Proofs.YtpkfopfkdgkfkaaGreat

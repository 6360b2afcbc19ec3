/- Part 29 of the proof. No condition of its own. -/
import Derived.Test.YtkhnkojkplbioaaGreatQ13
import Derived.Test.YtkhnkojkplbioaaGreatQ28
namespace Go.Proofs.YtkhnkojkplbioaaGreat
open Go.RowKit Go.Proofs.Tryz
set_option maxRecDepth 1000000
set_option maxHeartbeats 25600000
set_option linter.unusedVariables false
variable{d:D}{t:Int}{cs:List Value}{b:Nat}{P:Nat->Prop}{A I:L3}{p:Prop}
def Fu(w:World)(x:az)(e:Ending)(ab:World):Prop:=
 ∃(IA:L3) (i ic:Nat) (S:L3) (k lc:Nat),e=.returned (.agg (fA x.op x.target x.c7 IA i ic S k lc))/\(ej x).rep ab (fresh w ab) (fA x.op x.target x.c7 IA i ic S k lc).toList/\Ext w ab
structure ku(w wr:World)(l:List dO)(op ah:Int)(aJ:Array Value)(aV:List ds)(k:Nat)(IA:L3)(i ic:Nat)(S:L3)(j lc:Nat):Prop where
 ext:Ext w wr
 b4:aq wr w.heap.size 207 aJ
 b6:aq wr (w.heap.size+1) 58 (fA 0 0 false none 0 0 none 0 0)
 b7:aq wr (w.heap.size+2) 58 (fA op ah false IA i ic S j lc)
 g2:lz (w.heap.size+3) 53 4 55 3 wr IA i ic ((bW l (aV.take k)).map bp) S j lc ((cB l (aV.take k)).map dk)
section
variable {w wr aS aU X:World} {l:List dO} {op ah:Int} {aJ:Array Value} {aV:List ds} {k:Nat} {IA:L3} {i ic:Nat} {S:L3} {j lc:Nat}
theorem og{own:Nat->Prop}{g:Nat}(h:Ext w wr)(he:Ext wr aS)(J:Fr own aS aU)(aB:∀b,own b->w.heap.size<=b)(a9:w.heap.size<=g)(hX:Fr (λb=>b=g) aU X):Ext w X:=by
 have e1:Fr (λb=>w.heap.size<=b) w X:=Fr.trans (Fr.mono h λ_ h=>h.elim) (Fr.trans (Fr.mono he λ_ h=>h.elim) (Fr.trans (J.mono aB) (hX.mono λb O=>by subst O;exact a9)));exact e1.low λ_ h=>h
theorem ku.place(h:ku w wr l op ah aJ aV k IA i ic S j lc)(he:Ext wr aS){r:eS}(bz:aV[k]?=some (.mx r)){dh:L3}{dl:Nat}
  (a9:Gr (λb=>w.heap.size+3<=b/\(Value.slice IA i ic).ownBlock≠some b) (w.heap.size+3) 55 3 aU dh (j+1) dl ((cB l (aV.take k)).map dk++[dk (mo l r)]))
  (J:Fr (λb=>(Value.slice S j lc).ownBlock=some b) aS aU) (bn:dt aS S j lc dh (j+1) dl) (hX:aU.setCell ⟨w.heap.size+2,11,none⟩ (.slice dh (j+1) dl)=X) :
  ku w X l op ah aJ aV (k+1) IA i ic dh (j+1) dl:=by
 have b5:=cO hX;have al:∀b,(Value.slice S j lc).ownBlock=some b->w.heap.size+3<=b:=λb O=>(h.g2.two.lt O).1;refine⟨og h.ext he J (λb O=>by have:=al b O;omega) ad b5,?_,?_,?_,?_⟩
 .exact((h.b4.aj he).on J λO=>by have:=al _ O;omega).on b5 ad
 .exact((h.b6.aj he).on J λO=>by have:=al _ O;omega).on b5 ad
 .rw[<-hX];exact((h.b7.aj he).on J λO=>by have:=al _ O;omega).aM 11 _
 .have e1:bW l (aV.take (k+1))=bW l (aV.take k):=by rw[a1 bz,(h5 l _ _).1];simp[bW]
  have e2:(cB l (aV.take (k+1))).map dk=(cB l (aV.take k)).map dk++[dk (mo l r)]:=by rw[a1 bz,(h5 l _ _).2];simp[cB]
  rw[e1,e2];exact(((h.g2.aj he).swap.grow a9 J bn).swap).c8 b5 λb O _=>ad
theorem ku.int(h:ku w wr l op ah aJ aV k IA i ic S j lc)(he:Ext wr aS){x:VE}(bz:aV[k]?=some (.ex x)){c6:Nat}
  (a9:Gr (λb=>w.heap.size+3<=b/\(Value.slice S j lc).ownBlock≠some b) (w.heap.size+3) 53 4 aU I (i+1) c6 ((bW l (aV.take k)).map bp++[bp (bO l x)]))
  (J:Fr (λb=>(Value.slice IA i ic).ownBlock=some b) aS aU) (bn:dt aS IA i ic I (i+1) c6) (hX:aU.setCell ⟨w.heap.size+2,10,none⟩ (.slice I (i+1) c6)=X) :
  ku w X l op ah aJ aV (k+1) I (i+1) c6 S j lc:=by
 have b5:=cO hX;have al:∀b,(Value.slice IA i ic).ownBlock=some b->w.heap.size+3<=b:=λb O=>(h.g2.one.lt O).1;refine⟨og h.ext he J (λb O=>by have:=al b O;omega) ad b5,?_,?_,?_,?_⟩
 .exact((h.b4.aj he).on J λO=>by have:=al _ O;omega).on b5 ad
 .exact((h.b6.aj he).on J λO=>by have:=al _ O;omega).on b5 ad
 .rw[<-hX];exact((h.b7.aj he).on J λO=>by have:=al _ O;omega).aM 10 _
 .have e1:cB l (aV.take (k+1))=cB l (aV.take k):=by rw[a1 bz,(h5 l _ _).2];simp[cB]
  have e2:(bW l (aV.take (k+1))).map bp=(bW l (aV.take k)).map bp++[bp (bO l x)]:=by rw[a1 bz,(h5 l _ _).1];simp[bW]
  rw[e1,e2];exact((h.g2.aj he).grow a9 J bn).c8 b5 λb O _=>ad
end
theorem uE{V aS:World}{B:Nat}{n c aP aK:Nat}(h:d.rep aS (fresh V aS) cs)(aR:B<=V.heap.size)(ac:∀b,(Value.slice A n c).ownBlock=some b->b<V.heap.size)(au:∀b,(Value.slice I aP aK).ownBlock=some b->b<V.heap.size):
  d.rep aS (lL (λb=>B<=b/\(Value.slice I aP aK).ownBlock≠some b) aS (.slice A n c)) cs:=
 D.aL (λb O=>⟨⟨LD aR O.1,λhc=>by have:=au b hc;have:=O.1;omega⟩,O.2,λhc=>by have:=ac b hc;have:=O.1;omega⟩) _ _ h
theorem D2(dR:vF)(g:Nat)(l:List dO)(M:List bD)(F:List aK)(bC:Bool)(s:ByteArray)(aV:List ds)(v:dO)(f:aK)(J:dD l s=some v)(ap:v.kind=3)(h0:0<=v.n)(hF:F[v.n.toNat]?=some f)(bM:jk M l f.params aV)(jF:f.params.length<=1000)
  (eo en:Int) (es:ByteArray) (EA:L3) (em ec:Nat) (rs:ByteArray) (ce:L3) (cD rc:Nat) (bZ:L3) (n1 c1:Nat) (A2:L3) (n2 c2:Nat) (cE:L3) (n3 c3:Nat) (st:Int)
  (w:World) (bU:tY w g l) (hM:yC w g M) (cn:zD w g F) (hs:Sl w (av w) bZ n1 (aV.map gN)) :
  Calls prog 159 #[.pointer (some ⟨g,0,none⟩),.agg #[.int .i64 (if bC then 4 else 3),.string s,.int .i64 eo,.int .i64 en,.string es,.slice EA em ec,.string rs,.slice ce cD rc,.slice bZ n1 c1,.slice A2 n2 c2,.slice cE n3 c3],.int .i64 st] w
   (Fu w (lK bC v.n (bW l aV) (cB l aV))):=by
 have hlen:=l1 bM;have c4:aV.length=n1:=by rw[<-hs.1,Lo]
 obtain⟨aP,bX,cz,b8,cR,cH,bq⟩:=DF bM J hF bU hM cn hs;obtain⟨bi,cS,cJ⟩:=v;simp only at ap h0 hF;subst ap;obtain⟨ah,rfl⟩:=Lp h0;clear hs bU hM cn bM J hF h0;obtain⟨op,cA⟩:∃op:Int,op=if bC then 3 else 2:=⟨_,rfl⟩
 have hx:lK bC (ah:Int) (bW l aV) (cB l aV)=⟨op,ah,false,none,kh,bW l aV,cB l aV⟩:=by rw[cA];rfl
 rw[hx];clear hx;obtain⟨bP,aE⟩:∃bP:Int,bP=if bC then 4 else 3:=⟨_,rfl⟩
 have da:(bP == 4)=bC:=by rw[aE];cases bC<;>rfl
 rw[<-aE];clear aE;go_enter func159,ntmps159;cases bC
 all_goals
  simp only[if_true,LS,if_false] at cA;go_upto_region 4 with(fail);generalize be:World.alloc _ _=W;have aw:=lC be;have b4:=jw be;have cF:=h1 be;have ba:aq W (w.heap.size+2) 58 (fA op 0 false none 0 0 none 0 0):=by rw[<-be,cA];exact aq.gC _ _ _ (by simp)
  clear be cA;obtain⟨bo,T,cp,fE⟩:=iX aw b4 cF ba;obtain⟨a9,S,ln,lc,du,cT,y⟩:=b8.on aw;have ch:=ae y;obtain⟨a0,aj,af⟩:=b4.two;clear aw b4 cF ba y;refine rC (λ_=>False) [6,11] (.free 0 (.free 1 (.free 2 (.held 3 (.free 4 (.held 5 (.pick [6,10] (λi=>bif i == 6 then .free 7 (.free 8 (.free 9 (.pick [10] (λ_=>.pick [11] (λ_=>.free 12 (.stop)))))) else .pick [6] (λ_=>.free 7 (.free 8 (.free 9 (.pick [11] (λ_=>.free 12 (.stop)))))))))))))) ?_
  iterate 3 refine tf ?_
  refine th ?_;refine tf ?_;refine th ?_;refine ly (P:=?_) (ops:=?_) (Q:=?_) (R:=?_) (tails:=?_) (rest:=.pick [11] (λ_=>.free 12 (.stop))) (aa:=?_) (C:=λc9 V=>Ext W V/\aq V c9 166 #[.string ⟨#[]⟩,.int .i64 0,.int .i64 0]/\W.heap.size<=c9) (λkey=>?_) ?_
  rotate_left 6
  ·
   refine a2 ?_ ?_
   ·
    refine bQ rfl (λK hK=>?_) rfl;go_simp;refine(dZ S ln lc l s W.drew (ch.on (Fr.ext LW.drew)) du).mono ?_;rintro e aS ⟨rfl,ar⟩;rw[bX.o];simp only[iZ,rv];refine dP hK ?_;clear hK K
    iterate 3 refine tf ?_
    refine ao ?_;refine dT ?_;generalize hV:World.alloc _ _=V;have aR:=aI hV;have bm:Ext W V:=hV▸(Fr.aF ar).alloc _;have hle:=(Fr.aF ar).size;clear hV ar;generalize aS.heap.size=c9 at *;exact key c9 V ⟨bm,aR,hle⟩
   ·
    refine dT ?_;refine ao ?_;refine bQ rfl (λK hK=>?_) rfl;go_simp;generalize hV:World.alloc _ _=V;have aR:=aI hV;have bm:=aW hV;clear hV;refine(dZ S ln lc l s V.drew (ch.on (Fr.ext bm.drew)) du).mono ?_;rintro e aS ⟨rfl,ar⟩;rw[bX.o];simp only[iZ,rv];refine dP hK ?_;clear hK K
    iterate 3 refine tf ?_
    have cG:=aR.aj (Fr.aF ar);have aN:=bm.trans (Fr.aF ar);clear aR bm ar;exact key W.heap.size aS ⟨aN,cG,Lk _⟩
  ·
   rintro c9 V ⟨bm,b7,ai⟩;have c5:=fE.lt;obtain⟨a7,am,aF⟩:=b7.two;clear a0 aj af cT;refine ao ?_;refine bQ rfl (λK hK=>?_) rfl;go_simp;refine dP hK ?_;clear hK K;refine tf ?_;refine b9 ?_;generalize hX:World.setCell _ _ _=X;obtain⟨br,bs,_⟩:=qe b7 bm ai hX;have aX:=ae (bo.trans bs);have bu:=ae (T.aj bs);have u:=ae (cp.aj bs);have m:=fE.aj bs;have a1:=ae m;clear hX a7 am aF b7 bm bs;obtain⟨a7,am,aF⟩:=br.two;obtain⟨a0,aj,af⟩:=m.two;clear m;go_upto_region 12 with(fail);generalize cu:World.setCell _ _ _=Y;have H:=u.lt;have bR:=cO cu;have aQ:aq Y (w.heap.size+2) 58 (fA op ah false none 0 0 none 0 0):=cu▸a1.aM 1 _;have a4:Ext w Y:=(Fr.trans (aX.mono λ_ h=>h.elim) bR).low (λb hm=>ad);have N:=bu.on bR ad;have aD:=u.on bR ad;obtain⟨bd,bB,bb,cf⟩:=iX a4 N aD aQ;have bL:=br.on bR ad;obtain⟨ci,FA,fn,fc,aB,f3,bG⟩:=cH.o;have cq:F[ah]?=some f:=by have:=cz.o;simpa using this
   have bK:ah<fn:=by have ac:=(List.getElem?_eq_some_iff.1 cq).1;have au:=bG.1;rw[Lo] at au;omega
   obtain⟨cj,cY,a5,cs,rfl,cx,an,cd,cW,bh⟩:=bG.g6 nD bK;rw[cq] at an;injection an with an;subst an;obtain⟨PA,pn,pc,fy,bn,bc,rfl,db,cv,cg,_⟩:=k3.1 cd;replace f3:=(a4.cell ci (λh=>h)).trans f3
   have f4:=(a4.cell cx (λh=>h)).trans (bh 1 _ rfl);have bI:=a4.size;have bN:cj<Y.heap.size:=Ll cx bI;have cK:g<Y.heap.size:=Ll ci bI;have gu:f.params.length=pn:=by rw[<-cg.1,Lo]
   have gO:=ae cg;obtain⟨a7,am,aF⟩:=bL.two;obtain⟨a0,aj,af⟩:=N.two;obtain rfl:n1=pn:=ad;have bV:=ae (show ku w Y l op ah #[.int .i64 bP,.string s,.int .i64 eo,.int .i64 en,.string es,.slice EA em ec,.string rs,.slice ce cD rc,.slice bZ n1 c1,.slice A2 n2 c2,.slice cE n3 c3] aV 0 none 0 0 none 0 0 from
    ⟨a4,N,aD,aQ,lz.nil _ _ _ _ _ _⟩)
   clear cu bR a4 aD aQ br bG cd cW bh cg cx aX bu u a1 ai N bL bd bB bb cf;go_wp2;refine eC (λ_=>False) [(0,3),(1,3),(2,3),(3,3),(4,0),(5,3),(6,0),(7,3),(8,3),(9,0),(10,3)] ?_
   iterate 4 refine pf ?_
   refine ph ?_;refine pf ?_;refine ph ?_
   iterate 2 refine pf ?_
   refine ph ?_;refine pf ?_;refine aC ?_;clear a7 am aF f3 f4 bN;go_wp2;clear a0 aj af;go_loopw [11] (λbg wr=>∃(k:Nat) (IA:L3) (i ic:Nat) (S:L3) (j lc:Nat),k<=n1/\bg=.int .i64 k/\i<=k/\j<=k/\ku w wr l op ah #[.int .i64 bP,.string s,.int .i64 eo,.int .i64 en,.string es,.slice EA em ec,.string rs,.slice ce cD rc,.slice bZ n1 c1,.slice A2 n2 c2,.slice cE n3 c3] aV k IA i ic S j lc) (λbg _=>n1 - (intOf bg).toNat)
   case atStart=>exact⟨0,none,0,0,none,0,0,ad,rfl,Lk _,Lk _,⟨bV.ext.drew,bV.b4,bV.b6,bV.b7,bV.g2.aj LW.drew⟩⟩
   case round=>
    obtain⟨k,IA,i,ic,S,j,lc,ap,rfl,bx,z,hC⟩:=hrel;clear bV;have bV:=ae hC;obtain⟨a0,aj,af⟩:=hC.b4.two;by_cases al:k<n1
    .obtain⟨ab,cV,a,cs,rfl,ay,bz,ag,a8,Z⟩:=(bq.on (Fr.ext hC.ext)).g6 td al;obtain⟨pb,gP,q,cX,rfl,eQ,bA,bE,aZ,dL⟩:=(gO.on (Fr.ext hC.ext)).g6 rV al;obtain rfl:=od.1 bE;have bf:=dL 1 _ rfl;have bF:pb<wr.heap.size:=eQ;have b2:ab<wr.heap.size:=ay;have HA:=ae bz;rcases ny aP.o bA bz with⟨r,rfl,b0,eF⟩|⟨x,rfl,b0,cy⟩
     .rw[b0] at bf;obtain⟨a6,cU,cN,cM,b1,zc,rfl,ak⟩:=D9 ag;have c0:=Z 0 _ rfl;have cr:=Z 1 _ rfl;have cm:=Z 2 _ rfl;have bk:=Z 3 _ rfl;have b5:=Z 4 _ rfl;have b6:=Z 5 _ rfl;have cb:=Z 6 _ rfl;simp only[Lu] at c0;have U:=ae ak;clear hC a8 Z bE aZ dL eQ ay ag bz bA ak;go_upto_region 20 with(fail);generalize hV:World.alloc _ _=V;have L:=aW hV;have bt:=aI hV;have ba:=bV.b7.aj L;replace bf:=((Fr.tM L).1 pb _ bF).trans bf
      replace bF:pb<V.heap.size:=Ll bF L.size
      have nt:=bV.b7.lt;have cL:=L.size;clear hV a0 aj af c0 cr cm bk b5 b6 cb b2;obtain⟨d0,aL,aM⟩:=bt.two;obtain⟨a0,aj,af⟩:=ba.two;clear ba bt;go_wp2;refine eC (λ_=>False) [(0,3),(1,0),(2,3),(3,3),(4,3),(5,3),(6,0),(7,3)] ?_;refine pf ?_;refine ph ?_
      iterate 4 refine pf ?_
      refine ph ?_;refine pf ?_;refine aC ?_;clear bf bF;go_wp2;refine eC (λ_=>False) [(0,3),(1,0),(2,3),(3,3),(4,0),(5,3),(6,1),(7,1),(8,2),(9,3),(10,2)] ?_;refine pf ?_;refine bS (v:=?_) rfl (by rfl) (λV hV=>?_) ?_;rotate_left
      .obtain⟨hVc,hVf⟩:=Fr.jr hV
       (go_simp<;>with_reducible rfl)
      try simp only[PU]
      iterate 2 refine pf ?_
      refine bS (v:=?_) rfl (by rfl) (λV hV=>?_) ?_;rotate_left
      .obtain⟨hVc,hVf⟩:=Fr.jr hV
       (go_simp<;>with_reducible rfl)
      try simp only[PU]
      refine pf ?_;refine aG rfl (λK hK=>?_);go_simp;refine(dR g l M r eF st a6 cU cN cM _ (b8.on (bV.ext.trans L).drew.drew) (cR.on (bV.ext.trans L).drew.drew) (D.on U.o (Fr.ext L.drew.drew))).mono ?_;rintro e aS ⟨g6,g7,cw,cc,cC,rfl,co,ar⟩;refine dq hK (ar) ?_;clear hK K;have aN:Ext V aS:=Fr.aF (Fr.aF ar);have n:(dk (mo l r)).rep aS (fresh V aS) [.bool g6,.int .i64 g7,.slice cw cc cC]:=co;have bm:=L.trans aN;have a3:=aN.size;have cQ:∀b,(Value.slice IA i ic).ownBlock=some b->b<V.heap.size:=λb O=>by have:=(bV.g2.one.lt O).2;omega
      have aT:∀b,(Value.slice S j lc).ownBlock=some b->b<V.heap.size:=λb O=>by have:=(bV.g2.two.lt O).2;omega
      refine rz ?_;refine ax rfl (λK hK=>?_);rw[if_pos (by rfl)];refine q9 HU (.tmp 92) (.tmp 98) (by rfl) (bV.g2.aj bm).two (uE n ad aT cQ) (by rfl) (by rfl) (by rfl) ad ad ad ?_;intro dh dl aU bH az cl ca;have m:=(bV.b7.aj bm).on az (λO=>by have:=(bV.g2.two.lt O).1;omega);have bY:=bJ bH az cl bm;clear bH az cl co n ar aN bm L a0 aj af d0 aL aM cQ aT a3;obtain⟨a0,aj,af⟩:=m.two;clear m;refine dP hK ?_;clear hK K;refine pf ?_;refine ax rfl (λK hK=>?_);go_simp;refine dP hK ?_;clear hK K;refine aC ?_;clear a0 aj af;generalize hX:World.setCell aU _ _=bT;have bv:=ae (bV.place bY.2.2.2 HA.o bY.1 bY.2.1 bY.2.2.1 hX);clear hX;go_wp2;go_roundw
      case rel=>exact⟨k+1,IA,i,ic,dh,j+1,dl,ad,by go_num,ad,ad,bv.o⟩
      case measure=>exact aH
     .rw[b0] at bf;obtain⟨b1,cI,zc,dd,cc,xs,cw,dc,cC,rfl,ak⟩:=D7 ag;have c0:=Z 0 _ rfl;have cr:=Z 1 _ rfl;have cm:=Z 2 _ rfl;have bk:=Z 3 _ rfl;have b5:=Z 4 _ rfl;have b6:=Z 5 _ rfl;have cb:=Z 6 _ rfl;simp only[Lu] at c0;have U:=ae ak;clear hC a8 Z bE aZ dL eQ ay ag bz bA ak;go_upto_region 20 with(fail);generalize hV:World.alloc _ _=V;have L:=aW hV;have bt:=aI hV;have ba:=bV.b7.aj L;replace bf:=((Fr.tM L).1 pb _ bF).trans bf
      replace bF:pb<V.heap.size:=Ll bF L.size
      have nt:=bV.b7.lt;have cL:=L.size;clear hV a0 aj af c0 cr cm bk b5 b6 cb b2;obtain⟨d0,aL,aM⟩:=bt.two;obtain⟨a0,aj,af⟩:=ba.two;clear ba bt;go_wp2;refine eC (λ_=>False) [(0,3),(1,0),(2,3),(3,3),(4,3),(5,3),(6,0),(7,3)] ?_;refine pf ?_;refine ph ?_
      iterate 4 refine pf ?_
      refine ph ?_;refine pf ?_;refine aC ?_;clear bf bF;go_wp2;refine eC (λ_=>False) [(0,3),(1,0),(2,3),(3,3),(4,0),(5,3),(6,1),(7,1),(8,2),(9,3),(10,2)] ?_;refine pf ?_;refine bS (v:=?_) rfl (by rfl) (λV hV=>?_) ?_;rotate_left
      .obtain⟨hVc,hVf⟩:=Fr.jr hV
       (go_simp<;>with_reducible rfl)
      try simp only[PU]
      iterate 2 refine pf ?_
      refine bS (v:=?_) rfl (by rfl) (λV hV=>?_) ?_;rotate_left
      .obtain⟨hVc,hVf⟩:=Fr.jr hV
       (go_simp<;>with_reducible rfl)
      try simp only[PU]
      refine pf ?_;refine aG rfl (λK hK=>?_);go_simp;refine(gk l x cy g st _ _ _ _ _ _ _ (b8.on (bV.ext.trans L).drew.drew) (D.on U.o (Fr.ext L.drew.drew))).mono ?_;rintro e aS ⟨c8,cP,b3,aY,c7,cZ,rfl,co,ar⟩;refine dq hK (ar) ?_;clear hK K;have aN:Ext V aS:=Fr.aF (Fr.aF ar);have n:(bp (bO l x)).rep aS (fresh V aS) [.int .i64 c8,.int .i64 cP,.string b3,.slice aY c7 cZ]:=co;have bm:=L.trans aN;have a3:=aN.size;have cQ:∀b,(Value.slice IA i ic).ownBlock=some b->b<V.heap.size:=λb O=>by have:=(bV.g2.one.lt O).2;omega
      have aT:∀b,(Value.slice S j lc).ownBlock=some b->b<V.heap.size:=λb O=>by have:=(bV.g2.two.lt O).2;omega
      refine rz ?_;refine ax rfl (λK hK=>?_);rw[if_pos (by rfl)];refine q9 pP (.tmp 102) (.tmp 108) (by rfl) (bV.g2.aj bm).one (uE n ad cQ aT) (by rfl) (by rfl) (by rfl) ad ad ad ?_;intro I c6 aU bH az cl ca;have m:=(bV.b7.aj bm).on az (λO=>by have:=(bV.g2.one.lt O).1;omega);have bY:=bJ bH az cl bm;clear bH az cl co n ar aN bm L a0 aj af d0 aL aM cQ aT a3;obtain⟨a0,aj,af⟩:=m.two;clear m;refine dP hK ?_;clear hK K;refine pf ?_;refine ax rfl (λK hK=>?_);go_simp;refine dP hK ?_;clear hK K;refine aC ?_;clear a0 aj af;generalize hX:World.setCell aU _ _=bT;have bv:=ae (bV.int bY.2.2.2 HA.o bY.1 bY.2.1 bY.2.2.1 hX);clear hX;go_wp2;go_roundw
      case rel=>exact⟨k+1,I,i+1,c6,S,j,lc,ad,by go_num,ad,ad,bv.o⟩
      case measure=>exact aH
    .obtain rfl:k=n1:=ad;have ba:=hC.b7;have cF:=hC.b6;clear hC a0 aj af;obtain⟨a0,aj,af⟩:=ba.two;obtain⟨d0,aL,aM⟩:=cF.two;clear ba;go_wp2;generalize hX:World.setCell _ _ _=bT;obtain⟨ct,bj,ck⟩:=bw (fA op ah false IA i ic S j lc).toList (by rfl) cF bV.ext ad hX;clear hX a0 aj af d0 aL aM;obtain⟨bl,aA,aO⟩:=ct.two;refine LU (v:=.agg (fA op ah false IA i ic S j lc)) (by simp[results,Tryz.results159,go_sem,bl]) rfl ?_;have hG:=bV.g2.c8 ck λb O _=>ad;have fd:=ck.size;rw[Ls ad] at hG;refine⟨IA,i,ic,S,j,lc,rfl,?_,bj⟩;exact jB (hG.one.sl (λb ac au=>⟨by have:=au.1;omega,ac⟩) (λb ac au=>⟨ad,ac⟩)) (hG.two.sl (λb ac au=>⟨by have:=au.1;omega,ac⟩) (λb ac au=>⟨ad,ac⟩)) hG.one.cap.1 hG.two.cap.1
section
variable {w ab aS aU b6 cK X:World} {g B:Nat} {M:List bD} {F:List aK} {l:List dO} {S:L3} {ln lc:Nat} {n:Int} {st:Nat} {code:List az} {sites:List Int} {bz:L3} {b3:Nat} {bU:L3} {bE:Nat}
theorem cN.own(h:cN w g B M F l S ln lc n st code sites bz b3 bU bE){j:Nat}{v:Value}(hX:w.setCell ⟨g,j,none⟩ v=X):
  Mv g (.slice bz code.length b3) (.slice bU sites.length bE) w (.slice bz code.length b3) (.slice bU sites.length bE) X/\Fr (λb=>b=g) w X/\lz B 58 12 3 1 X bz code.length b3 (code.map ej) bU sites.length bE (sites.map D.i):=by
 have J:=cO hX;exact⟨Mv.Jm (J.mono λb O=>.inl O),J,h.rows.c8 J λb O _=>by have:=h.base.1;omega⟩
namespace Cb
theorem Bh(h:p:=by
 rw[<-hX];exact aR.aM 5 _
 ):p:=h
end Cb
open Cb in
theorem cN.stmt(h:cN w g B M F l S ln lc n st code sites bz b3 bU bE)(hX:w.setCell ⟨g,5,none⟩ (.int .i64 ((st+1:Nat):Int))=X) :
  cN X g B M F l S ln lc n (st+1) code sites bz b3 bU bE/\Mv g (.slice bz code.length b3) (.slice bU sites.length bE) w (.slice bz code.length b3) (.slice bU sites.length bE) X:=by
 exact Bg
namespace Cc
theorem Bh(h:p:=by
 rw[<-hX];exact aR.aM 4 _
 ):p:=h
end Cc
open Cc in
theorem cN.locals(h:cN w g B M F l S ln lc n st code sites bz b3 bU bE){aP:Int}(hX:w.setCell ⟨g,4,none⟩ (.int .i64 aP)=X):
  cN X g B M F l S ln lc aP st code sites bz b3 bU bE/\Mv g (.slice bz code.length b3) (.slice bU sites.length bE) w (.slice bz code.length b3) (.slice bU sites.length bE) X:=by
 exact Bg
theorem cN.EE(h:cN w g B M F l S ln lc n st code sites bz b3 bU bE){aO:List dO}{bH:L3}{bd bP:Nat}(hn:bd<=1000000)(hl:Sl w (off (Ms g (.slice bz code.length b3) (.slice bU sites.length bE)) w) bH bd (aO.map b2))(hX:w.setCell ⟨g,3,none⟩ (.slice bH bd bP)=X):
  cN X g B M F aO bH bd bP n st code sites bz b3 bU bE/\Mv g (.slice bz code.length b3) (.slice bU sites.length bE) w (.slice bz code.length b3) (.slice bU sites.length bE) X:=by
 obtain⟨hM,J,hG⟩:=h.own hX;obtain⟨GA,gn,gc,MA,mn,mc,FA,fn,fc,aR,cv,bS,cW,H⟩:=h.blk;refine⟨⟨⟨GA,gn,gc,MA,mn,mc,FA,fn,fc,?_,cv,bS,cW.cS hM,H.cS hM⟩,⟨h.base.1,LD h.base.2 hM.fr.size⟩,⟨hn,hl.cS hM⟩,hG⟩,hM⟩;rw[<-hX];exact aR.aM 3 _
theorem cN.target(h:cN w g B M F l S ln lc n st code sites bz b3 bU bE)(O:b<code.length)(t:Int):∃N,bz=some ⟨N,0,none⟩/\N<w.heap.size/\w.frozen? ⟨N,b*12+1,none⟩=false/\(∃u,w.cell? ⟨N,b*12+1,none⟩=some (.int .i64 u))/\
  ∀X,w.setCell ⟨N,b*12+1,none⟩ (.int .i64 t)=X->cN X g B M F l S ln lc n st (ga code b t) sites bz b3 bU bE/\Mv g (.slice bz code.length b3) (.slice bU sites.length bE) w (.slice bz code.length b3) (.slice bU sites.length bE) X:=by
 obtain⟨hl,xs,ac,au⟩:=h.rows.one;obtain⟨N,aX,C,P,ck,c1,L⟩:=im ac ad;have bI:xs.length=code.length*12:=by rw[D.hj _ _ au,D.gY (z:=12) (λd hd=>by obtain⟨x,_,rfl⟩:=LL.1 hd;exact mJ x),Lo]
 have al:b*12+1<xs.length:=by rw[bI];omega
 have a6:xs[b*12+1]?=some (xs[b*12+1]'al):=List.getElem?_eq_getElem _;have hint:∃u,xs[b*12+1]?=some (.int .i64 u):=by
  have hm:(code.map ej)[b]?=some (ej (code[b]'O)):=by rw[List.getElem?_map,List.getElem?_eq_getElem O];rfl
  obtain⟨cs,ba,a8,bi⟩:=D.pv au (z:=12) (λd hd=>by obtain⟨x,_,rfl⟩:=LL.1 hd;exact mJ x) hm;unfold ej at ba;rw[bM,bq] at ba;obtain⟨y,rfl,ba⟩:=ba;rw[bq] at ba;obtain⟨ch,rfl,ba⟩:=ba;exact⟨_,bi 1 _ rfl⟩
 refine⟨N,aX,P,c1 _,?_,λX hX=>?_⟩
 .obtain⟨u,hu⟩:=hint;exact⟨u,ck _ _ hu⟩
 have aB:(Value.slice bz code.length b3).ownBlock=some N:=by rw[aX];rfl
 have J:=cO hX;have hM:Mv g (.slice bz code.length b3) (.slice bU sites.length bE) w (.slice bz code.length b3) (.slice bU sites.length bE) X:=Mv.Jm (J.mono λb O=>by subst O;exact .inr (.inl aB));have a:¬(Value.slice bU sites.length bE).ownBlock=some N:=h.rows.ne N aB;obtain⟨GA,gn,gc,MA,mn,mc,FA,fn,fc,aR,cv,bS,cW,H⟩:=h.blk;refine⟨⟨⟨GA,gn,gc,MA,mn,mc,FA,fn,fc,?_,cv,bS,?_,?_⟩,⟨h.base.1,LD h.base.2 hM.fr.size⟩,⟨h.names.1,?_⟩,?_⟩,hM⟩
 .rw[cy];exact aR.on J (aD h.base.1)
 .rw[cy];exact cW.cS hM
 .rw[cy];exact H.cS hM
 .rw[cy];exact h.names.2.cS hM
 .have bN:=L (b*12+1) (.int .i64 t) ad;rw[hX] at bN;rw[cy];refine⟨⟨by rw[Lo,cy],_,bN,?_⟩,?_,h.rows.ne⟩
  .refine sf t code xs b ?_ O;exact D.bZ (λb O=>⟨O.1,by have:=J.size;have:=O.2.1;omega,O.2.2⟩) _ _ (D.bY (λb aT=>J.block b aT.2.1 λhe=>aT.2.2 (by rw[aB,he])) _ _ au)
  .exact h.rows.two.dm J.size λb al hp=>J.block b al λhe=>by
    subst he;rcases hp with hp|hp
    .exact hp.2 aB
    .exact a hp
end
theorem aq.cS{w ab:World}{g:Nat}{t:TypeId}{cs:Array Value}{cv sv a f:Value}(h:aq w b t cs)(hn:¬Ms g cv sv b)(hM:Mv g cv sv w a f ab):aq ab b t cs/\¬Ms g a f b:=
 ⟨h.on hM.fr hn,λhm=>hn (hM.own b h.lt hm)⟩
theorem qo(b:an):b.isNil=decide (b.list.length=0):=by cases b<;>simp[an.isNil,an.list]
theorem uq(b:an):(c6 b).length=b.list.length:=by rw[cG,Lo]
def D1(e:dO):List Value:=[.string e.name,.int .i64 e.kind,.int .i64 e.n]
theorem jj:cj prog 162 166 (.agg #[.string ⟨#[]⟩,.int .i64 0,.int .i64 0]) 3 32:=cj.mk' Tryz.underlying162 (by kernel_rfl) rfl ad
theorem jX{w:World}(e:dO):(b2 e).rep w P (D1 e):=iC.2 rfl
theorem k5{w:World}(l:List dO):D.aQ w P (l.map b2) (l.flatMap D1):=m4 jX l
theorem uy{w:World}{P Q:Nat->Prop}:∀{l:List dO} {xs:List Value},D.aQ w P (l.map b2) xs->D.aQ w Q (l.map b2) xs
 | [],xs,h=>by simpa only[LK,D.aQ] using h
 | e::l,xs,h=>by
  rw[Lq] at h ⊢;obtain⟨x,y,rfl,hx,bb⟩:=dH.1 h;exact dH.2 ⟨x,y,rfl,iC.2 (iC.1 hx),uy bb⟩
theorem kH{w:World}{n:Nat}{l:List dO}(h:Sl w (av w) A n (l.map b2)):Src w 3 A n (l.flatMap D1):=
 Src.lM (Sl.JB (f:=D1) (sz:=3) (λ_ _ _ _ h=>iC.1 h) (λ_=>rfl) h) (λ_ _=>rfl) (λx _ u hu=>by
  simp only[D1,LC,List.not_mem_nil,or_false] at hu;rcases hu with rfl|rfl|rfl<;>rfl) ad
theorem ij{w aS:World}{g B:Nat}{M:List bD}{F:List aK}{l:List dO}{S:L3}{ln lc:Nat}{n:Int}{st:Nat}{code:List az}{sites:List Int}{bz:L3}{b3:Nat}{bU:L3}{bE:Nat}(h:cN w g B M F l S ln lc n st code sites bz b3 bU bE)(hd:d.rep aS (fresh w aS) cs):
  d.rep aS (Kn B g (.slice bz code.length b3) (.slice bU sites.length bE) aS) cs:=by
 have al:=h.lt;have C:=h.base;refine D.aL (λb O=>⟨by have:=O.1;omega,O.2,λhm=>?_⟩) _ _ hd;have ac:=O.1;rcases hm with hm|hm|hm
 .omega
 .have:=(h.rows.one.lt hm).2;omega
 .have:=(h.rows.two.lt hm).2;omega
theorem k4{w:World}{op:Int}{g:Bool}{e:VE}{eo en:Int}{es:ByteArray}{EA:L3}{em ec:Nat}(h:(bp e).rep w P [.int .i64 eo,.int .i64 en,.string es,.slice EA em ec]):
  (ej ⟨op,t,g,some e,kh,[],[]⟩).rep w P [.int .i64 op,.int .i64 t,.bool g,.int .i64 eo,.int .i64 en,.string es,.slice EA em ec,.bool false,.int .i64 0,.slice none 0 0,.slice none 0 0,.slice none 0 0]:=by
 unfold ej;rw[bM];exact bq.2 ⟨_,rfl,bq.2 ⟨_,rfl,fv.2 ⟨_,rfl,dH.2 ⟨[_,_,_,_],_,rfl,h,ov (aN.2 ⟨none,0,0,_,rfl,Lk _,Sl.bR _,aN.2 ⟨none,0,0,[],rfl,Lk _,Sl.bR _,aP.2 rfl⟩⟩)⟩⟩⟩⟩
theorem wu{w:World}{op:Int}{g:Bool}{p:bN}{pb:Bool}{pi:Int}{PA:L3}{pm pc:Nat}(h:(dk p).rep w P [.bool pb,.int .i64 pi,.slice PA pm pc]):
  (ej ⟨op,t,g,none,p,[],[]⟩).rep w P [.int .i64 op,.int .i64 t,.bool g,.int .i64 0,.int .i64 0,.string ⟨#[]⟩,.slice none 0 0,.bool pb,.int .i64 pi,.slice PA pm pc,.slice none 0 0,.slice none 0 0]:=by
 unfold ej;rw[bM];exact bq.2 ⟨_,rfl,bq.2 ⟨_,rfl,fv.2 ⟨_,rfl,qQ (dH.2 ⟨[_,_,_],_,rfl,h,aN.2 ⟨none,0,0,_,rfl,Lk _,Sl.bR _,aN.2 ⟨none,0,0,[],rfl,Lk _,Sl.bR _,aP.2 rfl⟩⟩⟩)⟩⟩⟩
def lQ(U:hz)(nk:Int)(F:List aK)(b:an):Prop:=
 ∀(G:Env) (d:Nat) (l:List dO) (V T:L4) (n:Int) (st:Nat) (code:List az) (sites:List Int) (g B:Nat) (S:L3) (ln lc:Nat) (bz:L3) (b3:Nat) (bU:L3) (bE:Nat) (A:L3) (m c:Nat) (w:World),
  e6 G d V T b->Sc U G l V T n nk->vD F G l->(∀f∈F,f.params.length<=1000)->cN w g B U.af F l S ln lc n st code sites bz b3 bU bE->Sl w (off (Ms g (.slice bz code.length b3) (.slice bU sites.length bE)) w) A m (c6 b)->
  code.length+2*b.num<=100000->sites.length=code.length->n+b.num<=100000->st+b.num<=100000->l.length+b.num<=100000->
  Calls prog 133 #[.pointer (some ⟨g,0,none⟩),.slice A m c] w λe ab=>e=.returned (.tuple #[])/\∃Y ah aH bc y,y.length=(dL b l n code).1.length/\
   cN ab g B U.af F l S ln lc (dL b l n code).2 (st+b.num) (dL b l n code).1 y Y ah aH bc/\
   Mv g (.slice bz code.length b3) (.slice bU sites.length bE) w (.slice Y (dL b l n code).1.length ah) (.slice aH y.length bc) ab
theorem gP:∀b:an,b.list.length<=b.num
 | .nil=>by simp[an.list]
 | .set _ _ _ rest=>by simp[an.list,an.num,gP rest]
 | .call _ _ _ rest=>by simp[an.list,an.num,gP rest]
 | .lock _ _ rest=>by simp[an.list,an.num,gP rest]
 | .ite _ th el rest=>by simp[an.list,an.num];have:=gP rest;omega
 | .gz _ th rest=>by simp[an.list,an.num];have:=gP rest;omega
 | .ret rest=>by simp[an.list,an.num,gP rest]
def fT:Code->Option Code
 | .loop c=>some c
 | .seq a b=>match fT a with
  | some c=>some c
  | none=>fT b
 | .block _ c=>fT c
 | .scope c=>fT c
 | .cond _ a b=>match fT a with
  | some c=>some c
  | none=>fT b
 | _=>none
noncomputable def s6:Code:=((Tryz.f133.body.bind fT).getD .skip)
def oJ(U:hz)(nk:Int)(F:List aK)(b:an)(G:Env)(d:Nat)(l:List dO)(n:Int)(st:Nat)(code:List az)(sites:List Int)(g B:Nat)(S:L3)(ln lc:Nat)(bz:L3)(b3:Nat)(bU:L3)(bE:Nat)(A:L3)(m c:Nat)(w:World)(bg:Value)(wr:World):Prop:=∃(k:Nat) (rest:an) (aO:List dO) (aY aw:L4) (aP:Int) (ab:Nat) (u:List az) (y:List Int) (bH:L3) (bd bP:Nat) (Y:L3) (ah:Nat) (aH:L3) (bc:Nat),bg=.int .i64 k/\k<=m/\b.list.drop k=rest.list/\dL rest aO aP u=dL b l n code/\ab+rest.num=st+b.num/\
   e6 G d aY aw rest/\Sc U G aO aY aw aP nk/\vD F G aO/\u.length+2*rest.num<=100000/\y.length=u.length/\aP+rest.num<=100000/\aO.length+rest.num<=100000/\cN wr g B U.af F aO bH bd bP aP ab u y Y ah aH bc/\
   Mv g (.slice bz code.length b3) (.slice bU sites.length bE) w (.slice Y u.length ah) (.slice aH y.length bc) wr
def iV(U:hz)(nk:Int)(F:List aK)(b:an)(G:Env)(d:Nat)(l:List dO)(n:Int)(st:Nat)(code:List az)(sites:List Int)(g B:Nat)(S:L3)(ln lc:Nat)(bz:L3)(b3:Nat)(bU:L3)(bE:Nat)(A:L3)(m c:Nat)(w:World)(a:Act)(wr:World):Prop:=∃gJ gQ z u8 gL eR bm bL ce bV eS eV eW eX eY eZ e3 e5 e7 e8 e9 fb fd u32 fe ff fh fi fj fk fl fm fo fq fr fs ft fu fv fw fx fz fA fB fC fD fE fF fG fH fI fJ fK fL fM u64 fN fO fP fQ fR fS fT fU fV fW fX fY fZ f3 f4 f5 f6 f7 f8 f9 ga gb gd ge gf gg gh gi gj gk gl gm go gp gq H I am aF aL aM aN aV aW a7 bb be bg bo br bs bw bI bO bW b2 b5 b8 cc cd cf ch cj cp cr ct cx cA cB cC cD cF cG cH cL cM cP cQ cS cT cU cV cW cX cY cZ c4 c5 c6 c7 c8 c9 da db dc dd de df dg dh di dj dk dl dm dn dp dr ds du dw dx dy dz dA dB dC dD dF dG dH dI dJ dK dM dN dQ dS dU dV dW dX dZ d0 d1 d2 d3 d4 d5 d6 d7 d8 d9 ea eb ec ed ee ef eg eh ei ej ek el em en eo ep eq er es et eu ev ew ex ey ez eA eB eD eE eF eG eH eI eJ eK eL eM eN eO eP:Value,oJ U nk F b G d l n st code sites g B S ln lc bz b3 bU bE A m c w gJ wr/\a=⟨#[.pointer (some ⟨g,0,none⟩),.slice A m c,undef,undef,.slice S ln lc,gJ,gQ,z,u8,gL,eR,bm,bL,ce,bV,.pointer (some ⟨g,0,none⟩),.pointer (some ⟨g,0,none⟩),.pointer (some ⟨g,3,none⟩),.slice S ln lc,eS,eV,eW,eX,eY,eZ,e3,e5,e7,e8,e9,fb,fd,u32,fe,ff,fh,fi,fj,fk,fl,fm,fo,fq,fr,fs,ft,fu,fv,fw,fx,fz,fA,fB,fC,fD,fE,fF,fG,fH,fI,fJ,fK,fL,fM,u64,fN,fO,fP,fQ,fR,fS,fT,fU,fV,fW,fX,fY,fZ,f3,f4,f5,f6,f7,f8,f9,ga,gb,gd,ge,gf,gg,gh,gi,gj,gk,gl,gm,go,gp,gq,H,I,am,aF,aL,aM,aN,aV,aW,a7,bb,be,bg,bo,br,bs,bw,bI,bO,bW,b2,b5,b8,cc,cd,cf,ch,cj,cp,cr,ct,cx,cA,cB,cC,cD,cF,cG,cH,cL,cM,cP,cQ,cS,cT,cU,cV,cW,cX,cY,cZ,c4,c5,c6,c7,c8,c9,da,db,dc,dd,de,df,dg,dh,di,dj,dk,dl,dm,dn,dp,dr,ds,du,dw,dx,dy,dz,dA,dB,dC,dD,dF,dG,dH,dI,dJ,dK,dM,dN,dQ,dS,dU,dV,dW,dX,dZ,d0,d1,d2,d3,d4,d5,d6,d7,d8,d9,ea,eb,ec,ed,ee,ef,eg,eh,ei,ej,ek,el,em,en,eo,ep,eq,er,es,et,eu,ev,ew,ex,ey,ez,eA,eB,eD,eE,eF,eG,eH,eI,eJ,eK,eL,eM,eN,eO,eP,undef,undef,undef,undef],[]⟩
def jt(m:Nat)(a:Act)(_:World):Nat:=m - (intOf (a.tmps.getD 5 undef)).toNat
def Ft(U:hz)(nk:Int)(F:List aK)(b:an)(G:Env)(d:Nat)(l:List dO)(n:Int)(st:Nat)(code:List az)(sites:List Int)(g B:Nat)(S:L3)(ln lc:Nat)(bz:L3)(b3:Nat)(bU:L3)(bE:Nat)(A:L3)(m c:Nat)(w:World)(a:Act)(wr:World):Prop:=∃gJ gQ z u8 gL eR bm bL ce bV eS eV eW eX eY eZ e3 e5 e7 e8 e9 fb fd u32 fe ff fh fi fj fk fl fm fo fq fr fs ft fu fv fw fx fz fA fB fC fD fE fF fG fH fI fJ fK fL fM u64 fN fO fP fQ fR fS fT fU fV fW fX fY fZ f3 f4 f5 f6 f7 f8 f9 ga gb gd ge gf gg gh gi gj gk gl gm go gp gq H I am aF aL aM aN aV aW a7 bb be bg bo br bs bw bI bO bW b2 b5 b8 cc cd cf ch cj cp cr ct cx cA cB cC cD cF cG cH cL cM cP cQ cS cT cU cV cW cX cY cZ c4 c5 c6 c7 c8 c9 da db dc dd de df dg dh di dj dk dl dm dn dp dr ds du dw dx dy dz dA dB dC dD dF dG dH dI dJ dK dM dN dQ dS dU dV dW dX dZ d0 d1 d2 d3 d4 d5 d6 d7 d8 d9 ea eb ec ed ee ef eg eh ei ej ek el em en eo ep eq er es et eu ev ew ex ey ez eA eB eD eE eF eG eH eI eJ eK eL eM eN eO eP:Value,oJ U nk F b G d l n st code sites g B S ln lc bz b3 bU bE A m c w gJ wr/\gJ=.int .i64 m/\a=⟨#[.pointer (some ⟨g,0,none⟩),.slice A m c,undef,undef,.slice S ln lc,gJ,gQ,z,u8,gL,eR,bm,bL,ce,bV,.pointer (some ⟨g,0,none⟩),.pointer (some ⟨g,0,none⟩),.pointer (some ⟨g,3,none⟩),.slice S ln lc,eS,eV,eW,eX,eY,eZ,e3,e5,e7,e8,e9,fb,fd,u32,fe,ff,fh,fi,fj,fk,fl,fm,fo,fq,fr,fs,ft,fu,fv,fw,fx,fz,fA,fB,fC,fD,fE,fF,fG,fH,fI,fJ,fK,fL,fM,u64,fN,fO,fP,fQ,fR,fS,fT,fU,fV,fW,fX,fY,fZ,f3,f4,f5,f6,f7,f8,f9,ga,gb,gd,ge,gf,gg,gh,gi,gj,gk,gl,gm,go,gp,gq,H,I,am,aF,aL,aM,aN,aV,aW,a7,bb,be,bg,bo,br,bs,bw,bI,bO,bW,b2,b5,b8,cc,cd,cf,ch,cj,cp,cr,ct,cx,cA,cB,cC,cD,cF,cG,cH,cL,cM,cP,cQ,cS,cT,cU,cV,cW,cX,cY,cZ,c4,c5,c6,c7,c8,c9,da,db,dc,dd,de,df,dg,dh,di,dj,dk,dl,dm,dn,dp,dr,ds,du,dw,dx,dy,dz,dA,dB,dC,dD,dF,dG,dH,dI,dJ,dK,dM,dN,dQ,dS,dU,dV,dW,dX,dZ,d0,d1,d2,d3,d4,d5,d6,d7,d8,d9,ea,eb,ec,ed,ee,ef,eg,eh,ei,ej,ek,el,em,en,eo,ep,eq,er,es,et,eu,ev,ew,ex,ey,ez,eA,eB,eD,eE,eF,eG,eH,eI,eJ,eK,eL,eM,eN,eO,eP,undef,undef,undef,undef],[]⟩
def BK(X:an):Prop:=∀(dR:vF) (U:hz) (nk:Int) (F:List aK) (b:an) (G:Env) (d:Nat) (l:List dO) (n:Int) (st:Nat) (code:List az) (sites:List Int) (g B:Nat) (S:L3) (ln lc:Nat) (bz:L3) (b3:Nat) (bU:L3) (bE:Nat) (A:L3) (m c:Nat) (w:World) (bq:L5 (Sl w (off (Ms g (.slice bz code.length b3) (.slice bU sites.length bE)) w) A m (b.list.map bj))) (ck:L5 (∀s∈b.list,lQ U nk F s.th/\lQ U nk F s.el)) (dY:L5 (∀f∈F,f.params.length<=1000)) (bJ:L5 (b.list.length=m)) (e4:m<=100000) (e0:st+b.num<=100000) (k:Nat) (aO:List dO) (aY aw:L4) (aP:Int) (ab:Nat) (u:List az) (y:List Int) (bH:L3) (bd bP:Nat) (Y:L3) (ah:Nat) (aH:L3) (bc:Nat) (wr:World) (al:k<m) (bA:b.list.drop k=X.list) (aT:dL X aO aP u=dL b l n code) (a9:ab+X.num=st+b.num) (a1:e6 G d aY aw X) (hS:Sc U G aO aY aw aP nk) (bn:vD F G aO) (a8:u.length+2*X.num<=100000) (cm:y.length=u.length) (ca:aP+X.num<=100000) (bM:aO.length+X.num<=100000) (aX:cN wr g B U.af F aO bH bd bP aP ab u y Y ah aH bc) (hM:Mv g (.slice bz code.length b3) (.slice bU sites.length bE) w (.slice Y u.length ah) (.slice aH y.length bc) wr)
  (dt:Exit->Act->World->Prop) (hQ0:∀c a d v w,dt (.panic c) (a.put d v) w->dt (.panic c) a w)
  {gQ z u8 gL eR bm bL ce bV eS eV eW eX eY eZ e3 e5 e7 e8 e9 fb fd u32 fe ff fh fi fj fk fl fm fo fq fr fs ft fu fv fw fx fz fA fB fC fD fE fF fG fH fI fJ fK fL fM u64 fN fO fP fQ fR fS fT fU fV fW fX fY fZ f3 f4 f5 f6 f7 f8 f9 ga gb gd ge gf gg gh gi gj gk gl gm go gp gq H I am aF aL aM aN aV aW a7 bb be bg bo br bs bw bI bO bW b2 b5 b8 cc cd cf ch cj cp cr ct cx cA cB cC cD cF cG cH cL cM cP cQ cS cT cU cV cW cX cY cZ c4 c5 c6 c7 c8 c9 da db dc dd de df dg dh di dj dk dl dm dn dp dr ds du dw dx dy dz dA dB dC dD dF dG dH dI dJ dK dM dN dQ dS dU dV dW dX dZ d0 d1 d2 d3 d4 d5 d6 d7 d8 d9 ea eb ec ed ee ef eg eh ei ej ek el em en eo ep eq er es et eu ev ew ex ey ez eA eB eD eE eF eG eH eI eJ eK eL eM eN eO eP:Value},
  Code.wp prog s6 (Exit.then (λr J=>iV U nk F b G d l n st code sites g B S ln lc bz b3 bU bE A m c w r J/\jt m r J<jt m ⟨#[.pointer (some ⟨g,0,none⟩),.slice A m c,undef,undef,.slice S ln lc,(.int .i64 k),gQ,z,u8,gL,eR,bm,bL,ce,bV,.pointer (some ⟨g,0,none⟩),.pointer (some ⟨g,0,none⟩),.pointer (some ⟨g,3,none⟩),.slice S ln lc,eS,eV,eW,eX,eY,eZ,e3,e5,e7,e8,e9,fb,fd,u32,fe,ff,fh,fi,fj,fk,fl,fm,fo,fq,fr,fs,ft,fu,fv,fw,fx,fz,fA,fB,fC,fD,fE,fF,fG,fH,fI,fJ,fK,fL,fM,u64,fN,fO,fP,fQ,fR,fS,fT,fU,fV,fW,fX,fY,fZ,f3,f4,f5,f6,f7,f8,f9,ga,gb,gd,ge,gf,gg,gh,gi,gj,gk,gl,gm,go,gp,gq,H,I,am,aF,aL,aM,aN,aV,aW,a7,bb,be,bg,bo,br,bs,bw,bI,bO,bW,b2,b5,b8,cc,cd,cf,ch,cj,cp,cr,ct,cx,cA,cB,cC,cD,cF,cG,cH,cL,cM,cP,cQ,cS,cT,cU,cV,cW,cX,cY,cZ,c4,c5,c6,c7,c8,c9,da,db,dc,dd,de,df,dg,dh,di,dj,dk,dl,dm,dn,dp,dr,ds,du,dw,dx,dy,dz,dA,dB,dC,dD,dF,dG,dH,dI,dJ,dK,dM,dN,dQ,dS,dU,dV,dW,dX,dZ,d0,d1,d2,d3,d4,d5,d6,d7,d8,d9,ea,eb,ec,ed,ee,ef,eg,eh,ei,ej,ek,el,em,en,eo,ep,eq,er,es,et,eu,ev,ew,ex,ey,ez,eA,eB,eD,eE,eF,eG,eH,eI,eJ,eK,eL,eM,eN,eO,eP,undef,undef,undef,undef],[]⟩ wr) dt) ⟨#[.pointer (some ⟨g,0,none⟩),.slice A m c,undef,undef,.slice S ln lc,(.int .i64 k),gQ,z,u8,gL,eR,bm,bL,ce,bV,.pointer (some ⟨g,0,none⟩),.pointer (some ⟨g,0,none⟩),.pointer (some ⟨g,3,none⟩),.slice S ln lc,eS,eV,eW,eX,eY,eZ,e3,e5,e7,e8,e9,fb,fd,u32,fe,ff,fh,fi,fj,fk,fl,fm,fo,fq,fr,fs,ft,fu,fv,fw,fx,fz,fA,fB,fC,fD,fE,fF,fG,fH,fI,fJ,fK,fL,fM,u64,fN,fO,fP,fQ,fR,fS,fT,fU,fV,fW,fX,fY,fZ,f3,f4,f5,f6,f7,f8,f9,ga,gb,gd,ge,gf,gg,gh,gi,gj,gk,gl,gm,go,gp,gq,H,I,am,aF,aL,aM,aN,aV,aW,a7,bb,be,bg,bo,br,bs,bw,bI,bO,bW,b2,b5,b8,cc,cd,cf,ch,cj,cp,cr,ct,cx,cA,cB,cC,cD,cF,cG,cH,cL,cM,cP,cQ,cS,cT,cU,cV,cW,cX,cY,cZ,c4,c5,c6,c7,c8,c9,da,db,dc,dd,de,df,dg,dh,di,dj,dk,dl,dm,dn,dp,dr,ds,du,dw,dx,dy,dz,dA,dB,dC,dD,dF,dG,dH,dI,dJ,dK,dM,dN,dQ,dS,dU,dV,dW,dX,dZ,d0,d1,d2,d3,d4,d5,d6,d7,d8,d9,ea,eb,ec,ed,ee,ef,eg,eh,ei,ej,ek,el,em,en,eo,ep,eq,er,es,et,eu,ev,ew,ex,ey,ez,eA,eB,eD,eE,eF,eG,eH,eI,eJ,eK,eL,eM,eN,eO,eP,undef,undef,undef,undef],[]⟩ wr
end Go.Proofs.YtkhnkojkplbioaaGreat

/- Part 20 of the proof. No condition of its own. -/
import Derived.Test.YtajlmkkidmjgoaaGreatDoorQ13
import Derived.Test.YtajlmkkidmjgoaaGreatDoorQ15
namespace Go.Proofs.YtajlmkkidmjgoaaGreatDoor
open Go.RowKit Go.Proofs.Tryz
set_option maxRecDepth 1000000
set_option maxHeartbeats 25600000
set_option linter.unusedVariables false
variable{d:D}{t:Int}{cs:List Value}{b:Nat}{P:Nat->Prop}{p:Prop}
def Ct(w:World)(x:az)(e:Ending)(ab:World):Prop:=
 ∃(IA:IP) (i ic:Nat) (bo:IP) (k lc:Nat),e=.returned (.agg (eX x.op x.target x.dw IA i ic bo k lc))/\(dN x).rep ab (fresh w ab) (eX x.op x.target x.dw IA i ic bo k lc).toList/\Ext w ab
structure jZ(w wr:World)(l:List du)(op ay:Int)(aX:Array Value)(aJ:List cW)(k:Nat)(IA:IP)(i ic:Nat)(bo:IP)(j lc:Nat):Prop where
 ext:Ext w wr
 b4:an wr w.heap.size 153 aX
 b6:an wr (w.heap.size+1) 133 (eX 0 0 false none 0 0 none 0 0)
 b7:an wr (w.heap.size+2) 133 (eX op ay false IA i ic bo j lc)
 g2:kV (w.heap.size+3) 128 4 130 3 wr IA i ic ((bG l (aJ.take k)).map a7) bo j lc ((cj l (aJ.take k)).map c9)
section
variable {w wr aO aT X:World} {l:List du} {op ay:Int} {aX:Array Value} {aJ:List cW} {k:Nat} {IA:IP} {i ic:Nat} {bo:IP} {j lc:Nat}
theorem nt{own:Nat->Prop}{g:Nat}(h:Ext w wr)(he:Ext wr aO)(aA:Fr own aO aT)(I:∀b,own b->w.heap.size<=b)(aM:w.heap.size<=g)(hX:Fr (λb=>b=g) aT X):Ext w X:=by
 have e1:Fr (λb=>w.heap.size<=b) w X:=Fr.trans (Fr.mono h λ_ h=>h.elim) (Fr.trans (Fr.mono he λ_ h=>h.elim) (Fr.trans (aA.mono I) (hX.mono λb O=>by subst O;exact aM)));exact e1.low λ_ h=>h
theorem jZ.place(h:jZ w wr l op ay aX aJ k IA i ic bo j lc)(he:Ext wr aO){r:eC}(I:aJ[k]?=some (.mx r)){cY:IP}{c4:Nat}
  (aM:Gr (λb=>w.heap.size+3<=b/\(Value.slice IA i ic).ownBlock≠some b) (w.heap.size+3) 130 3 aT cY (j+1) c4 ((cj l (aJ.take k)).map c9++[c9 (lK l r)]))
  (aA:Fr (λb=>(Value.slice bo j lc).ownBlock=some b) aO aT) (bu:c6 aO bo j lc cY (j+1) c4) (hX:aT.setCell ⟨w.heap.size+2,11,none⟩ (.slice cY (j+1) c4)=X) :
  jZ w X l op ay aX aJ (k+1) IA i ic cY (j+1) c4:=by
 have bT:=cT hX;have al:∀b,(Value.slice bo j lc).ownBlock=some b->w.heap.size+3<=b:=λb O=>(h.g2.two.lt O).1;refine⟨nt h.ext he aA (λb O=>by have:=al b O;omega) ad bT,?_,?_,?_,?_⟩
 .exact((h.b4.aj he).on aA λO=>by have:=al _ O;omega).on bT ad
 .exact((h.b6.aj he).on aA λO=>by have:=al _ O;omega).on bT ad
 .rw[<-hX];exact((h.b7.aj he).on aA λO=>by have:=al _ O;omega).aI 11 _
 .have e1:bG l (aJ.take (k+1))=bG l (aJ.take k):=by rw[a0 I,(hb l _ _).1];simp[bG]
  have e2:(cj l (aJ.take (k+1))).map c9=(cj l (aJ.take k)).map c9++[c9 (lK l r)]:=by rw[a0 I,(hb l _ _).2];simp[cj]
  rw[e1,e2];exact(((h.g2.aj he).swap.grow aM aA bu).swap).dh bT λb O _=>ad
theorem jZ.int(h:jZ w wr l op ay aX aJ k IA i ic bo j lc)(he:Ext wr aO){x:VE}(I:aJ[k]?=some (.ex x)){aC:IP}{cZ:Nat}
  (aM:Gr (λb=>w.heap.size+3<=b/\(Value.slice bo j lc).ownBlock≠some b) (w.heap.size+3) 128 4 aT aC (i+1) cZ ((bG l (aJ.take k)).map a7++[a7 (bx l x)]))
  (aA:Fr (λb=>(Value.slice IA i ic).ownBlock=some b) aO aT) (bu:c6 aO IA i ic aC (i+1) cZ) (hX:aT.setCell ⟨w.heap.size+2,10,none⟩ (.slice aC (i+1) cZ)=X) :
  jZ w X l op ay aX aJ (k+1) aC (i+1) cZ bo j lc:=by
 have bT:=cT hX;have al:∀b,(Value.slice IA i ic).ownBlock=some b->w.heap.size+3<=b:=λb O=>(h.g2.one.lt O).1;refine⟨nt h.ext he aA (λb O=>by have:=al b O;omega) ad bT,?_,?_,?_,?_⟩
 .exact((h.b4.aj he).on aA λO=>by have:=al _ O;omega).on bT ad
 .exact((h.b6.aj he).on aA λO=>by have:=al _ O;omega).on bT ad
 .rw[<-hX];exact((h.b7.aj he).on aA λO=>by have:=al _ O;omega).aI 10 _
 .have e1:cj l (aJ.take (k+1))=cj l (aJ.take k):=by rw[a0 I,(hb l _ _).2];simp[cj]
  have e2:(bG l (aJ.take (k+1))).map a7=(bG l (aJ.take k)).map a7++[a7 (bx l x)]:=by rw[a0 I,(hb l _ _).1];simp[bG]
  rw[e1,e2];exact((h.g2.aj he).grow aM aA bu).dh bT λb O _=>ad
end
theorem sw{V aO:World}{B:Nat}{A aE:IP}{n c a0 L:Nat}(h:d.rep aO (fresh V aO) cs)(aS:B<=V.heap.size)(ac:∀b,(Value.slice A n c).ownBlock=some b->b<V.heap.size)(J:∀b,(Value.slice aE a0 L).ownBlock=some b->b<V.heap.size):
  d.rep aO (kJ (λb=>B<=b/\(Value.slice aE a0 L).ownBlock≠some b) aO (.slice A n c)) cs:=
 D.aH (λb O=>⟨⟨Ir aS O.1,λhc=>by have:=J b hc;have:=O.1;omega⟩,O.2,λhc=>by have:=ac b hc;have:=O.1;omega⟩) _ _ h
theorem AP(e0:tv)(g:Nat)(l:List du)(M:List bJ)(F:List aE)(bX:Bool)(s:ByteArray)(aJ:List cW)(v:du)(f:aE)(aA:de l s=some v)(ap:v.kind=3)(h0:0<=v.n)(hF:F[v.n.toNat]?=some f)(cc:iB M l f.params aJ)(hW:f.params.length<=1000)
  (eo en:Int) (es:ByteArray) (EA:IP) (em ec:Nat) (rs:ByteArray) (ce:IP) (cX rc:Nat) (cF:IP) (n1 c1:Nat) (A2:IP) (cd c2:Nat) (cl:IP) (bY c3:Nat) (st:Int)
  (w:World) (br:r2 w g l) (a6:wP w g M) (cH:xW w g F) (hs:Sl w (av w) cF n1 (aJ.map ep)) :
  Calls prog 94 #[.pointer (some ⟨g,0,none⟩),.agg #[.int .i64 (if bX then 4 else 3),.string s,.int .i64 eo,.int .i64 en,.string es,.slice EA em ec,.string rs,.slice ce cX rc,.slice cF n1 c1,.slice A2 cd c2,.slice cl bY c3],.int .i64 st] w
   (Ct w (k2 bX v.n (bG l aJ) (cj l aJ))):=by
 have hlen:=lq cc;have cM:aJ.length=n1:=by rw[<-hs.1,Ib]
 obtain⟨a0,bV,cN,bL,eV,cV,bs⟩:=Aw cc aA hF br a6 cH hs;obtain⟨bq,da,fO⟩:=v;simp only at ap h0 hF;subst ap;obtain⟨ay,rfl⟩:=Ic h0;clear hs br a6 cH cc aA hF h0;obtain⟨op,ch⟩:∃op:Int,op=if bX then 3 else 2:=⟨_,rfl⟩
 have hx:k2 bX (ay:Int) (bG l aJ) (cj l aJ)=⟨op,ay,false,none,jM,bG l aJ,cj l aJ⟩:=by rw[ch];rfl
 rw[hx];clear hx;obtain⟨bN,aL⟩:∃bN:Int,bN=if bX then 4 else 3:=⟨_,rfl⟩
 have dh:(bN == 4)=bX:=by rw[aL];cases bX<;>rfl
 rw[<-aL];clear aL;go_enter func94,ntmps94;cases bX
 all_goals
  simp only[if_true,II,if_false] at ch;go_upto_region 4 with(fail);generalize ba:World.alloc _ _=W;have aw:=pT ba;have bH:=lT ba;have cn:=kZ ba;have aY:an W (w.heap.size+2) 133 (eX op 0 false none 0 0 none 0 0):=by rw[<-ba,ch];exact an.fu _ _ _ (by simp)
  clear ba ch;obtain⟨bf,cG,bv,fB⟩:=ih aw bH cn aY;obtain⟨aM,bo,ln,lc,dM,cB,y⟩:=bL.on aw;have b8:=ae y;obtain⟨aI,aj,af⟩:=bH.two;clear aw bH cn aY y;refine sU (λ_=>False) [6,11] (.free 0 (.free 1 (.free 2 (.held 3 (.free 4 (.held 5 (.pick [6,10] (λi=>bif i == 6 then .free 7 (.free 8 (.free 9 (.pick [10] (λ_=>.pick [11] (λ_=>.free 12 (.stop)))))) else .pick [6] (λ_=>.free 7 (.free 8 (.free 9 (.pick [11] (λ_=>.free 12 (.stop)))))))))))))) ?_
  iterate 3 refine tf ?_
  refine th ?_;refine tf ?_;refine th ?_;refine kU (P:=?_) (ops:=?_) (Q:=?_) (R:=?_) (tails:=?_) (rest:=.pick [11] (λ_=>.free 12 (.stop))) (aa:=?_) (C:=λc5 V=>Ext W V/\an V c5 113 #[.string ⟨#[]⟩,.int .i64 0,.int .i64 0]/\W.heap.size<=c5) (λkey=>?_) ?_
  rotate_left 6
  ·
   refine a5 ?_ ?_
   ·
    refine bA rfl (λK hK=>?_) rfl;go_simp;refine(dH bo ln lc l s W.drew (b8.on (Fr.ext IK.drew)) dM).mono ?_;rintro e aO ⟨rfl,ar⟩;rw[bV.o];simp only[im,pY];refine dW hK ?_;clear hK K
    iterate 3 refine tf ?_
    refine aq ?_;refine dS ?_;generalize hV:World.alloc _ _=V;have aS:=aU hV;have bg:Ext W V:=hV▸(Fr.aJ ar).alloc _;have hle:=(Fr.aJ ar).size;clear hV ar;generalize aO.heap.size=c5 at *;exact key c5 V ⟨bg,aS,hle⟩
   ·
    refine dS ?_;refine aq ?_;refine bA rfl (λK hK=>?_) rfl;go_simp;generalize hV:World.alloc _ _=V;have aS:=aU hV;have bg:=bm hV;clear hV;refine(dH bo ln lc l s V.drew (b8.on (Fr.ext bg.drew)) dM).mono ?_;rintro e aO ⟨rfl,ar⟩;rw[bV.o];simp only[im,pY];refine dW hK ?_;clear hK K
    iterate 3 refine tf ?_
    have co:=aS.aj (Fr.aJ ar);have ag:=bg.trans (Fr.aJ ar);clear aS bg ar;exact key W.heap.size aO ⟨ag,co,Hx _⟩
  ·
   rintro c5 V ⟨bg,bK,aZ⟩;have cE:=fB.lt;obtain⟨be,am,aH⟩:=bK.two;clear aI aj af cB;refine aq ?_;refine bA rfl (λK hK=>?_) rfl;go_simp;refine dW hK ?_;clear hK K;refine tf ?_;refine cr ?_;generalize hX:World.setCell _ _ _=X;obtain⟨bQ,bW,_⟩:=oS bK bg aZ hX;have a3:=ae (bf.trans bW);have bu:=ae (cG.aj bW);have u:=ae (bv.aj bW);have n:=fB.aj bW;have bU:=ae n;clear hX be am aH bK bg bW;obtain⟨be,am,aH⟩:=bQ.two;obtain⟨aI,aj,af⟩:=n.two;clear n;go_upto_region 12 with(fail);generalize ca:World.setCell _ _ _=Y;have b9:=u.lt;have bj:=cT ca;have bi:an Y (w.heap.size+2) 133 (eX op ay false none 0 0 none 0 0):=ca▸bU.aI 1 _;have aG:Ext w Y:=(Fr.trans (a3.mono λ_ h=>h.elim) bj).low (λb hm=>ad);have ai:=bu.on bj ad;have bh:=u.on bj ad;obtain⟨bl,bC,a2,ck⟩:=ih aG ai bh bi;have b0:=bQ.on bj ad;obtain⟨cg,FA,fn,fc,gj,f3,bZ⟩:=cV.o;have cJ:F[ay]?=some f:=by have:=cN.o;simpa using this
   have aN:ay<fn:=by have ac:=(List.getElem?_eq_some_iff.1 cJ).1;have J:=bZ.1;rw[Ib] at J;omega
   obtain⟨b3,cU,S,cs,rfl,cw,ao,a1,cC,b1⟩:=bZ.gH mO aN;rw[cJ] at ao;injection ao with ao;subst ao;obtain⟨PA,pn,pc,aW,bn,bc,rfl,cS,cx,cq,_⟩:=kA.1 a1;replace f3:=(aG.cell cg (λh=>h)).trans f3
   have f4:=(aG.cell cw (λh=>h)).trans (b1 1 _ rfl);have bT:=aG.size;have bz:b3<Y.heap.size:=Hy cw bT;have cI:g<Y.heap.size:=Hy cg bT;have gI:f.params.length=pn:=by rw[<-cq.1,Ib]
   have gH:=ae cq;obtain⟨be,am,aH⟩:=b0.two;obtain⟨aI,aj,af⟩:=ai.two;obtain rfl:n1=pn:=ad;have bP:=ae (show jZ w Y l op ay #[.int .i64 bN,.string s,.int .i64 eo,.int .i64 en,.string es,.slice EA em ec,.string rs,.slice ce cX rc,.slice cF n1 c1,.slice A2 cd c2,.slice cl bY c3] aJ 0 none 0 0 none 0 0 from
    ⟨aG,ai,bh,bi,kV.nil _ _ _ _ _ _⟩)
   clear ca bj aG bh bi bQ bZ a1 cC b1 cq cw a3 bu u bU aZ ai b0 bl bC a2 ck;go_wp2;refine eB (λ_=>False) [(0,3),(1,3),(2,3),(3,3),(4,0),(5,3),(6,0),(7,3),(8,3),(9,0),(10,3)] ?_
   iterate 4 refine pf ?_
   refine ph ?_;refine pf ?_;refine ph ?_
   iterate 2 refine pf ?_
   refine ph ?_;refine pf ?_;refine aB ?_;clear be am aH f3 f4 bz;go_wp2;clear aI aj af;go_loopw [11] (λah wr=>∃(k:Nat) (IA:IP) (i ic:Nat) (bo:IP) (j lc:Nat),k<=n1/\ah=.int .i64 k/\i<=k/\j<=k/\jZ w wr l op ay #[.int .i64 bN,.string s,.int .i64 eo,.int .i64 en,.string es,.slice EA em ec,.string rs,.slice ce cX rc,.slice cF n1 c1,.slice A2 cd c2,.slice cl bY c3] aJ k IA i ic bo j lc) (λah _=>n1 - (intOf ah).toNat)
   case atStart=>exact⟨0,none,0,0,none,0,0,ad,rfl,Hx _,Hx _,⟨bP.ext.drew,bP.b4,bP.b6,bP.b7,bP.g2.aj IK.drew⟩⟩
   case round=>
    obtain⟨k,IA,i,ic,bo,j,lc,ap,rfl,bM,m,hC⟩:=hrel;clear bP;have bP:=ae hC;obtain⟨aI,aj,af⟩:=hC.b4.two;by_cases al:k<n1
    .obtain⟨ab,dd,a,cs,rfl,ax,I,L,bd,Z⟩:=(bs.on (Fr.ext hC.ext)).gH ra al;obtain⟨pb,gO,q,df,rfl,eJ,bp,bE,bI,gM⟩:=(gH.on (Fr.ext hC.ext)).gH qh al;obtain rfl:=nr.1 bE;have aR:=gM 1 _ rfl;have N:pb<wr.heap.size:=eJ;have b4:ab<wr.heap.size:=ax;have HA:=ae I;rcases mK a0.o bp I with⟨r,rfl,bR,eE⟩|⟨x,rfl,bR,cL⟩
     .rw[bR] at aR;obtain⟨bO,db,c8,c7,cz,zc,rfl,U⟩:=AX L;have c0:=Z 0 _ rfl;have cm:=Z 1 _ rfl;have gJ:=Z 2 _ rfl;have aV:=Z 3 _ rfl;have b6:=Z 4 _ rfl;have cb:=Z 5 _ rfl;have ci:=Z 6 _ rfl;simp only[Ij] at c0;have H:=ae U;clear hC bd Z bE bI gM eJ ax L I bp U;go_upto_region 20 with(fail);generalize hV:World.alloc _ _=V;have T:=bm hV;have a4:=aU hV;have aY:=bP.b7.aj T;replace aR:=((Fr.rP T).1 pb _ N).trans aR
      replace N:pb<V.heap.size:=Hy N T.size
      have gp:=bP.b7.lt;have c6:=T.size;clear hV aI aj af c0 cm gJ aV b6 cb ci b4;obtain⟨d0,aP,aQ⟩:=a4.two;obtain⟨aI,aj,af⟩:=aY.two;clear aY a4;go_wp2;refine eB (λ_=>False) [(0,3),(1,0),(2,3),(3,3),(4,3),(5,3),(6,0),(7,3)] ?_;refine pf ?_;refine ph ?_
      iterate 4 refine pf ?_
      refine ph ?_;refine pf ?_;refine aB ?_;clear aR N;go_wp2;refine eB (λ_=>False) [(0,3),(1,0),(2,3),(3,3),(4,0),(5,3),(6,1),(7,1),(8,2),(9,3),(10,2)] ?_;refine pf ?_;refine bB (v:=?_) rfl (by rfl) (λV hV=>?_) ?_;rotate_left
      .obtain⟨hVc,hVf⟩:=Fr.iG hV
       (go_simp<;>with_reducible rfl)
      try simp only[PU]
      iterate 2 refine pf ?_
      refine bB (v:=?_) rfl (by rfl) (λV hV=>?_) ?_;rotate_left
      .obtain⟨hVc,hVf⟩:=Fr.iG hV
       (go_simp<;>with_reducible rfl)
      try simp only[PU]
      refine pf ?_;refine aD rfl (λK hK=>?_);go_simp;refine(e0 g l M r eE st bO db c8 c7 _ (bL.on (bP.ext.trans T).drew.drew) (eV.on (bP.ext.trans T).drew.drew) (D.on H.o (Fr.ext T.drew.drew))).mono ?_;rintro e aO ⟨g9,ha,cy,cp,cD,rfl,bt,ar⟩;refine dA hK (ar) ?_;clear hK K;have ag:Ext V aO:=Fr.aJ (Fr.aJ ar);have z:(c9 (lK l r)).rep aO (fresh V aO) [.bool g9,.int .i64 ha,.slice cy cp cD]:=bt;have bg:=T.trans ag;have a8:=ag.size;have cu:∀b,(Value.slice IA i ic).ownBlock=some b->b<V.heap.size:=λb O=>by have:=(bP.g2.one.lt O).2;omega
      have bk:∀b,(Value.slice bo j lc).ownBlock=some b->b<V.heap.size:=λb O=>by have:=(bP.g2.two.lt O).2;omega
      refine p2 ?_;refine au rfl (λK hK=>?_);rw[if_pos (by rfl)];refine pK EK (.tmp 92) (.tmp 98) (by rfl) (bP.g2.aj bg).two (sw z ad bk cu) (by rfl) (by rfl) (by rfl) ad ad ad ?_;intro cY c4 aT bb az b5 cf;have n:=(bP.b7.aj bg).on az (λO=>by have:=(bP.g2.two.lt O).1;omega);have b2:=bF bb az b5 bg;clear bb az b5 bt z ar ag bg T aI aj af d0 aP aQ cu bk a8;obtain⟨aI,aj,af⟩:=n.two;clear n;refine dW hK ?_;clear hK K;refine pf ?_;refine au rfl (λK hK=>?_);go_simp;refine dW hK ?_;clear hK K;refine aB ?_;clear aI aj af;generalize hX:World.setCell aT _ _=cQ;have ak:=ae (bP.place b2.2.2.2 HA.o b2.1 b2.2.1 b2.2.2.1 hX);clear hX;go_wp2;go_roundw
      case rel=>exact⟨k+1,IA,i,ic,cY,j+1,c4,ad,by go_num,ad,ad,ak.o⟩
      case measure=>exact aF
     .rw[bR] at aR;obtain⟨cz,b7,zc,dj,cp,xs,cy,di,cD,rfl,U⟩:=AV L;have c0:=Z 0 _ rfl;have cm:=Z 1 _ rfl;have gJ:=Z 2 _ rfl;have aV:=Z 3 _ rfl;have b6:=Z 4 _ rfl;have cb:=Z 5 _ rfl;have ci:=Z 6 _ rfl;simp only[Ij] at c0;have H:=ae U;clear hC bd Z bE bI gM eJ ax L I bp U;go_upto_region 20 with(fail);generalize hV:World.alloc _ _=V;have T:=bm hV;have a4:=aU hV;have aY:=bP.b7.aj T;replace aR:=((Fr.rP T).1 pb _ N).trans aR
      replace N:pb<V.heap.size:=Hy N T.size
      have gp:=bP.b7.lt;have c6:=T.size;clear hV aI aj af c0 cm gJ aV b6 cb ci b4;obtain⟨d0,aP,aQ⟩:=a4.two;obtain⟨aI,aj,af⟩:=aY.two;clear aY a4;go_wp2;refine eB (λ_=>False) [(0,3),(1,0),(2,3),(3,3),(4,3),(5,3),(6,0),(7,3)] ?_;refine pf ?_;refine ph ?_
      iterate 4 refine pf ?_
      refine ph ?_;refine pf ?_;refine aB ?_;clear aR N;go_wp2;refine eB (λ_=>False) [(0,3),(1,0),(2,3),(3,3),(4,0),(5,3),(6,1),(7,1),(8,2),(9,3),(10,2)] ?_;refine pf ?_;refine bB (v:=?_) rfl (by rfl) (λV hV=>?_) ?_;rotate_left
      .obtain⟨hVc,hVf⟩:=Fr.iG hV
       (go_simp<;>with_reducible rfl)
      try simp only[PU]
      iterate 2 refine pf ?_
      refine bB (v:=?_) rfl (by rfl) (λV hV=>?_) ?_;rotate_left
      .obtain⟨hVc,hVf⟩:=Fr.iG hV
       (go_simp<;>with_reducible rfl)
      try simp only[PU]
      refine pf ?_;refine aD rfl (λK hK=>?_);go_simp;refine(fS l x cL g st _ _ _ _ _ _ _ (bL.on (bP.ext.trans T).drew.drew) (D.on H.o (Fr.ext T.drew.drew))).mono ?_;rintro e aO ⟨dg,cP,cA,cv,dc,cR,rfl,bt,ar⟩;refine dA hK (ar) ?_;clear hK K;have ag:Ext V aO:=Fr.aJ (Fr.aJ ar);have z:(a7 (bx l x)).rep aO (fresh V aO) [.int .i64 dg,.int .i64 cP,.string cA,.slice cv dc cR]:=bt;have bg:=T.trans ag;have a8:=ag.size;have cu:∀b,(Value.slice IA i ic).ownBlock=some b->b<V.heap.size:=λb O=>by have:=(bP.g2.one.lt O).2;omega
      have bk:∀b,(Value.slice bo j lc).ownBlock=some b->b<V.heap.size:=λb O=>by have:=(bP.g2.two.lt O).2;omega
      refine p2 ?_;refine au rfl (λK hK=>?_);rw[if_pos (by rfl)];refine pK ow (.tmp 102) (.tmp 108) (by rfl) (bP.g2.aj bg).one (sw z ad cu bk) (by rfl) (by rfl) (by rfl) ad ad ad ?_;intro aC cZ aT bb az b5 cf;have n:=(bP.b7.aj bg).on az (λO=>by have:=(bP.g2.one.lt O).1;omega);have b2:=bF bb az b5 bg;clear bb az b5 bt z ar ag bg T aI aj af d0 aP aQ cu bk a8;obtain⟨aI,aj,af⟩:=n.two;clear n;refine dW hK ?_;clear hK K;refine pf ?_;refine au rfl (λK hK=>?_);go_simp;refine dW hK ?_;clear hK K;refine aB ?_;clear aI aj af;generalize hX:World.setCell aT _ _=cQ;have ak:=ae (bP.int b2.2.2.2 HA.o b2.1 b2.2.1 b2.2.2.1 hX);clear hX;go_wp2;go_roundw
      case rel=>exact⟨k+1,aC,i+1,cZ,bo,j,lc,ad,by go_num,ad,ad,ak.o⟩
      case measure=>exact aF
    .obtain rfl:k=n1:=ad;have aY:=hC.b7;have cn:=hC.b6;clear hC aI aj af;obtain⟨aI,aj,af⟩:=aY.two;obtain⟨d0,aP,aQ⟩:=cn.two;clear aY;go_wp2;generalize hX:World.setCell _ _ _=cQ;obtain⟨cK,bw,ct⟩:=cO (eX op ay false IA i ic bo j lc).toList (by rfl) cn bP.ext ad hX;clear hX aI aj af d0 aP aQ;obtain⟨bD,aK,a9⟩:=cK.two;refine IJ (v:=.agg (eX op ay false IA i ic bo j lc)) (by simp[results,Tryz.results94,go_sem,bD]) rfl ?_;have bS:=bP.g2.dh ct λb O _=>ad;have fb:=ct.size;rw[Ih ad] at bS;refine⟨IA,i,ic,bo,j,lc,rfl,?_,bw⟩;exact iR (bS.one.sl (λb ac J=>⟨by have:=J.1;omega,ac⟩) (λb ac J=>⟨ad,ac⟩)) (bS.two.sl (λb ac J=>⟨by have:=J.1;omega,ac⟩) (λb ac J=>⟨ad,ac⟩)) bS.one.cap.1 bS.two.cap.1
section
variable {w ab aO aT b4 eG X:World} {g B:Nat} {M:List bJ} {F:List aE} {l:List du} {bo:IP} {ln lc:Nat} {n:Int} {st:Nat} {code:List az} {sites:List Int} {S:IP} {bR:Nat} {bE:IP} {br:Nat}
theorem cw.own(h:cw w g B M F l bo ln lc n st code sites S bR bE br){j:Nat}{v:Value}(hX:w.setCell ⟨g,j,none⟩ v=X):
  Mv g (.slice S code.length bR) (.slice bE sites.length br) w (.slice S code.length bR) (.slice bE sites.length br) X/\Fr (λb=>b=g) w X/\kV B 133 12 3 1 X S code.length bR (code.map dN) bE sites.length br (sites.map D.i):=by
 have aA:=cT hX;exact⟨Mv.F7 (aA.mono λb O=>.inl O),aA,h.rows.dh aA λb O _=>by have:=h.base.1;omega⟩
namespace zv
theorem y3(h:p:=by
 rw[<-hX];exact aS.aI 5 _
 ):p:=h
end zv
open zv in
theorem cw.stmt(h:cw w g B M F l bo ln lc n st code sites S bR bE br)(hX:w.setCell ⟨g,5,none⟩ (.int .i64 ((st+1:Nat):Int))=X) :
  cw X g B M F l bo ln lc n (st+1) code sites S bR bE br/\Mv g (.slice S code.length bR) (.slice bE sites.length br) w (.slice S code.length bR) (.slice bE sites.length br) X:=by
 exact y2
namespace zw
theorem y3(h:p:=by
 rw[<-hX];exact aS.aI 4 _
 ):p:=h
end zw
open zw in
theorem cw.locals(h:cw w g B M F l bo ln lc n st code sites S bR bE br){a0:Int}(hX:w.setCell ⟨g,4,none⟩ (.int .i64 a0)=X):
  cw X g B M F l bo ln lc a0 st code sites S bR bE br/\Mv g (.slice S code.length bR) (.slice bE sites.length br) w (.slice S code.length bR) (.slice bE sites.length br) X:=by
 exact y2
theorem cw.Bz(h:cw w g B M F l bo ln lc n st code sites S bR bE br){ax:List du}{bw:IP}{bp ch:Nat}(hn:bp<=1000000)(hl:Sl w (off (Ms g (.slice S code.length bR) (.slice bE sites.length br)) w) bw bp (ax.map bP))(hX:w.setCell ⟨g,3,none⟩ (.slice bw bp ch)=X):
  cw X g B M F ax bw bp ch n st code sites S bR bE br/\Mv g (.slice S code.length bR) (.slice bE sites.length br) w (.slice S code.length bR) (.slice bE sites.length br) X:=by
 obtain⟨a6,aA,bS⟩:=h.own hX;obtain⟨GA,gn,gc,MA,mn,mc,FA,fn,fc,aS,cm,bZ,cC,b5⟩:=h.blk;refine⟨⟨⟨GA,gn,gc,MA,mn,mc,FA,fn,fc,?_,cm,bZ,cC.cz a6,b5.cz a6⟩,⟨h.base.1,Ir h.base.2 a6.fr.size⟩,⟨hn,hl.cz a6⟩,bS⟩,a6⟩;rw[<-hX];exact aS.aI 3 _
theorem cw.target(h:cw w g B M F l bo ln lc n st code sites S bR bE br)(O:b<code.length)(t:Int):∃aN,S=some ⟨aN,0,none⟩/\aN<w.heap.size/\w.frozen? ⟨aN,b*12+1,none⟩=false/\(∃u,w.cell? ⟨aN,b*12+1,none⟩=some (.int .i64 u))/\
  ∀X,w.setCell ⟨aN,b*12+1,none⟩ (.int .i64 t)=X->cw X g B M F l bo ln lc n st (fM code b t) sites S bR bE br/\Mv g (.slice S code.length bR) (.slice bE sites.length br) w (.slice S code.length bR) (.slice bE sites.length br) X:=by
 obtain⟨hl,xs,ac,J⟩:=h.rows.one;obtain⟨aN,bj,C,bA,a3,de,a⟩:=kQ ac ad;have bT:xs.length=code.length*12:=by rw[D.jd _ _ J,D.jh (z:=12) (λd hd=>by obtain⟨x,_,rfl⟩:=Iz.1 hd;exact l5 x),Ib]
 have al:b*12+1<xs.length:=by rw[bT];omega
 have bh:xs[b*12+1]?=some (xs[b*12+1]'al):=List.getElem?_eq_getElem _;have hint:∃u,xs[b*12+1]?=some (.int .i64 u):=by
  have hm:(code.map dN)[b]?=some (dN (code[b]'O)):=by rw[List.getElem?_map,List.getElem?_eq_getElem O];rfl
  obtain⟨cs,aY,bd,a1⟩:=D.rF J (z:=12) (λd hd=>by obtain⟨x,_,rfl⟩:=Iz.1 hd;exact l5 x) hm;unfold dN at aY;rw[bw,a2] at aY;obtain⟨y,rfl,aY⟩:=aY;rw[a2] at aY;obtain⟨bp,rfl,aY⟩:=aY;exact⟨_,a1 1 _ rfl⟩
 refine⟨aN,bj,bA,de _,?_,λX hX=>?_⟩
 .obtain⟨u,hu⟩:=hint;exact⟨u,a3 _ _ hu⟩
 have I:(Value.slice S code.length bR).ownBlock=some aN:=by rw[bj];rfl
 have aA:=cT hX;have a6:Mv g (.slice S code.length bR) (.slice bE sites.length br) w (.slice S code.length bR) (.slice bE sites.length br) X:=Mv.F7 (aA.mono λb O=>by subst O;exact .inr (.inl I));have c:¬(Value.slice bE sites.length br).ownBlock=some aN:=h.rows.ne aN I;obtain⟨GA,gn,gc,MA,mn,mc,FA,fn,fc,aS,cm,bZ,cC,b5⟩:=h.blk;refine⟨⟨⟨GA,gn,gc,MA,mn,mc,FA,fn,fc,?_,cm,bZ,?_,?_⟩,⟨h.base.1,Ir h.base.2 a6.fr.size⟩,⟨h.names.1,?_⟩,?_⟩,a6⟩
 .rw[cc];exact aS.on aA (aC h.base.1)
 .rw[cc];exact cC.cz a6
 .rw[cc];exact b5.cz a6
 .rw[cc];exact h.names.2.cz a6
 .have bz:=a (b*12+1) (.int .i64 t) ad;rw[hX] at bz;rw[cc];refine⟨⟨by rw[Ib,cc],_,bz,?_⟩,?_,h.rows.ne⟩
  .refine qC t code xs b ?_ O;exact D.bL (λb O=>⟨O.1,by have:=aA.size;have:=O.2.1;omega,O.2.2⟩) _ _ (D.bV (λb aX=>aA.block b aX.2.1 λhe=>aX.2.2 (by rw[I,he])) _ _ J)
  .exact h.rows.two.cU aA.size λb al hp=>aA.block b al λhe=>by
    subst he;rcases hp with hp|hp
    .exact hp.2 I
    .exact c hp
end
theorem an.cz{w ab:World}{g:Nat}{t:TypeId}{cs:Array Value}{cv sv a f:Value}(h:an w b t cs)(hn:¬Ms g cv sv b)(a6:Mv g cv sv w a f ab):an ab b t cs/\¬Ms g a f b:=
 ⟨h.on a6.fr hn,λhm=>hn (a6.own b h.lt hm)⟩
theorem o2(b:ak):b.isNil=decide (b.list.length=0):=by cases b<;>simp[ak.isNil,ak.list]
theorem se(b:ak):(cL b).length=b.list.length:=by rw[ct,Ib]
def AO(e:du):List Value:=[.string e.name,.int .i64 e.kind,.int .i64 e.n]
theorem iA:b2 prog 109 113 (.agg #[.string ⟨#[]⟩,.int .i64 0,.int .i64 0]) 3 32:=b2.mk' Tryz.underlying109 (by kernel_rfl) rfl ad
theorem jt{w:World}(e:du):(bP e).rep w P (AO e):=hP.2 rfl
theorem kC{w:World}(l:List du):D.aO w P (l.map bP) (l.flatMap AO):=mr jt l
theorem sn{w:World}{P Q:Nat->Prop}:∀{l:List du} {xs:List Value},D.aO w P (l.map bP) xs->D.aO w Q (l.map bP) xs
 | [],xs,h=>by simpa only[Iy,D.aO] using h
 | e::l,xs,h=>by
  rw[Ie] at h ⊢;obtain⟨x,y,rfl,hx,a4⟩:=dj.1 h;exact dj.2 ⟨x,y,rfl,hP.2 (hP.1 hx),sn a4⟩
theorem ka{w:World}{A:IP}{n:Nat}{l:List du}(h:Sl w (av w) A n (l.map bP)):Src w 3 A n (l.flatMap AO):=
 Src.wu (Sl.Gn (f:=AO) (sz:=3) (λ_ _ _ _ h=>hP.1 h) (λ_=>rfl) h) (λ_ _=>rfl) (λx _ u hu=>by
  simp only[AO,Iq,List.not_mem_nil,or_false] at hu;rcases hu with rfl|rfl|rfl<;>rfl) ad
theorem hq{w aO:World}{g B:Nat}{M:List bJ}{F:List aE}{l:List du}{bo:IP}{ln lc:Nat}{n:Int}{st:Nat}{code:List az}{sites:List Int}{S:IP}{bR:Nat}{bE:IP}{br:Nat}(h:cw w g B M F l bo ln lc n st code sites S bR bE br)(hd:d.rep aO (fresh w aO) cs):
  d.rep aO (G2 B g (.slice S code.length bR) (.slice bE sites.length br) aO) cs:=by
 have al:=h.lt;have I:=h.base;refine D.aH (λb O=>⟨by have:=O.1;omega,O.2,λhm=>?_⟩) _ _ hd;have ac:=O.1;rcases hm with hm|hm|hm
 .omega
 .have:=(h.rows.one.lt hm).2;omega
 .have:=(h.rows.two.lt hm).2;omega
theorem kB{w:World}{op:Int}{g:Bool}{e:VE}{eo en:Int}{es:ByteArray}{EA:IP}{em ec:Nat}(h:(a7 e).rep w P [.int .i64 eo,.int .i64 en,.string es,.slice EA em ec]):
  (dN ⟨op,t,g,some e,jM,[],[]⟩).rep w P [.int .i64 op,.int .i64 t,.bool g,.int .i64 eo,.int .i64 en,.string es,.slice EA em ec,.bool false,.int .i64 0,.slice none 0 0,.slice none 0 0,.slice none 0 0]:=by
 unfold dN;rw[bw];exact a2.2 ⟨_,rfl,a2.2 ⟨_,rfl,eS.2 ⟨_,rfl,dj.2 ⟨[_,_,_,_],_,rfl,h,nE (aA.2 ⟨none,0,0,_,rfl,Hx _,Sl.bH _,aA.2 ⟨none,0,0,[],rfl,Hx _,Sl.bH _,aM.2 rfl⟩⟩)⟩⟩⟩⟩
theorem ua{w:World}{op:Int}{g:Bool}{p:bK}{pb:Bool}{pi:Int}{PA:IP}{pm pc:Nat}(h:(c9 p).rep w P [.bool pb,.int .i64 pi,.slice PA pm pc]):
  (dN ⟨op,t,g,none,p,[],[]⟩).rep w P [.int .i64 op,.int .i64 t,.bool g,.int .i64 0,.int .i64 0,.string ⟨#[]⟩,.slice none 0 0,.bool pb,.int .i64 pi,.slice PA pm pc,.slice none 0 0,.slice none 0 0]:=by
 unfold dN;rw[bw];exact a2.2 ⟨_,rfl,a2.2 ⟨_,rfl,eS.2 ⟨_,rfl,pB (dj.2 ⟨[_,_,_],_,rfl,h,aA.2 ⟨none,0,0,_,rfl,Hx _,Sl.bH _,aA.2 ⟨none,0,0,[],rfl,Hx _,Sl.bH _,aM.2 rfl⟩⟩⟩)⟩⟩⟩
def k8(U:gV)(nk:Int)(F:List aE)(b:ak):Prop:=
 ∀(G:Env) (d:Nat) (l:List du) (V T:IQ) (n:Int) (st:Nat) (code:List az) (sites:List Int) (g B:Nat) (bo:IP) (ln lc:Nat) (S:IP) (bR:Nat) (bE:IP) (br:Nat) (A:IP) (m c:Nat) (w:World),
  eJ G d V T b->Sc U G l V T n nk->tt F G l->(∀f∈F,f.params.length<=1000)->cw w g B U.af F l bo ln lc n st code sites S bR bE br->Sl w (off (Ms g (.slice S code.length bR) (.slice bE sites.length br)) w) A m (cL b)->
  code.length+2*b.num<=100000->sites.length=code.length->n+b.num<=100000->st+b.num<=100000->l.length+b.num<=100000->
  Calls prog 54 #[.pointer (some ⟨g,0,none⟩),.slice A m c] w λe ab=>e=.returned (.tuple #[])/\∃Y aF aM bn y,y.length=(dq b l n code).1.length/\
   cw ab g B U.af F l bo ln lc (dq b l n code).2 (st+b.num) (dq b l n code).1 y Y aF aM bn/\
   Mv g (.slice S code.length bR) (.slice bE sites.length br) w (.slice Y (dq b l n code).1.length aF) (.slice aM y.length bn) ab
theorem gq:∀b:ak,b.list.length<=b.num
 | .nil=>by simp[ak.list]
 | .set _ _ _ rest=>by simp[ak.list,ak.num,gq rest]
 | .call _ _ _ rest=>by simp[ak.list,ak.num,gq rest]
 | .lock _ _ rest=>by simp[ak.list,ak.num,gq rest]
 | .ite _ th el rest=>by simp[ak.list,ak.num];have:=gq rest;omega
 | .fY _ th rest=>by simp[ak.list,ak.num];have:=gq rest;omega
 | .ret rest=>by simp[ak.list,ak.num,gq rest]
def fD:Code->Option Code
 | .loop c=>some c
 | .seq a b=>match fD a with
  | some c=>some c
  | none=>fD b
 | .block _ c=>fD c
 | .scope c=>fD c
 | .cond _ a b=>match fD a with
  | some c=>some c
  | none=>fD b
 | _=>none
noncomputable def q4:Code:=((Tryz.f54.body.bind fD).getD .skip)
def nL(U:gV)(nk:Int)(F:List aE)(b:ak)(G:Env)(d:Nat)(l:List du)(n:Int)(st:Nat)(code:List az)(sites:List Int)(g B:Nat)(bo:IP)(ln lc:Nat)(S:IP)(bR:Nat)(bE:IP)(br:Nat)(A:IP)(m c:Nat)(w:World)(ah:Value)(wr:World):Prop:=∃(k:Nat) (rest:ak) (ax:List du) (ab aw:IQ) (a0:Int) (L:Nat) (u:List az) (y:List Int) (bw:IP) (bp ch:Nat) (Y:IP) (aF:Nat) (aM:IP) (bn:Nat),ah=.int .i64 k/\k<=m/\b.list.drop k=rest.list/\dq rest ax a0 u=dq b l n code/\L+rest.num=st+b.num/\
   eJ G d ab aw rest/\Sc U G ax ab aw a0 nk/\tt F G ax/\u.length+2*rest.num<=100000/\y.length=u.length/\a0+rest.num<=100000/\ax.length+rest.num<=100000/\cw wr g B U.af F ax bw bp ch a0 L u y Y aF aM bn/\
   Mv g (.slice S code.length bR) (.slice bE sites.length br) w (.slice Y u.length aF) (.slice aM y.length bn) wr
def ie(U:gV)(nk:Int)(F:List aE)(b:ak)(G:Env)(d:Nat)(l:List du)(n:Int)(st:Nat)(code:List az)(sites:List Int)(g B:Nat)(bo:IP)(ln lc:Nat)(S:IP)(bR:Nat)(bE:IP)(br:Nat)(A:IP)(m c:Nat)(w:World)(a:Act)(wr:World):Prop:=∃gF gL o u8 gG eP go gp ay ce eQ eR eS eT eU eW eX eY eZ e3 e4 e5 e6 u32 e7 e8 e9 fa fb fd fe ff fh fi fj fk fl fm fo fp fq fr fs ft fu fv fw fx fy fz fA fB fC fD fE u64 fF fG fH fI fJ fK fL fM fN fQ fR fS fT fU fV fW fX fY f3 f4 f5 f6 f7 f8 f9 ga gb gd ge gf gg gh gi gk gl H am aH aP aQ a7 ba be bf bi bm bu bC bM bO bQ bT bW bX b6 cn co cp cq cu cv cx cy cz cA cB cC cD cE cF cG cH cI cJ cL cM cN cO cP cQ cR cS cU cV cW cX cY cZ c4 c5 c7 c8 c9 da db dc dd de df dg dh di dj dk dl dm dn dp dr ds dt dv dw dx dy dB dC dD dE dF dH dI dJ dK dL dM dN dO dP dQ dR dT dU dV dX dY dZ d0 d1 d2 d3 d4 d5 d6 d7 d8 d9 ea eb ec ed ee ef eg eh ei ej ek el em en eo ep eq er es et eu ev ew ex ey ez eA eC eD eE eF eH eI eL eM eN eO:Value,nL U nk F b G d l n st code sites g B bo ln lc S bR bE br A m c w gF wr/\a=⟨#[.pointer (some ⟨g,0,none⟩),.slice A m c,undef,undef,.slice bo ln lc,gF,gL,o,u8,gG,eP,go,gp,ay,ce,.pointer (some ⟨g,0,none⟩),.pointer (some ⟨g,0,none⟩),.pointer (some ⟨g,3,none⟩),.slice bo ln lc,eQ,eR,eS,eT,eU,eW,eX,eY,eZ,e3,e4,e5,e6,u32,e7,e8,e9,fa,fb,fd,fe,ff,fh,fi,fj,fk,fl,fm,fo,fp,fq,fr,fs,ft,fu,fv,fw,fx,fy,fz,fA,fB,fC,fD,fE,u64,fF,fG,fH,fI,fJ,fK,fL,fM,fN,fQ,fR,fS,fT,fU,fV,fW,fX,fY,f3,f4,f5,f6,f7,f8,f9,ga,gb,gd,ge,gf,gg,gh,gi,gk,gl,H,am,aH,aP,aQ,a7,ba,be,bf,bi,bm,bu,bC,bM,bO,bQ,bT,bW,bX,b6,cn,co,cp,cq,cu,cv,cx,cy,cz,cA,cB,cC,cD,cE,cF,cG,cH,cI,cJ,cL,cM,cN,cO,cP,cQ,cR,cS,cU,cV,cW,cX,cY,cZ,c4,c5,c7,c8,c9,da,db,dc,dd,de,df,dg,dh,di,dj,dk,dl,dm,dn,dp,dr,ds,dt,dv,dw,dx,dy,dB,dC,dD,dE,dF,dH,dI,dJ,dK,dL,dM,dN,dO,dP,dQ,dR,dT,dU,dV,dX,dY,dZ,d0,d1,d2,d3,d4,d5,d6,d7,d8,d9,ea,eb,ec,ed,ee,ef,eg,eh,ei,ej,ek,el,em,en,eo,ep,eq,er,es,et,eu,ev,ew,ex,ey,ez,eA,eC,eD,eE,eF,eH,eI,eL,eM,eN,eO,undef,undef,undef,undef],[]⟩
def iI(m:Nat)(a:Act)(_:World):Nat:=m - (intOf (a.tmps.getD 5 undef)).toNat
def Cs(U:gV)(nk:Int)(F:List aE)(b:ak)(G:Env)(d:Nat)(l:List du)(n:Int)(st:Nat)(code:List az)(sites:List Int)(g B:Nat)(bo:IP)(ln lc:Nat)(S:IP)(bR:Nat)(bE:IP)(br:Nat)(A:IP)(m c:Nat)(w:World)(a:Act)(wr:World):Prop:=∃gF gL o u8 gG eP go gp ay ce eQ eR eS eT eU eW eX eY eZ e3 e4 e5 e6 u32 e7 e8 e9 fa fb fd fe ff fh fi fj fk fl fm fo fp fq fr fs ft fu fv fw fx fy fz fA fB fC fD fE u64 fF fG fH fI fJ fK fL fM fN fQ fR fS fT fU fV fW fX fY f3 f4 f5 f6 f7 f8 f9 ga gb gd ge gf gg gh gi gk gl H am aH aP aQ a7 ba be bf bi bm bu bC bM bO bQ bT bW bX b6 cn co cp cq cu cv cx cy cz cA cB cC cD cE cF cG cH cI cJ cL cM cN cO cP cQ cR cS cU cV cW cX cY cZ c4 c5 c7 c8 c9 da db dc dd de df dg dh di dj dk dl dm dn dp dr ds dt dv dw dx dy dB dC dD dE dF dH dI dJ dK dL dM dN dO dP dQ dR dT dU dV dX dY dZ d0 d1 d2 d3 d4 d5 d6 d7 d8 d9 ea eb ec ed ee ef eg eh ei ej ek el em en eo ep eq er es et eu ev ew ex ey ez eA eC eD eE eF eH eI eL eM eN eO:Value,nL U nk F b G d l n st code sites g B bo ln lc S bR bE br A m c w gF wr/\gF=.int .i64 m/\a=⟨#[.pointer (some ⟨g,0,none⟩),.slice A m c,undef,undef,.slice bo ln lc,gF,gL,o,u8,gG,eP,go,gp,ay,ce,.pointer (some ⟨g,0,none⟩),.pointer (some ⟨g,0,none⟩),.pointer (some ⟨g,3,none⟩),.slice bo ln lc,eQ,eR,eS,eT,eU,eW,eX,eY,eZ,e3,e4,e5,e6,u32,e7,e8,e9,fa,fb,fd,fe,ff,fh,fi,fj,fk,fl,fm,fo,fp,fq,fr,fs,ft,fu,fv,fw,fx,fy,fz,fA,fB,fC,fD,fE,u64,fF,fG,fH,fI,fJ,fK,fL,fM,fN,fQ,fR,fS,fT,fU,fV,fW,fX,fY,f3,f4,f5,f6,f7,f8,f9,ga,gb,gd,ge,gf,gg,gh,gi,gk,gl,H,am,aH,aP,aQ,a7,ba,be,bf,bi,bm,bu,bC,bM,bO,bQ,bT,bW,bX,b6,cn,co,cp,cq,cu,cv,cx,cy,cz,cA,cB,cC,cD,cE,cF,cG,cH,cI,cJ,cL,cM,cN,cO,cP,cQ,cR,cS,cU,cV,cW,cX,cY,cZ,c4,c5,c7,c8,c9,da,db,dc,dd,de,df,dg,dh,di,dj,dk,dl,dm,dn,dp,dr,ds,dt,dv,dw,dx,dy,dB,dC,dD,dE,dF,dH,dI,dJ,dK,dL,dM,dN,dO,dP,dQ,dR,dT,dU,dV,dX,dY,dZ,d0,d1,d2,d3,d4,d5,d6,d7,d8,d9,ea,eb,ec,ed,ee,ef,eg,eh,ei,ej,ek,el,em,en,eo,ep,eq,er,es,et,eu,ev,ew,ex,ey,ez,eA,eC,eD,eE,eF,eH,eI,eL,eM,eN,eO,undef,undef,undef,undef],[]⟩
def BK(X:ak):Prop:=∀(e0:tv) (U:gV) (nk:Int) (F:List aE) (b:ak) (G:Env) (d:Nat) (l:List du) (n:Int) (st:Nat) (code:List az) (sites:List Int) (g B:Nat) (bo:IP) (ln lc:Nat) (S:IP) (bR:Nat) (bE:IP) (br:Nat) (A:IP) (m c:Nat) (w:World) (bs:IS (Sl w (off (Ms g (.slice S code.length bR) (.slice bE sites.length br)) w) A m (b.list.map a3))) (c6:IS (∀s∈b.list,k8 U nk F s.th/\k8 U nk F s.el)) (fg:IS (∀f∈F,f.params.length<=1000)) (bJ:IS (b.list.length=m)) (f0:m<=100000) (fZ:st+b.num<=100000) (k:Nat) (ax:List du) (ab aw:IQ) (a0:Int) (L:Nat) (u:List az) (y:List Int) (bw:IP) (bp ch:Nat) (Y:IP) (aF:Nat) (aM:IP) (bn:Nat) (wr:World) (al:k<m) (bF:b.list.drop k=X.list) (aX:dq X ax a0 u=dq b l n code) (bc:L+X.num=st+b.num) (ah:eJ G d ab aw X) (hS:Sc U G ax ab aw a0 nk) (bD:tt F G ax) (bd:u.length+2*X.num<=100000) (b8:y.length=u.length) (cb:a0+X.num<=100000) (bz:ax.length+X.num<=100000) (bj:cw wr g B U.af F ax bw bp ch a0 L u y Y aF aM bn) (a6:Mv g (.slice S code.length bR) (.slice bE sites.length br) w (.slice Y u.length aF) (.slice aM y.length bn) wr)
  (dG:Exit->Act->World->Prop) (hQ0:∀c a d v w,dG (.panic c) (a.put d v) w->dG (.panic c) a w)
  {gL o u8 gG eP go gp ay ce eQ eR eS eT eU eW eX eY eZ e3 e4 e5 e6 u32 e7 e8 e9 fa fb fd fe ff fh fi fj fk fl fm fo fp fq fr fs ft fu fv fw fx fy fz fA fB fC fD fE u64 fF fG fH fI fJ fK fL fM fN fQ fR fS fT fU fV fW fX fY f3 f4 f5 f6 f7 f8 f9 ga gb gd ge gf gg gh gi gk gl H am aH aP aQ a7 ba be bf bi bm bu bC bM bO bQ bT bW bX b6 cn co cp cq cu cv cx cy cz cA cB cC cD cE cF cG cH cI cJ cL cM cN cO cP cQ cR cS cU cV cW cX cY cZ c4 c5 c7 c8 c9 da db dc dd de df dg dh di dj dk dl dm dn dp dr ds dt dv dw dx dy dB dC dD dE dF dH dI dJ dK dL dM dN dO dP dQ dR dT dU dV dX dY dZ d0 d1 d2 d3 d4 d5 d6 d7 d8 d9 ea eb ec ed ee ef eg eh ei ej ek el em en eo ep eq er es et eu ev ew ex ey ez eA eC eD eE eF eH eI eL eM eN eO:Value},
  Code.wp prog q4 (Exit.then (λr j=>ie U nk F b G d l n st code sites g B bo ln lc S bR bE br A m c w r j/\iI m r j<iI m ⟨#[.pointer (some ⟨g,0,none⟩),.slice A m c,undef,undef,.slice bo ln lc,(.int .i64 k),gL,o,u8,gG,eP,go,gp,ay,ce,.pointer (some ⟨g,0,none⟩),.pointer (some ⟨g,0,none⟩),.pointer (some ⟨g,3,none⟩),.slice bo ln lc,eQ,eR,eS,eT,eU,eW,eX,eY,eZ,e3,e4,e5,e6,u32,e7,e8,e9,fa,fb,fd,fe,ff,fh,fi,fj,fk,fl,fm,fo,fp,fq,fr,fs,ft,fu,fv,fw,fx,fy,fz,fA,fB,fC,fD,fE,u64,fF,fG,fH,fI,fJ,fK,fL,fM,fN,fQ,fR,fS,fT,fU,fV,fW,fX,fY,f3,f4,f5,f6,f7,f8,f9,ga,gb,gd,ge,gf,gg,gh,gi,gk,gl,H,am,aH,aP,aQ,a7,ba,be,bf,bi,bm,bu,bC,bM,bO,bQ,bT,bW,bX,b6,cn,co,cp,cq,cu,cv,cx,cy,cz,cA,cB,cC,cD,cE,cF,cG,cH,cI,cJ,cL,cM,cN,cO,cP,cQ,cR,cS,cU,cV,cW,cX,cY,cZ,c4,c5,c7,c8,c9,da,db,dc,dd,de,df,dg,dh,di,dj,dk,dl,dm,dn,dp,dr,ds,dt,dv,dw,dx,dy,dB,dC,dD,dE,dF,dH,dI,dJ,dK,dL,dM,dN,dO,dP,dQ,dR,dT,dU,dV,dX,dY,dZ,d0,d1,d2,d3,d4,d5,d6,d7,d8,d9,ea,eb,ec,ed,ee,ef,eg,eh,ei,ej,ek,el,em,en,eo,ep,eq,er,es,et,eu,ev,ew,ex,ey,ez,eA,eC,eD,eE,eF,eH,eI,eL,eM,eN,eO,undef,undef,undef,undef],[]⟩ wr) dG) ⟨#[.pointer (some ⟨g,0,none⟩),.slice A m c,undef,undef,.slice bo ln lc,(.int .i64 k),gL,o,u8,gG,eP,go,gp,ay,ce,.pointer (some ⟨g,0,none⟩),.pointer (some ⟨g,0,none⟩),.pointer (some ⟨g,3,none⟩),.slice bo ln lc,eQ,eR,eS,eT,eU,eW,eX,eY,eZ,e3,e4,e5,e6,u32,e7,e8,e9,fa,fb,fd,fe,ff,fh,fi,fj,fk,fl,fm,fo,fp,fq,fr,fs,ft,fu,fv,fw,fx,fy,fz,fA,fB,fC,fD,fE,u64,fF,fG,fH,fI,fJ,fK,fL,fM,fN,fQ,fR,fS,fT,fU,fV,fW,fX,fY,f3,f4,f5,f6,f7,f8,f9,ga,gb,gd,ge,gf,gg,gh,gi,gk,gl,H,am,aH,aP,aQ,a7,ba,be,bf,bi,bm,bu,bC,bM,bO,bQ,bT,bW,bX,b6,cn,co,cp,cq,cu,cv,cx,cy,cz,cA,cB,cC,cD,cE,cF,cG,cH,cI,cJ,cL,cM,cN,cO,cP,cQ,cR,cS,cU,cV,cW,cX,cY,cZ,c4,c5,c7,c8,c9,da,db,dc,dd,de,df,dg,dh,di,dj,dk,dl,dm,dn,dp,dr,ds,dt,dv,dw,dx,dy,dB,dC,dD,dE,dF,dH,dI,dJ,dK,dL,dM,dN,dO,dP,dQ,dR,dT,dU,dV,dX,dY,dZ,d0,d1,d2,d3,d4,d5,d6,d7,d8,d9,ea,eb,ec,ed,ee,ef,eg,eh,ei,ej,ek,el,em,en,eo,ep,eq,er,es,et,eu,ev,ew,ex,ey,ez,eA,eC,eD,eE,eF,eH,eI,eL,eM,eN,eO,undef,undef,undef,undef],[]⟩ wr
def bR(s:List UInt8)(T:List Tok)(k:Nat):Bool:=match T[k]? with
 | some t=>(t.kind == 4 || t.kind == 3) && decide (strOf t.text=strOf s)
 | none=>false
def rN(q:Int)(T:List Tok)(k:Nat):Bool:=match T[k]? with
 | some t=>t.kind == q
 | none=>false
structure bu(w:World)(g:Nat)(A:IP)(n c:Nat)(T:List Tok)(k deep:Nat):Prop where
 blk:an w g 173 #[.slice A n c,.int .i64 k,.int .i64 0,.int .i64 0,.int .i64 0,.int .i64 deep]
 rO:cJ (EF pW) 4 w g A n T
 lt:k<n
 hW:n<=4001
section
variable {w ab:World} {g:Nat} {A:IP} {n c:Nat} {T:List Tok} {k deep:Nat}
theorem bu.on{M:Nat->Prop}(h:bu w g A n c T k deep)(O:Fr M w ab)(a6:∀b,M b->g<b):bu ab g A n c T k deep:=
 ⟨h.blk.on O λhm=>by have:=a6 g hm;omega,h.rO.eQ (O.below (aC h.blk.lt) λb O hm=>by have:=a6 b hm;omega),h.lt,h.hW⟩
theorem bu.aj(h:bu w g A n c T k deep)(O:Ext w ab):bu ab g A n c T k deep:=h.on O λ_ h=>h.elim
theorem bu.tok(h:bu w g A n c T k deep):∃(b o:Nat) (t:Tok),A=some ⟨b,o,none⟩/\b<g/\T[k]?=some t/\w.cell? ⟨b,o+k*4,none⟩=some (.int .i64 t.kind)/\w.cell? ⟨b,o+k*4+1,none⟩=some (.string (strOf t.text))/\w.cell? ⟨b,o+k*4+2,none⟩=some (.int .i64 t.num)/\w.cell? ⟨b,o+k*4+3,none⟩=some (.int .i64 t.pos):=by
 have hl:=h.rO.1;obtain⟨b,o,bj,O,hc⟩:=h.rO.2 (aC h.lt);have ap:k<T.length:=by have:=h.lt;omega
 have ht:T[k]?=some T[k]:=List.getElem?_eq_getElem ap;obtain⟨cs,rfl,_,a1⟩:=hc k _ ht;have c0:=a1 0 _ rfl;simp only[Ij] at c0;exact⟨b,o,_,bj,O,ht,c0,a1 1 _ rfl,a1 2 _ rfl,a1 3 _ rfl⟩
end
theorem Dt(a b:List UInt8):((strOf a).toList == (strOf b).toList)=decide (strOf a=strOf b):=by
 by_cases h:strOf a=strOf b
 .rw[h];simp
 .rw[rK h];simp[h]
namespace Ag
theorem fP(h:p:=by
 generalize hX:World.drew _=X;have aw:=gX hX;have aS:=lU hX;have bf:=ae aw;have cj:=(aS.aj IK)
 obtain⟨d0,aP,aQ⟩:=aS.two;obtain⟨aI,aj,af⟩:=(show an X g 173 _ from b9.aj aw).two;clear hX aw aS cj;have G:(t.kind == 4 || t.kind == 3)=true->bR s T k=((strOf t.text).toList == (strOf s).toList):=λh=>by rw[bs.o,h,Dt,Bool.true_and]
 have d:(t.kind == 4 || t.kind == 3)=false->bR s T k=false:=λh=>by rw[bs.o,h,Bool.false_and]
 have bV:=ai G d;clear G d;by_cases bv:t.kind=4
 .have c8:(t.kind == 4)=true:=by simpa using bv
  clear bv;go_wp2_with(fail);go_ret;exact⟨ret_bool (bV.1 (by simp[c8])).symm,bf.o⟩
 .have c8:(t.kind == 4)=false:=by simpa using bv
  clear bv;by_cases aR:t.kind=3
  .have dg:(t.kind == 3)=true:=by simpa using aR
   clear aR;go_wp2_with(fail);go_ret;exact⟨ret_bool (bV.1 (by simp[dg])).symm,bf.o⟩
  .have dg:(t.kind == 3)=false:=by simpa using aR
   clear aR;go_wp2_with(fail);go_ret;exact⟨ret_bool (bV.2 (by simp[dg,c8])).symm,bf.o⟩
 ):p:=h
end Ag
open Ag in
theorem k5(s:List UInt8)(g:Nat)(A:IP)(n c:Nat)(T:List Tok)(k deep:Nat)(w:World)(h:bu w g A n c T k deep) :
  Calls prog 60 #[.pointer (some ⟨g,0,none⟩),.string (strOf s)] w λe ab=>e=.returned (.bool (bR s T k))/\Ext w ab:=by
 obtain⟨b,o,t,rfl,O,ht,c0,c1,c2,c3⟩:=h.tok;have al:=h.lt;have F:=h.hW;have cg:=h.blk.lt;have bK:(0:Int)<=(k:Int):=ad;have b7:(k:Int)<(n:Int):=ad;have dq:b<w.heap.size:=ad;have f:bR s T k=((t.kind == 4 || t.kind == 3) && decide (strOf t.text=strOf s)):=by unfold bR;rw[ht]
 have bs:=ae f;obtain⟨aI,aj,af⟩:=h.blk.two;have b9:=ae h.blk;clear h f ht;go_enter func60,ntmps60;go_upto_region 1 with(fail);refine eB (λ_=>False) [(0,3),(1,3),(2,3),(3,0),(4,3),(5,3),(6,3),(7,0),(8,3),(9,0),(10,1),(11,2)] ?_
 iterate 3 refine pf ?_
 refine ph ?_
 iterate 3 refine pf ?_
 refine ph ?_;refine pf ?_;refine ph ?_;refine p2 ?_;exact fO
theorem cp(s:List UInt8)(g:Nat)(A:IP)(n c:Nat)(T:List Tok)(k deep:Nat)(w:World)(h:bu w g A n c T k deep)(q:Bool)(bp:bR s T k=q)(ap:q=true->k+1<n) :
  Calls prog 62 #[.pointer (some ⟨g,0,none⟩),.string (strOf s)] w λe ab=>e=.returned (.bool q)/\bu ab g A n c T (if q=true then k+1 else k) deep/\Fr (λb=>b=g) w ab:=by
 obtain⟨H,bG⟩:=aN h bp;have al:=h.lt;have F:=h.hW;clear h bp
 cases q with
 | false=>
  go_enter func62,ntmps62;go_wp2_with(fail);refine(k5 s g A n c T k deep w H.o).mono ?_;rintro e aO ⟨rfl,aw⟩;rw[bG.o];have H1:=ai (H.aj aw) aw;clear aw ap;go_wp2_with(fail);go_ret
  exact⟨rfl,by simpa using H1.1,H1.2.mono λ_ h=>h.elim⟩
 | true=>
  have bM:=ap rfl;clear ap;go_enter func62,ntmps62;go_wp2_with(fail);refine(k5 s g A n c T k deep w H.o).mono ?_;rintro e aO ⟨rfl,aw⟩;rw[bG.o];have H1:=ai (H.aj aw) aw;obtain⟨aI,aj,af⟩:=H1.1.blk.two;clear aw;go_wp2_with(fail);go_ret;have aA:Fr (λb=>b=g) aO (aO.setCell ⟨g,1,none⟩ (.int .i64 ((k:Int)+1))):=(Fr.refl (λb=>b=g) aO).setCell (.inl rfl) _;refine⟨rfl,⟨?_,H1.1.rO.eQ (aA.below (aC H1.1.blk.lt) λb O hm=>ad),by simpa using bM,F⟩,(H1.2.mono λ_ h=>h.elim).trans aA⟩;exact H1.1.blk.aI 1 (.int .i64 ((k:Int)+1))
theorem jE(s:List UInt8)(g:Nat)(A:IP)(n c:Nat)(T:List Tok)(k deep:Nat)(w:World)(h:bu w g A n c T k deep)(bp:bR s T k=true)(ap:k+1<n) :
  Calls prog 97 #[.pointer (some ⟨g,0,none⟩),.string (strOf s)] w λe ab=>e=.returned (.tuple #[])/\bu ab g A n c T (k+1) deep/\Fr (λb=>b=g) w ab:=by
 obtain⟨H,bG⟩:=aN h bp;clear h bp;go_enter func97,ntmps97;go_wp2_with(fail);refine(cp s g A n c T k deep w H.o true bG.o (λ_=>ap)).mono ?_;rintro e aO ⟨rfl,U,hF⟩;have H1:=ai U hF;clear U hF;go_wp2_with(fail);refine bodyPost_end (v:=.tuple #[]) (by simp[results,Tryz.results97,go_sem]) rfl ?_;exact⟨rfl,by simpa using H1.1,H1.2⟩
theorem n8(q:Int)(g:Nat)(A:IP)(n c:Nat)(T:List Tok)(k deep:Nat)(w:World)(h:bu w g A n c T k deep) :
  Calls prog 59 #[.pointer (some ⟨g,0,none⟩),.int .i64 q] w λe ab=>e=.returned (.bool (rN q T k))/\Ext w ab:=by
 obtain⟨b,o,t,rfl,O,ht,c0,c1,c2,c3⟩:=h.tok;have al:=h.lt;have F:=h.hW;have cg:=h.blk.lt;have bK:(0:Int)<=(k:Int):=ad;have b7:(k:Int)<(n:Int):=ad;have dq:b<w.heap.size:=ad;have f:rN q T k=(t.kind == q):=by unfold rN;rw[ht]
 have bs:=ae f;obtain⟨aI,aj,af⟩:=h.blk.two;clear h f ht;go_enter func59,ntmps59;go_upto_region 1 with(fail);refine eB (λ_=>False) [(0,3),(1,3),(2,3),(3,0),(4,3),(5,3),(6,3),(7,3),(8,3),(9,0),(10,3),(11,3),(12,3),(13,0),(14,3),(15,3),(16,0),(17,3),(18,3),(19,3),(20,3)] ?_
 iterate 3 refine pf ?_
 refine ph ?_
 iterate 5 refine pf ?_
 refine ph ?_
 iterate 3 refine pf ?_
 refine ph ?_
 iterate 2 refine pf ?_
 refine ph ?_
 iterate 4 refine pf ?_
 refine aB ?_;go_wp2_with(fail);go_ret;exact⟨ret_bool bs.symm,IK.drew⟩
theorem mo(g:Nat)(A:IP)(n c:Nat)(T:List Tok)(k deep:Nat)(w:World)(t:Tok)(h:bu w g A n c T k deep)(ht:T[k]?=some t)(bp:t.kind=1)(ap:k+1<n) :
  Calls prog 65 #[.pointer (some ⟨g,0,none⟩)] w λe ab=>e=.returned (.string (strOf t.text))/\bu ab g A n c T (k+1) deep/\Fr (λb=>b=g) w ab:=by
 have H:=ae h;have f:rN 1 T k=true:=by unfold rN;rw[ht];simp[bp]
 obtain⟨bG,bX⟩:=aN f ht;have F:=h.hW;clear h f bp ht;go_enter func65,ntmps65;go_wp2_with(fail);refine(n8 1 g A n c T k deep w H.o).mono ?_;rintro e aO ⟨rfl,aw⟩;rw[bG.o];have H1:=ai (H.aj aw) aw;obtain⟨aI,aj,af⟩:=H1.1.blk.two;clear aw;go_upto_region 5 with(fail);generalize hX:World.setCell _ _ _=X;have aA:=cT hX;have U:bu X g A n c T (k+1) deep:=by
  rw[<-hX];have aA:Fr (λb=>b=g) aO (aO.setCell ⟨g,1,none⟩ (.int .i64 ((k:Int)+1))):=(Fr.refl (λb=>b=g) aO).setCell (.inl rfl) _;exact⟨H1.1.blk.aI 1 (.int .i64 ((k:Int)+1)),H1.1.rO.eQ (aA.below (aC H1.1.blk.lt) λb O hm=>ad),ap,F⟩
 have aV:=ai U ((H1.2.mono λ_ h=>h.elim).trans aA);obtain⟨b,o,d,rfl,O,i,c0,c1,c2,c3⟩:=H1.1.tok;have G:d=t:=by
  have:=bX.o;rw[i] at this;injection this
 subst G;have cg:=U.blk.lt;have dq:b<X.heap.size:=ad;have ek:¬b=g:=ad;have c1:X.cell? ⟨b,o+k*4+1,none⟩=some (.string (strOf d.text)):=(aA.cell (aC H1.1.blk.lt) ek).trans c1;clear aI aj af c0 c2 c3 hX aA;obtain⟨aI,aj,af⟩:=U.blk.two;have bK:(0:Int)<=(k:Int):=ad;have b7:(k:Int)<(n:Int):=ad;have j:(k:Int)<=4001:=ad;clear U i;refine eB (λ_=>False) [(0,3),(1,3),(2,3),(3,0),(4,3),(5,3),(6,3),(7,0),(8,3),(9,3),(10,3),(11,0),(12,3)] ?_
 iterate 3 refine pf ?_
 refine ph ?_
 iterate 3 refine pf ?_
 refine ph ?_;refine pf ?_;rw[show IntKind.i64.wrap ((k:Nat):Int)=(k:Int) from IntWalk.i64_in _ ad]
 iterate 2 refine pf ?_
 refine ph ?_;refine pf ?_;refine aB ?_;go_wp2_with(fail);go_ret;exact⟨rfl,aV.1.aj IK.drew,aV.2.drew⟩
end Go.Proofs.YtajlmkkidmjgoaaGreatDoor

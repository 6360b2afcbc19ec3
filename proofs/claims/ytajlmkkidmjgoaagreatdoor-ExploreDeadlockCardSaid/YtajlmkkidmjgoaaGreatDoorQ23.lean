/- Part 23 of the proof. No condition of its own. -/
import Derived.Test.YtajlmkkidmjgoaaGreatDoorQ14
import Derived.Test.YtajlmkkidmjgoaaGreatDoorQ15
namespace Go.Proofs.YtajlmkkidmjgoaaGreatDoor
open Go.RowKit Go.Proofs.Tryz
set_option maxRecDepth 1000000
set_option maxHeartbeats 25600000
set_option linter.unusedVariables false
variable{t:Int}{fs:List ao}{N g gn i ic l lc:Nat}{M P:Nat->Prop}{GA IA bo:IP}{p:Prop}{e:VE}{Z:World}{f:ao}{u:ax}{x:az}
structure IV where
 eo:Int
 en:Int
 es:ByteArray
 EA:Option Addr
 em:Nat
 ec:Nat
 QA:Option Addr
 qm:Nat
 qc:Nat
 IA:Option Addr
 i:Nat
 ic:Nat
 KA:Option Addr
 k:Nat
 kc:Nat
abbrev IV.val(v:IV)(x:az):Array Value:=#[.int .i64 x.op,.int .i64 x.target,.bool x.dw,.int .i64 v.eo,.int .i64 v.en,.string v.es,.slice v.EA v.em v.ec,.bool x.place.param,.int .i64 x.place.index,.slice v.QA v.qm v.qc,.slice v.IA v.i v.ic,.slice v.KA v.k v.kc]
structure IV.Ok(v:IV)(w:World)(x:az):Prop where
 expr:(nP x.expr).rep w (av w) [.int .i64 v.eo,.int .i64 v.en,.string v.es,.slice v.EA v.em v.ec]
 place:(c9 x.place).rep w (av w) [.bool x.place.param,.int .i64 x.place.index,.slice v.QA v.qm v.qc]
 ints:Sl w (av w) v.IA v.i (x.ints.map a7)
 ES:v.i<=v.ic
 places:Sl w (av w) v.KA v.k (x.places.map c9)
 EW:v.k<=v.kc
theorem IV.Ok.on{v:IV}{w ab:World}{x:az}(h:v.Ok w x)(he:Ext w ab):v.Ok ab x:=
 ⟨D.on h.expr (Fr.ext he),D.on h.place (Fr.ext he),h.ints.on (Fr.ext he),h.ES,h.places.on (Fr.ext he),h.EW⟩
def FB(w:World)(x:az)(e:Ending)(ab:World):Prop:=∃v:IV,e=.returned (.tuple #[.agg (v.val x),.bool true])/\v.Ok ab x/\Ext w ab
theorem sA{s:ah}{ck:c7}(h:dt s t=some f)(hp:u.procs[f.proc.toNat]?=some ck)(hx:ck.code[f.pc.toNat]?=some x):dx u s t=some x:=by
 unfold dx;rw[h];simp only[Option.bind_some,hp,hx]
structure Gt(u:ax)(s:ah)(t:Int)(f:ao)(ck:c7)(x:az)(w:World)(p:UV)(q:SV):Prop where
 sm:Small s
 ht:dt s t=some f
 hp:u.procs[f.proc.toNat]?=some ck
 hx:ck.code[f.pc.toNat]?=some x
 p0:0<=f.proc
 c0:0<=f.pc
 il:x.ints.length<=200
 kl:x.places.length<=200
 u:p.Ok w u
 s:q.Ok w s
theorem gW.code{w:World}{MA PA:IP}{mn pn:Nat}(h:gW w (av w) u GA gn MA mn PA pn){ck:c7}(hp:u.procs[f.proc.toNat]?=some ck)(hx:ck.code[f.pc.toNat]?=some x)(p0:0<=f.proc)(c0:0<=f.pc):
  ∃b o aN co n c,∃v:IV,PA=some ⟨b,o,none⟩/\b<w.heap.size/\f.proc<pn/\w.cell? ⟨b,o+f.proc.toNat*5+4,none⟩=some (.slice (some ⟨aN,co,none⟩) n c)/\aN<w.heap.size/\f.pc<n/\v.Ok w x/\∀j u,(v.val x)[j]?=some u->w.cell? ⟨aN,co+f.pc.toNat*12+j,none⟩=some u:=by
 have ac:=(List.getElem?_eq_some_iff.1 hp).1;have J:=(List.getElem?_eq_some_iff.1 hx).1;have b3:=h.p.1;rw[Ib] at b3;obtain⟨b,o,b2,S,n,c,rfl,O,bH,_,_,_,_,hc,aG,hs⟩:=h.proc (k:=f.proc.toNat) ad;rw[hp] at bH;injection bH with bH;subst bH;have cb:=hs.1;rw[Ib] at cb;obtain⟨aN,co,d,cs,eo,en,es,EA,em,ec,QA,qm,qc,IA,i,ic,KA,m,mc,rfl,bA,g,ak,a1⟩:=hs.Bi (k:=f.pc.toNat) ad;rw[hx] at g;injection g with g;subst g;refine⟨b,o,aN,co,n,c,⟨eo,en,es,EA,em,ec,QA,qm,qc,IA,i,ic,KA,m,mc⟩,rfl,O,ad,hc,bA,ad,⟨ak.expr,ak.place,ak.ints,ak.ES,ak.places,ak.EW⟩,λj u hu=>a1 j u ?_⟩;rw[ak.cells];simpa using hu
theorem EJ:b2 prog 131 130 (.agg #[.bool false,.int .i64 0,.slice none 0 0]) 3 40:=b2.mk' Tryz.underlying131 (by kernel_rfl) rfl ad
theorem jR{X V:World}{t:TypeId}{cs:Array Value}(i:Nat)(vs:List Value)(aS:an V g t cs)(hX:ql g V i vs=X):an X g t (iw cs i vs)/\Fr (λb=>b=g) V X:=by
 subst hX;exact⟨kF vs i V cs aS,l8 vs i V⟩
namespace z3
theorem lj(h:p:=by
 generalize hX:World.setCell v2 _ _=Z;obtain⟨bn,bj⟩:=jR 11 [.slice cl (k+1) c3] bi.2.2.2.1 hX;have bB:an Z aO.heap.size 133 #[.int .i64 x.op,.int .i64 x.target,.bool x.dw,.int .i64 eo,.int .i64 en,.string es,.slice m S J,.bool x.place.param,.int .i64 x.place.index,.slice z ak ac,.slice r bw aW,.slice cl (k+1) c3]:=by
  simpa[iw] using bn
 have aq:=cK (Fr.low (M:=λb=>b=aO.heap.size) (Fr.trans (Fr.mono bi.1 λ_ h=>h.elim) bj) (λb O=>ad):Ext w Z) (Fr.trans bi.2.1 bj) (bi.2.2.1.on bj ad) bB (bi.2.2.2.2.dh bj λb O _=>⟨ad,ad⟩);clear hX bj bn bB aI aj af bO;go_wp2;go_roundw
 case rel=>exact⟨k+1,cl,c3,by go_num,ad,aq.1,aq.2.1,aq.2.2.1,aq.2.2.2.1,by rw[a0 b9.1,Ig];exact aq.2.2.2.2⟩
 case measure=>exact aF
 ):p:=h
theorem qX(h:p:=by
 refine pf ?_;refine au rfl (λK hK=>?_);go_simp;refine dW hK ?_;clear hK K;refine aB ?_;generalize hX:World.setCell _ _ _=X;have bT:Ext w eG:=((ce.1.trans bi.1).trans bI.1).trans cq.2.2.1;obtain⟨bn,aA⟩:=jR 3 [.int .i64 eo,.int .i64 en,.string es,.slice m S J,.bool x.place.param,.int .i64 x.place.index,.slice z ak ac,.slice r bw aW] cq.2.2.2 hX;have aS:an X aO.heap.size 133 #[.int .i64 x.op,.int .i64 x.target,.bool x.dw,.int .i64 eo,.int .i64 en,.string es,.slice m S J,.bool x.place.param,.int .i64 x.place.index,.slice z ak ac,.slice r bw aW,.slice KA c5 kc]:=by
  simpa[iw] using bn
 clear bn;have bz:=bi.1.size;have cx:=bI.1.size;have cY:=cq.2.2.1.size;have cg:V.drew.heap.size=V.heap.size:=rfl;have dx:=aA.size;have cL:D.rep X (λb=>aO.heap.size<b/\b<X.heap.size) (nP x.expr) [.int .i64 eo,.int .i64 en,.string es,.slice m S J]:=
  D.aH (λb O=>(⟨by have:=O.1;omega,by have:=O.2;omega⟩:aO.heap.size<b/\b<X.heap.size)) _ _ (D.aT (λb O=>(aA.block b (aC O.2) (aC O.1)).trans ((cq.2.2.1.block b (aC O.2) λh=>h).trans (bI.1.block b O.2 λh=>h))) _ _ bi.2)
 have cT:D.rep X (λb=>aO.heap.size<b/\b<X.heap.size) (c9 x.place) [.bool x.place.param,.int .i64 x.place.index,.slice z ak ac]:=
  D.aH (λb O=>(⟨by have:=O.1;omega,by have:=O.2;omega⟩:aO.heap.size<b/\b<X.heap.size)) _ _ (D.aT (λb O=>(aA.block b (aC O.2) (aC O.1)).trans (cq.2.2.1.block b O.2 λh=>h)) _ _ bI.2)
 have cN:Sl X (λb=>aO.heap.size<b/\b<X.heap.size) r bw (x.ints.map a7):=
  (cq.2.1.al λb O=>aA.block b O.2 (aC O.1)).mono λb O=>⟨by have:=O.1;omega,by have:=O.2;omega⟩
 have bW:Ext w X:=Fr.low (M:=λb=>b=aO.heap.size) (Fr.trans (Fr.mono bT λ_ h=>h.elim) aA) λb O=>ad;have cM:=(((ce.2.2.1.aj bi.1).aj bI.1).aj cq.2.2.1).on aA ad;have aV:=eU bW cM cL cT cN cq.1;have bQ:=aS;clear hX bT aA aS bz cx cY dx cg cL cT cN bW cM aI aj af;obtain⟨aI,aj,af⟩:=bQ.two;go_upto_region 8 with(fail);generalize hX:World.setCell _ _ _=Y;obtain⟨bn,aA⟩:=jR 11 [.slice none 0 0] bQ hX;have bk:an Y aO.heap.size 133 #[.int .i64 x.op,.int .i64 x.target,.bool x.dw,.int .i64 eo,.int .i64 en,.string es,.slice m S J,.bool x.place.param,.int .i64 x.place.index,.slice z ak ac,.slice r bw aW,.slice none 0 0]:=by
  simpa[iw] using bn
 have bt:Ext w Y:=Fr.low (M:=λb=>b=aO.heap.size) (Fr.trans (Fr.mono aV.1 λ_ h=>h.elim) aA) λb O=>by have:=bh.1.size;omega
 have ch:=aA.size;have bY:=bF bt (aV.2.1.on aA (aC bh.2.lt)) aA bk;have aa:=bh.2.lt;have cA:aO.heap.size<X.heap.size:=by have:=bQ.lt;omega
 clear hX bn aA bk bt bQ aI aj af;go_wp2_with(fail);go_loopw [51] (λci wr=>∃(k:Nat) (aE:IP) (L:Nat),ci=.int .i64 k/\k<=c5/\Ext w wr/\Fr (λb=>b=aO.heap.size) Y wr/\an wr (w.heap.size+2) 133 #[.int .i64 0,.int .i64 0,.bool false,.int .i64 0,.int .i64 0,.string ⟨#[]⟩,.slice none 0 0,.bool false,.int .i64 0,.slice none 0 0,.slice none 0 0,.slice none 0 0]/\
   an wr aO.heap.size 133 #[.int .i64 x.op,.int .i64 x.target,.bool x.dw,.int .i64 eo,.int .i64 en,.string es,.slice m S J,.bool x.place.param,.int .i64 x.place.index,.slice z ak ac,.slice r bw aW,.slice aE k L]/\Gr (λb=>Y.heap.size<=b) Y.heap.size 130 3 wr aE k L ((x.places.take k).map c9)) (λci _=>c5 - (intOf ci).toNat)
 case atStart=>exact⟨0,none,0,rfl,ad,bY.1,IK,bY.2.1,bY.2.2.2,Gr.nil _ _ _ _ _⟩
 case round=>
  obtain⟨k,aE,L,rfl,ap,aw,bN,cy,aS,bS⟩:=hrel;have bP:=cK aw bN cy aS bS;have cr:=bN.size;by_cases al:k<c5
  .obtain⟨b,o,y,cz,b7,zc,rfl,O,a4,b1,cj,bp,bs,cF⟩:=(ay.2.2.2.2.1.places.on (Fr.ext aw)).rB al;have aX:b<wr.heap.size:=O;have b9:=aL a4 bs cF;clear aw bN cy aS bS a4 bs cF O;go_upto_region 11 with(fail);generalize hU:World.alloc _ _=U;have ab:=bm hU;have aR:=aU hU;have cf:=ab.size;have bU:=bP.2.2.2.1.aj ab;have bv:=eU (bP.1.trans ab) (Fr.trans bP.2.1 (ab.mono λ_ h=>h.elim)) (bP.2.2.1.aj ab) bU (bP.2.2.2.2.aj ab) (eh.2 ⟨cz,b7,zc,rfl,b9.2.1,b9.2.2.on (Fr.ext ab)⟩:(c9 y).rep U (av U) [.bool y.param,.int .i64 y.index,.slice cz b7 zc]);obtain⟨d0,aP,aQ⟩:=aR.two;obtain⟨aI,aj,af⟩:=bU.two;clear hU ab aR bU b1 cj bp aX;refine eB (λ_=>False) [(0,3),(1,0),(2,0),(3,1),(4,1),(5,2),(6,3),(7,2)] ?_;refine pf ?_
   iterate 2 refine ph ?_
   refine aD rfl (λK hK=>?_);go_simp;refine(o9 y _ cz b7 zc (D.on bv.2.2.2.2.2 (Fr.ext (Fr.refl _ U).drew))).mono ?_;rintro e v1 ⟨cv,cP,cR,rfl,P,ar⟩;have H1:=ai P ar;refine dA hK (ar) ?_;clear hK K;have ag:Ext U v1:=Fr.aJ ar;have cn:=bv.2.2.2.2.1.aj ag;have b6:=ag.size;have I:∀b,(Value.slice aE k L).ownBlock=some b->b<U.heap.size:=λb O=>(bv.2.2.2.2.1.lt O).2;have hd:(c9 y).rep v1 (kJ (λb=>Y.heap.size<=b) v1 (.slice aE k L)) (#[.bool y.param,.int .i64 y.index,.slice cv cP cR]:Array Value).toList:=
    D.aH (λb O=>⟨by have:=O.1;have:U.drew.heap.size=U.heap.size:=rfl;omega,O.2,λh=>by have:=I b h;have:=O.1;have:U.drew.heap.size=U.heap.size:=rfl;omega⟩) _ _ P
   have aY:=ai cn hd;clear P ar cn hd I;refine p2 ?_;refine au rfl (λK hK=>?_);rw[if_pos (by rfl)];refine pK EJ (.tmp 56) (.tmp 59) rfl aY.1 aY.2 rfl rfl rfl ad ad ad ?_;intro cl c3 v2 b0 g2 cB cQ;have bq:∀b,(Value.slice aE k L).ownBlock=some b->Y.heap.size<=b:=λb O=>(aY.1.lt O).1;have bO:=(bv.2.2.2.1.aj ag).on g2 (λh=>by have:=bq _ h;omega);have cp:=(bv.2.2.1.aj ag).on g2 (λh=>by have:=bq _ h;omega);have aG:Ext w v2:=Fr.low (M:=λb=>(Value.slice aE k L).ownBlock=some b) (Fr.trans (Fr.mono (bv.1.trans ag) λ_ h=>h.elim) g2) λb O=>by have:=bq b O;omega
   have R:Fr (λb=>b=aO.heap.size) Y v2:=(Fr.trans bv.2.1 (ag.mono λ_ h=>h.elim)).eA (g2.below ad λb O hm=>by have:=bq b hm;omega);have bi:=cK aG R cp bO b0;clear b0 g2 cB cQ bq cp aG R aI aj af d0 aP aQ;obtain⟨aI,aj,af⟩:=bO.two;exact lh
  .obtain rfl:k=c5:=ad;obtain⟨aI,aj,af⟩:=aS.two;obtain⟨bD,aK,a9⟩:=cy.two;clear aw bN cy aS bS;go_wp2_with(fail);generalize hX:World.setCell _ _ _=Z;obtain⟨bB,bl,a6⟩:=cO (w:=w) [.int .i64 x.op,.int .i64 x.target,.bool x.dw,.int .i64 eo,.int .i64 en,.string es,.slice m S J,.bool x.place.param,.int .i64 x.place.index,.slice z ak ac,.slice r bw aW,.slice aE k L] (by rfl) bP.2.2.1 bP.1 ad hX;have a2:=ai bl a6;clear hX bl a6 aI aj af bD aK a9;obtain⟨bD,aK,a9⟩:=bB.two;clear bB;refine IJ (v:=.tuple #[.agg #[.int .i64 x.op,.int .i64 x.target,.bool x.dw,.int .i64 eo,.int .i64 en,.string es,.slice m S J,.bool x.place.param,.int .i64 x.place.index,.slice z ak ac,.slice r bw aW,.slice aE k L],.bool true]) (by simp[results,Tryz.results69,go_sem,bD]) rfl ?_;have aM:=bP.2.2.2.2.dh a2.2 λb O _=>⟨ad,ad⟩
   rw[Ih (aC bL.2)] at aM;have cF:=a2.2.size;have ca:∀b,(aO.heap.size<b/\b<X.heap.size)->Z.heap[b]?=X.heap[b]?:=λb O=>(a2.2.block b ad ad).trans ((bP.2.1.block b ad ad).trans (bY.2.2.1.block b O.2 ad));have ez:∀b,(aO.heap.size<b/\b<X.heap.size)->av Z b:=λb O=>by show b<Z.heap.size;omega
   exact⟨⟨eo,en,es,m,S,J,z,ak,ac,r,bw,aW,aE,k,L⟩,rfl,⟨D.aH ez _ _ (D.aT ca _ _ aV.2.2.1),D.aH ez _ _ (D.aT ca _ _ aV.2.2.2.1),(aV.2.2.2.2.1.al ca).mono ez,aV.2.2.2.2.2,aM.sl (λb al O=>al) (λb al O=>al),aM.cap.1⟩,a2.1⟩
 ):p:=h
theorem fP(h:p:=by
 go_upto_region 5 with(fail);generalize hV:World.drew (World.alloc _ _)=V;have bg:Ext w V:=hV▸(bh.1.alloc _).drew;have bK:an V aO.heap.size 133 #[.int .i64 x.op,.int .i64 x.target,.bool x.dw,.int .i64 eo,.int .i64 en,.string es,.slice EA em ec,.bool x.place.param,.int .i64 x.place.index,.slice QA qm qc,.slice db j cW,.slice KA c5 kc]:=hV▸IL;have bG:an V (w.heap.size+2) 133 #[.int .i64 0,.int .i64 0,.bool false,.int .i64 0,.int .i64 0,.string ⟨#[]⟩,.slice none 0 0,.bool false,.int .i64 0,.slice none 0 0,.slice none 0 0,.slice none 0 0]:=hV▸bh.2.aj ((Fr.refl _ aO).alloc _).drew;have cG:=bK.lt;have ce:=bF bg bK bG (ay.2.2.2.2.1.on bg);clear hV bg bG aI aj af di cm bZ cC b5 cd cX cZ c2 c6 cu cE c0 c1 cH;obtain⟨aI,aj,af⟩:=bK.two;clear bK;refine eB (λ_=>False) [(0,3),(1,0),(3,3),(4,0),(6,3),(7,0),(2,1),(9,3),(5,1),(8,2),(10,2),(11,3),(12,2),(13,3),(14,2)] ?_;refine pf ?_;refine ph ?_;refine pf ?_;refine ph ?_;refine pf ?_;refine ph ?_;refine aD rfl (λK hK=>?_);go_simp;refine(xj x.expr _ eo en es EA em ec (D.on ce.2.2.2.expr (Fr.ext (Fr.refl _ V).drew))).mono ?_;rintro e aT ⟨m,S,J,rfl,bc,bx⟩;have bi:=ai (Fr.aJ bx) bc;refine dA hK (bx) ?_;clear hK K;refine pf ?_;clear bc bx;refine aD rfl (λK hK=>?_);go_simp;refine(o9 x.place aT QA qm qc (D.on ce.2.2.2.place (Fr.ext bi.1))).mono ?_;rintro e b4 ⟨z,ak,ac,rfl,b2,bV⟩;have bI:=ai bV b2;refine dA hK (bV) ?_;clear hK K;clear b2 bV;refine au rfl (λK hK=>?_);go_simp
 refine(o6 x.ints (aC bL.1) b4 db j cW ((ce.2.2.2.ints.on (Fr.ext bi.1)).on (Fr.ext bI.1))).mono ?_;rintro e eG ⟨r,bw,aW,rfl,a8,cb,dv⟩;obtain rfl:bw=j:=by have:=cb.1;simp at this;have:=bL.1;omega
 have bH:=((ce.2.1.aj bi.1).aj bI.1).aj dv;have cq:=bF a8 cb dv bH;clear a8 cb dv aI aj af;obtain⟨aI,aj,af⟩:=bH.two;clear bH;refine dW hK ?_;clear hK K;exact qW
 ):p:=h
theorem jr(h:p:=by
 obtain⟨O,bu,b3,cU,n,fc,IA,i,ic,bo,l,lc,e,a5⟩:=hs.at_.top H ht;simp only at e;subst e;obtain⟨pb,gO,aN,co,aZ,bR,v,e,eJ,gI,cS,bA,cV,bC,a3⟩:=hu.at_.code hp hx p0 cI;simp only at e;subst e;simp only at gI;obtain⟨eo,en,es,EA,em,ec,QA,qm,qc,db,j,cW,KA,c5,kc⟩:=v;have bf:x.ints.length=j:=by have:=bC.ints.1;simpa using this
 have Q:x.places.length=c5:=by have:=bC.places.1;simpa using this
 have ct:j<=200:=ad;have cD:c5<=200:=ad;dsimp only[UV.val,SV.val,IV.val] at a3 ⊢;go_enter func69,ntmps69;go_upto_region 1 with(fail);generalize ba:World.alloc _ _=W;have aw:=pT ba;have bH:=lT ba;have bJ:=kZ ba;have cy:=nh ba;have ay:=iK aw bH bJ cy bC cS a3;have bX:=ae (a5.on aw);have bL:=ai bf Q;obtain⟨be,am,aH⟩:=bJ.two;clear ba aw bH bJ cy a5 hu hs H ht hp hx bC cS a3 bf Q cc bb;go_wp2_with(fail);refine(kO bX.o _ _ _).mono ?_;rintro e aO ⟨rfl,ag⟩;have b8:=ae (bX.on ag);have aJ:Ext w aO:=ay.1.trans ag;have bh:=ai aJ (ay.2.2.2.1.aj ag);clear be am aH bX;obtain⟨aI,aj,af⟩:=(ay.2.1.aj ag).two;have T:=aJ.size;have c4:=bh.2.lt;have N:pb<aO.heap.size:=ad;have cJ:aN<aO.heap.size:=ad;have cH:=(aJ.cell (j:=gO+f.proc.toNat*5+4) eJ λh=>h).trans ay.2.2.2.2.2.1;have bd:∀j u,_->aO.cell? ⟨aN,co+f.pc.toNat*12+j,none⟩=some u:=λj u a1=>(aJ.cell (j:=co+f.pc.toNat*12+j) bA λh=>h).trans (ay.2.2.2.2.2.2 j u a1);have di:=bd 0 _ rfl;simp only[Ij] at di;have cm:=bd 1 _ rfl;have bZ:=bd 2 _ rfl;have cC:=bd 3 _ rfl;have b5:=bd 4 _ rfl;have cd:=bd 5 _ rfl;have cX:=bd 6 _ rfl;have cZ:=bd 7 _ rfl;have c2:=bd 8 _ rfl;have c6:=bd 9 _ rfl;have cu:=bd 10 _ rfl;have cE:=bd 11 _ rfl;have cw:=b8.lf;have c0:=b8.c0;have c1:=b8.c1;clear ag aJ bd eJ bA T;go_upto_region 4 with(fail);refine eB (λ_=>False) [(0,3),(1,0),(2,3),(3,3),(4,3),(5,0),(6,3),(7,3),(8,0),(9,3),(10,3),(11,3),(12,0),(13,3),(14,0),(15,1),(16,2)] ?_;refine pf ?_;refine ph ?_
 iterate 3 refine pf ?_
 refine ph ?_
 iterate 2 refine pf ?_
 refine ph ?_
 iterate 3 refine pf ?_
 refine ph ?_;refine pf ?_;refine ph ?_;refine p2 ?_;exact fO
 ):p:=h
end z3
open z3 in
theorem nC(u:ax)(s:ah)(t:Int)(f:ao)(ck:c7)(x:az)(w:World)(p:UV)(q:SV)(h:Gt u s t f ck x w p q) :
  Calls prog 69 #[.agg (p.val u),.agg (q.val s),.int .i64 t] w (FB w x):=by
 obtain⟨H,ht,hp,hx,p0,cI,cc,bb,hu,hs⟩:=h;exact jq
abbrev Cr:Array Value:=#[.int .i64 0,.int .i64 0,.bool false,.int .i64 0,.int .i64 0,.string ⟨#[]⟩,.slice none 0 0,.bool false,.int .i64 0,.slice none 0 0,.slice none 0 0,.slice none 0 0]
structure SV.Is(q:SV)(w:World)(P:Nat->Prop)(s:ah):Prop where
 at_:k9 w P s q.GA q.gn q.TA q.tn q.HA q.hn
 gc:q.gn<=q.gc
 tc:q.tn<=q.tc
 hc:q.hn<=q.hc
def dP(P:Nat->Prop)(w:World)(s:ah)(b:Bool)(e:Ending)(ab:World):Prop:=∃q:SV,e=.returned (.tuple #[.agg (q.val s),.bool b])/\q.Is ab (λk=>P k\/(w.heap.size<=k/\k<ab.heap.size)) s/\Ext w ab
abbrev mF:Nat->Prop:=λ_=>False
theorem SV.Is.ok{q:SV}{w:World}{s:ah}(h:q.Is w P s)(U:∀b,P b->b<w.heap.size):q.Ok w s:=⟨h.at_.mono U,h.gc,h.tc,h.hc⟩
theorem SV.Is.mono{q:SV}{w:World}{P bW:Nat->Prop}{s:ah}(h:q.Is w P s)(U:∀b,P b->bW b):q.Is w bW s:=⟨h.at_.mono U,h.gc,h.tc,h.hc⟩
theorem SV.Is.al{q:SV}{w ab:World}{P:Nat->Prop}{s:ah}(h:q.Is w P s)(ap:∀b,P b->ab.heap[b]?=w.heap[b]?):q.Is ab P s:=⟨⟨h.at_.g.al ap,h.at_.t.al ap,h.at_.h.al ap⟩,h.gc,h.tc,h.hc⟩
theorem pP.sv{w:World}{s:ah}{TA HA:IP}{gc tn tc hn hc:Nat}{xs:List Value}{aq ar bN bR:List Nat}(h:pP w s GA gn gc TA tn tc HA hn hc xs aq ar bN bR)(hl:∀b∈aq++(ar++(bN++bR)),P b):(⟨GA,gn,gc,TA,tn,tc,HA,hn,hc⟩:SV).Is w P s:=
 ⟨h.at_ hl,h.g.cap,h.t.cap,h.h.cap⟩
theorem rp(s:ah)(q:SV)(w:World)(h:q.Ok w s)(H:Small s):Calls prog 70 #[.agg (q.val s)] w λe ab=>∃o:SV,e=.returned (.agg (o.val s))/\o.Is ab (fresh w ab) s/\Ext w ab:=by
 refine(fj s q.GA q.TA q.HA q.gn q.gc q.tn q.tc q.hn q.hc w h.at_ H).mono ?_;rintro e ab ⟨GA,gc,TA,tc,HA,hc,xs,aq,ar,bN,bR,rfl,b1,bq,aw⟩;exact⟨⟨GA,q.gn,gc,TA,q.tn,tc,HA,q.hn,hc⟩,rfl,b1.sv bq,aw⟩
namespace z4
theorem jr(h:p:=by
 have bs:=ai hs ht;clear hs ht;dsimp only[UV.val,SV.val];go_enter func69,ntmps69;go_upto_region 1 with(fail);generalize ba:World.alloc _ _=W;have aw:=pT ba;have bJ:=kZ ba;have cy:=nh ba;have ay:=ai aw cy;obtain⟨be,am,aH⟩:=bJ.two;clear ba aw bJ cy;go_wp2_with(fail);refine(xk s bE TA HA bM br tn tc hn hc t W (bs.1.on ay.1).at_ bs.2).mono ?_;rintro e aO ⟨rfl,ag⟩;have i:=ay.2.aj ag;have bh:=ai (ay.1.trans ag) i;clear be am aH ag;obtain⟨bD,aK,a9⟩:=i.two;clear i;go_wp2_with(fail);generalize hX:World.setCell _ _ _=Z;obtain⟨bB,bl,a6⟩:=cO (w:=w) [.int .i64 0,.int .i64 0,.bool false,.int .i64 0,.int .i64 0,.string ⟨#[]⟩,.slice none 0 0,.bool false,.int .i64 0,.slice none 0 0,.slice none 0 0,.slice none 0 0] (by rfl) bh.2 bh.1 ad hX;have a2:=ae bl;clear hX bl a6 bD aK a9;obtain⟨bD,aK,a9⟩:=bB.two;refine IJ (v:=.tuple #[.agg Cr,.bool false]) (by simp[results,Tryz.results69,go_sem,bD]) rfl ?_;exact⟨rfl,a2.o⟩
 ):p:=h
end z4
open z4 in
theorem nB(u:ax)(s:ah)(t:Int)(w:World)(p:UV)(q:SV)(hs:q.Ok w s)(ht:dt s t=none) :
  Calls prog 69 #[.agg (p.val u),.agg (q.val s),.int .i64 t] w λe ab=>e=.returned (.tuple #[.agg Cr,.bool false])/\Ext w ab:=by
 exact jq
theorem kM(s:ah)(q:SV)(z:Int)(w:World)(h:q.Ok w s)(H:Small s):Calls prog 105 #[.agg (q.val s),.int .i64 z] w (dP mF w {s with fault:=z} true):=by
 obtain⟨bE,bM,br,TA,tn,tc,HA,hn,hc⟩:=q;have bs:=ai h H;clear h H;dsimp only[SV.val];go_enter func105,ntmps105;go_upto_region 1 with(fail);generalize ba:World.alloc _ _=W;have aw:=hJ ba;have aS:=fA ba;have cy:=fB ba;have ay:=aL aw aS cy;obtain⟨be,am,aH⟩:=aS.two;clear ba aw aS cy;go_wp2_with(fail);refine(rp s ⟨bE,bM,br,TA,tn,tc,HA,hn,hc⟩ W (bs.1.on ay.1) bs.2).mono ?_;rintro e aO ⟨⟨a4,cu,aW,aX,m,S,bc,bA,aZ⟩,rfl,cc,ag⟩;have co:=ay.2.1.aj ag;have H1:=bF cc (ay.1.trans ag) co (ay.2.2.aj ag);clear be am aH cc ag;obtain⟨be,am,aH⟩:=co.two;clear co;go_upto_region 3 with(fail);generalize hX:World.setCell _ _ _=X;obtain⟨bU,aA⟩:=jR 3 [.int .i64 z] (jR 0 [.slice a4 cu aW,.slice aX m S,.slice bc bA aZ,.int .i64 s.fault] H1.2.2.1 rfl).1 hX;have az:Fr (λb=>b=w.heap.size) aO X:=(jR 0 [.slice a4 cu aW,.slice aX m S,.slice bc bA aZ,.int .i64 s.fault] H1.2.2.1 rfl).2.trans aA;have bO:an X w.heap.size 45 #[.slice a4 cu aW,.slice aX m S,.slice bc bA aZ,.int .i64 z]:=by simpa[iw] using bU
 have cM:=H1.2.2.2.on az ad;have bW:Ext w X:=Fr.low (M:=λb=>b=w.heap.size) (Fr.trans (Fr.mono H1.2.1 λ_ h=>h.elim) az) λb O=>ad;have aV:=aL bW cM az;clear hX bU aA az be am aH bW;obtain⟨be,am,aH⟩:=bO.two;obtain⟨bD,aK,a9⟩:=cM.two;clear bO cM;go_wp2_with(fail);generalize hX:World.setCell _ _ _=Z;obtain⟨bB,bl,a6⟩:=cO (w:=w) [.slice a4 cu aW,.slice aX m S,.slice bc bA aZ,.int .i64 z] (by rfl) aV.2.1 aV.1 ad hX;have a2:=ai bl a6;clear hX bl a6 bD aK a9 be am aH;obtain⟨bD,aK,a9⟩:=bB.two;refine IJ (v:=.tuple #[.agg #[.slice a4 cu aW,.slice aX m S,.slice bc bA aZ,.int .i64 z],.bool true]) (by simp[results,Tryz.results105,go_sem,bD]) rfl ?_;have aa:=aV.2.2.size;have cF:=a2.2.size;have aM:w.heap.size+1<W.heap.size:=ay.2.2.lt;have ak:(⟨a4,cu,aW,aX,m,S,bc,bA,aZ⟩:SV).Is Z (fresh W aO) {s with fault:=z}:=SV.Is.al (w:=aO) ⟨⟨H1.1.at_.g,H1.1.at_.t,H1.1.at_.h⟩,H1.1.gc,H1.1.tc,H1.1.hc⟩ λb O=>(a2.2.block b (aC O.2) (aC O.1)).trans (aV.2.2.block b O.2 (aC O.1));exact⟨⟨a4,cu,aW,aX,m,S,bc,bA,aZ⟩,rfl,ak.mono λb O=>.inr ⟨by have:=O.1;omega,by have:=O.2;omega⟩,a2.1⟩
theorem F5(o a:Value)(O hn hc b3 n fc:Nat)(t:Int)(w:World)(h0:0<=t)(al:t<hn)(dm:O<w.heap.size)(a3:w.cell? ⟨O,t.toNat,none⟩=some (.slice (some ⟨b3,0,none⟩) (n+1) fc))(m:n<=1000000) :
  Calls prog 74 #[.agg #[o,a,.slice (some ⟨O,0,none⟩) hn hc,.int .i64 0],.int .i64 t] w λe ab=>e=.returned (.pointer (some ⟨b3,n*4,none⟩))/\Ext w ab:=by
 have:=wk o a O 0 hn hc b3 0 n fc t w h0 al dm (by rw[It];exact a3) m
 rwa [It] at this
theorem fG{s:ah}{S:ao}(h:s.threads[t.toNat]?=some (fs++[f])):bf s t S={s with threads:=s.threads.set t.toNat (fs++[S])}:=by
 unfold bf;rw[kN h,j5]
theorem q8{w:World}{al j:Nat}{v:Value}(h:g≠al\/i≠j):(w.setCell ⟨g,i,none⟩ v).cell? ⟨al,j,none⟩=w.cell? ⟨al,j,none⟩:=by
 apply World.cell?_setCell_other
 intro he;injection he with ac J;omega
structure dd(B:Nat)(w:World)(s:ah)(G:Nat)(q:SV)(xs:List Value)(aq ar bN bR:List Nat):Prop where
 st:pP w s q.GA q.gn q.gc q.TA q.tn q.tc q.HA q.hn q.hc xs aq ar bN bR
 o:an w G 45 (q.val s)
 ne:G∉aq++(ar++(bN++bR))
 lo:∀b∈aq++(ar++(bN++bR)),B<=b/\b<w.heap.size
 go:B<=G
section
variable {B:Nat} {w ab:World} {s:ah} {G:Nat} {q:SV} {xs:List Value} {aq ar bN bR:List Nat}
theorem dd.aj(h:dd B w s G q xs aq ar bN bR)(he:Ext w ab):dd B ab s G q xs aq ar bN bR:=
 ⟨h.st.al λb O=>he.block b (h.lo b O).2 λh=>h,h.o.aj he,h.ne,λb O=>⟨(h.lo b O).1,Hy (h.lo b O).2 he.size⟩,h.go⟩
theorem dd.dh(h:dd B w s G q xs aq ar bN bR)(he:Fr M w ab)(a6:∀b,M b->b<B):dd B ab s G q xs aq ar bN bR:=
 ⟨h.st.al λb O=>he.block b (h.lo b O).2 λhm=>by have:=a6 b hm;have:=(h.lo b O).1;omega,h.o.on he (λhm=>by have:=a6 G hm;have:=h.go;omega),h.ne,λb O=>⟨(h.lo b O).1,Hy (h.lo b O).2 he.size⟩,h.go⟩
theorem dd.store(h:dd B w s G q xs aq ar bN bR){bP:ah}{p:Addr}{u:Value}(hp:p.block∈aq++(ar++(bN++bR)))(b1:pP (w.setCell p u) bP q.GA q.gn q.gc q.TA q.tn q.tc q.HA q.hn q.hc xs aq ar bN bR)(aA:bP.fault=s.fault):dd B (w.setCell p u) bP G q xs aq ar bN bR:=by
 refine⟨b1,?_,h.ne,λb O=>⟨(h.lo b O).1,by simpa[World.setCell] using (h.lo b O).2⟩,h.go⟩;have:=h.o.GH (p:=p) (λhe=>h.ne (he▸hp)) u;unfold SV.val at this ⊢
 rwa [aA]
theorem dd.ok(h:dd B w s G q xs aq ar bN bR):q.Is w (λb=>B<=b/\b<w.heap.size) s:=(show (⟨q.GA,q.gn,q.gc,q.TA,q.tn,q.tc,q.HA,q.hn,q.hc⟩:SV).Is w _ s from h.st.sv h.lo)
structure qU(B:Nat)(w:World)(s:ah)(G:Nat)(q:SV)(xs:List Value)(aq ar bN bR:List Nat)(t:Int)(fs:List ao)(f:ao)(b3:Nat)(IA:IP)(i ic:Nat)(bo:IP)(l lc:Nat):Prop where
 oz:dd B w s G q xs aq ar bN bR
 lt:b3<w.heap.size
 c0:w.cell? ⟨b3,fs.length*4,none⟩=some (.int .i64 f.proc)
 c1:w.cell? ⟨b3,fs.length*4+1,none⟩=some (.int .i64 f.pc)
 c2:w.cell? ⟨b3,fs.length*4+2,none⟩=some (.slice IA i ic)
 c3:w.cell? ⟨b3,fs.length*4+3,none⟩=some (.slice bo l lc)
 fz:∀j,w.frozen? ⟨b3,j,none⟩=false
 ne:b3≠G
 ge:B<=b3
 hd:∃O fc,q.HA=some ⟨O,0,none⟩/\t.toNat<q.hn/\O<w.heap.size/\O≠b3/\O≠G/\B<=O/\(∀j,w.frozen? ⟨O,j,none⟩=false)/\w.cell? ⟨O,t.toNat,none⟩=some (.slice (some ⟨b3,0,none⟩) (fs.length+1) fc)/\fs.length+1<=fc
 pc:∀v,dd B (w.setCell ⟨b3,fs.length*4+1,none⟩ (.int .i64 v)) {s with threads:=s.threads.set t.toNat (fs++[{f with pc:=v}])} G q xs aq ar bN bR
 ints:∀j v,j<i->∃H,IA=some ⟨H,0,none⟩/\H<w.heap.size/\w.frozen? ⟨H,j,none⟩=false/\(∃u,w.cell? ⟨H,j,none⟩=some u)/\H≠G/\B<=H/\dd B (w.setCell ⟨H,j,none⟩ (.int .i64 v)) {s with threads:=s.threads.set t.toNat (fs++[{f with ints:=f.ints.set j v}])} G q xs aq ar bN bR
theorem dd.Ep(bu:dd B w s G q xs aq ar bN bR)(bp:s.threads[t.toNat]?=some (fs++[f])){O b3 fc:Nat}(mQ:q.HA=some ⟨O,0,none⟩)
  (hc:w.cell? ⟨O,t.toNat,none⟩=some (.slice (some ⟨b3,0,none⟩) (fs.length+1) fc)) (c2:w.cell? ⟨b3,fs.length*4+2,none⟩=some (.slice IA i ic)) (c3:w.cell? ⟨b3,fs.length*4+3,none⟩=some (.slice bo l lc)) :
  qU B w s G q xs aq ar bN bR t fs f b3 IA i ic bo l lc:=by
 have al:∀b,b∈bR->b∈aq++(ar++(bN++bR)):=λb O=>by simp[O]
 have ca:∀b,b∈bN->b∈aq++(ar++(bN++bR)):=λb O=>by simp[O]
 obtain⟨aX,bk,cI,E,x,F,bw,ax,ch,e,p,h,o,c,a,r,T,aZ,m,d0,d1,d2,d3,n,g,u,d,_⟩:=bu.st.top bp;have e1:=mQ.symm.trans e;injection e1 with e1;injection e1 with e1 _;subst e1;have e2:=hc.symm.trans aZ;injection e2 with e2;injection e2 with e2 _ e3;injection e2 with e2;injection e2 with e2 _;subst e2 e3;have cH:=c2.symm.trans d2;injection cH with cH;injection cH with cH cV bQ;subst cH cV bQ;have k:=c3.symm.trans d3;injection k with k;injection k with k e8 e9;subst k e8 e9;refine⟨bu,o,d0,d1,d2,d3,g,λhe=>bu.ne (he▸al _ a),(bu.lo _ (al _ a)).1,⟨O,fc,e,p,h,?_,λhe=>bu.ne (he▸ca _ c),(bu.lo _ (ca _ c)).1,n,aZ,m⟩,λv=>bu.store (al _ a) (u v) rfl,λj v a1=>?_⟩
 .intro he;subst he;have nd:=bu.st.nd;have n1:=(List.nodup_append.1 nd).2.1;have cd:=(List.nodup_append.1 n1).2.1;exact(List.nodup_append.1 cd).2.2 O c O a rfl
 .obtain⟨H,c8,cc,dB,N,Z,b1⟩:=d j v a1;exact⟨H,c8,cc,N,Z,λhe=>bu.ne (he▸al _ dB),(bu.lo _ (al _ dB)).1,bu.store (al _ dB) b1 rfl⟩
theorem dd.top(h:dd B w s G q xs aq ar bN bR){t:Int}{fs:List ao}{f:ao}(bp:s.threads[t.toNat]?=some (fs++[f]))(h0:0<=t)(bx:s.fault=0)(m:fs.length<=1000000) :
  ∃b3 IA i ic bo l lc,i=f.ints.length/\l=f.aw.length/\
   (∀ab,Ext w ab->Calls prog 74 #[.agg (q.val s),.int .i64 t] ab λe j=>e=.returned (.pointer (some ⟨b3,fs.length*4,none⟩))/\Ext ab j)/\
   ∀ab,Ext w ab->qU B ab s G q xs aq ar bN bR t fs f b3 IA i ic bo l lc:=by
 obtain⟨O,b3,fc,IA,i,ic,bo,l,lc,mQ,Q,T,b7,bq,v,ak,hl,hc,az,c0,c1,c2,c3,bS,a,cS,hints,_⟩:=h.st.top bp;refine⟨b3,IA,i,ic,bo,l,lc,ak,hl,λab he=>?_,λab he=>?_⟩
 .have:=F5 (.slice q.GA q.gn q.gc) (.slice q.TA q.tn q.tc) O q.hn q.hc b3 fs.length fc t ab h0 ad (Hy T he.size) ((he.cell T λh=>h).trans hc) m;unfold SV.val;rw[mQ,bx];exact this
 .exact(h.aj he).Ep bp mQ ((he.cell T λh=>h).trans hc) ((he.cell b7 λh=>h).trans c2) ((he.cell b7 λh=>h).trans c3)
theorem qU.Gm{b3:Nat}(h:qU B w s G q xs aq ar bN bR t fs f b3 IA i ic bo l lc)(bp:s.threads[t.toNat]?=some (fs++[f]))(v:Int):
  qU B (w.setCell ⟨b3,fs.length*4+1,none⟩ (.int .i64 v)) {s with threads:=s.threads.set t.toNat (fs++[{f with pc:=v}])} G q xs aq ar bN bR t fs {f with pc:=v} b3 IA i ic bo l lc:=by
 obtain⟨O,fc,mQ,_,T,aZ,_,_,_,hc,_⟩:=h.hd;have al:=(List.getElem?_eq_some_iff.1 bp).1;exact(h.pc v).Ep (by simp[al]) mQ ((q8 (.inl (Ne.symm aZ))).trans hc) ((q8 (.inr ad)).trans h.c2) ((q8 (.inr ad)).trans h.c3)
theorem dd.dw(h:dd B w s G q xs aq ar bN bR){j:Nat}(a1:j<q.gn):∃aN,q.GA=some ⟨aN,0,none⟩/\aN<w.heap.size/\w.frozen? ⟨aN,j,none⟩=false/\(∃u,w.cell? ⟨aN,j,none⟩=some u)/\aN≠G/\B<=aN/\
  ∀v,dd B (w.setCell ⟨aN,j,none⟩ (.int .i64 v)) {s with globals:=s.globals.set j v} G q xs aq ar bN bR:=by
 obtain⟨aN,bS,hl,aA,hc,hm,b1⟩:=h.st.dw a1;have c9:aN∈aq++(ar++(bN++bR)):=by simp[hm]
 exact⟨aN,bS,hl,aA,hc,λhe=>h.ne (he▸c9),(h.lo _ c9).1,λv=>h.store c9 (b1 v) rfl⟩
end
structure lS(u:ax)(s:ah)(t:Int)(f:ao)(ck:c7)(x:az)(N:Nat):Prop where
 hU:x0 u
 hS:aV u N s
 sm:Small s
 ht:dt s t=some f
 hF:bW u f
 hp:u.procs[f.proc.toNat]?=some ck
 hx:ck.code[f.pc.toNat]?=some x
 ok:∃len:Nat,ck.code.length=len+1/\hf (bk u) ck.locals ck.aw len x
 nx:x.op≠8->f.pc+1<ck.code.length
 pc:0<=f.pc/\f.pc<=201
 il:x.ints.length<=200
 kl:x.places.length<=200
theorem lS.of{s:ah}(hU:x0 u)(hS:aV u N s)(hN:N<=100000)(ht:dt s t=some f):∃ck x,lS u s t f ck x N/\dx u s t=some x:=by
 obtain⟨hF,_,_⟩:=hS.top ht;obtain⟨ck,x,hp,hx,ac,J,aR,bv,ct,Q,C,r,a4⟩:=hU.FX hF;have hc:=a4.code;obtain⟨c,a6,cf,_⟩:=hc;have hl:ck.code.length=c.length+1:=by rw[a6];simp
 exact⟨ck,x,⟨hU,hS,hS.small hU.ok hN,ht,hF,hp,hx,ct,r,⟨bv,ad⟩,Q,C⟩,sA ht hp hx⟩
theorem lS.FU{s:ah}{ck:c7}(h:lS u s t f ck x N)(he:fR (bk u) ck.locals e){w:World}{c0 c1 c2 c3:Value}
  (aM:Sl w (av w) GA gn (s.globals.map .i)) (ak:Sl w (av w) IA i (f.ints.map .i)) (aY:(a7 e).rep w (av w) [c0,c1,c2,c3]):lP w GA IA gn i s.globals f.ints e [c0,c1,c2,c3]/\xS s.globals f.ints e:=by
 obtain⟨bu,g,_⟩:=v8 h.hS h.hF h.hp he;have ac:=aM.1;have J:=ak.1;rw[Ib] at ac J;exact⟨⟨aM.ints,ak.ints,by rw[<-ac,<-J];exact bu,j6 e _ aY⟩,g⟩
structure Hb(u:ax)(s:ah)(t:Int)(f:ao)(x:az)(r:Int×Int):Prop where
 bad:r.2≠0->cq u s t f x=({s with fault:=r.2},true)
 bz:r.2=0->x.op=6->r.1=0->cq u s t f x=(bf s t {f with pc:=x.target},true)
 bn:r.2=0->x.op=6->r.1≠0->cq u s t f x=(bf s t (next f),true)
 gl:r.2=0->x.op=1->x.dw=true->cq u s t f x=({bf s t (next f) with globals:=s.globals.set x.target.toNat r.1},true)
 lo:r.2=0->x.op=1->x.dw=false->cq u s t f x=(bf s t {next f with ints:=f.ints.set x.target.toNat r.1},true)
theorem He{s:ah}(he:x.expr=some e)(ch:x.op=1\/x.op=6):Hb u s t f x (ev s.globals f.ints e):=by
 have h0:cq u s t f x=(if (ev s.globals f.ints e).2≠0 then ({s with fault:=(ev s.globals f.ints e).2},true)
  else if x.op=6 then (bf s t (if (ev s.globals f.ints e).1=0 then {f with pc:=x.target} else next f),true)
  else if x.dw then ({bf s t (next f) with globals:=s.globals.set x.target.toNat (ev s.globals f.ints e).1},true)
  else (bf s t {next f with ints:=f.ints.set x.target.toNat (ev s.globals f.ints e).1},true)):=by
  unfold cq;rw[if_pos ch,he];rfl
 generalize ev s.globals f.ints e=r at *;refine⟨λh=>?_,λh Q bi=>?_,λh Q bi=>?_,λh ac aM=>?_,λh ac aM=>?_⟩
 .rw[h0,if_pos h]
 .rw[h0,if_neg ad,if_pos Q,if_pos bi]
 .rw[h0,if_neg ad,if_pos Q,if_neg bi]
 .rw[h0,if_neg ad,if_neg ad,if_pos aM]
 .rw[h0,if_neg ad,if_neg ad,if_neg (by simp[aM])]
theorem lS.th{s:ah}{ck:c7}(h:lS u s t f ck x N):s.fault=0/\0<=t/\t<s.threads.length/\∃fs,s.threads[t.toNat]?=some (fs++[f])/\fs.length<=1000000:=by
 obtain⟨h0,ac,fs,bp⟩:=jj h.ht;have:=(List.getElem?_eq_some_iff.1 bp).1;exact⟨h0,ac,ad,fs,bp,by have:=(h.sm.f _ (Ia bp)).1;simp at this;omega⟩
theorem gB{w W:World}{B:Nat}{s bP:ah}{G:Nat}{q:SV}{xs:List Value}{aq ar bN bR:List Nat}(h:dd B W s G q xs aq ar bN bR)(aA:Fr M W Z)(a6:∀b,M b->b<B)(aS:w.heap.size<=B)(aw:Ext w Z)(hs:s=bP):dP mF w bP true (.returned (.tuple #[.agg (q.val bP),.bool true])) Z:=by
 subst hs;exact⟨q,rfl,(h.dh aA a6).ok.mono λb O=>.inr ⟨ad,O.2⟩,aw⟩
theorem dY{w aT b4:World}{bP:ah}{b:Bool}{q:SV}(h:q.Is b4 (λk=>mF k\/(aT.heap.size<=k/\k<b4.heap.size)) bP)(aA:Fr M b4 Z)(a6:∀b,M b->b<aT.heap.size)(aS:w.heap.size<=aT.heap.size)(aw:Ext w Z):dP mF w bP b (.returned (.tuple #[.agg (q.val bP),.bool b])) Z:=
 ⟨q,rfl,(h.al λk ap=>aA.block k (ap.resolve_left λh=>h).2 λhm=>by have:=a6 k hm;have:=(ap.resolve_left λh=>h).1;omega).mono λk ap=>.inr ⟨by have:=(ap.resolve_left λh=>h).1;omega,by have:=(ap.resolve_left λh=>h).2;have:=aA.size;omega⟩,aw⟩
namespace z5
theorem fP(h:p:=by
 go_upto_region 13 with(fail);generalize hX:World.setCell _ _ _=Y;have bd:dd aT.heap.size Y {s with threads:=(s.threads.set t.toNat (fs++[next f])).set t.toNat (fs++[{next f with ints:=(next f).ints.set x.target.toNat r}])} b4.heap.size ⟨a4,bM,aW,aX,tn,S,bc,hn,aZ⟩ xs aq ar bN bR:=hX▸cH.o;have P:=cT hX;have b6:=b9;have bt:Ext w Y:=Fr.low (M:=λb=>b=H) (Fr.trans (Fr.mono (ay.1.trans aA.2.1) λ_ h=>h.elim) P) λb O=>by have:=ay.1.size;omega
 have y:=aA.2.2.on P (aC ay.2.2.2.1.lt);have bY:=aL bd y bt;clear e0 bn a0 bD aK a9;obtain⟨e0,bn,a0⟩:=bd.o.two;obtain⟨bD,aK,a9⟩:=y.two;clear hX bd P bt y;go_wp2_with(fail);generalize hX:World.setCell _ _ _=Z;obtain⟨bB,bl,a6⟩:=cO (w:=w) [.slice a4 bM aW,.slice aX tn S,.slice bc hn aZ,.int .i64 s.fault] (by rfl) bY.2.1 bY.2.2 ad hX;have a2:=ai bl a6;clear hX bl a6 bD aK a9 e0 bn a0;obtain⟨bD,aK,a9⟩:=bB.two;refine IJ (v:=.tuple #[.agg #[.slice a4 bM aW,.slice aX tn S,.slice bc hn aZ,.int .i64 s.fault],.bool true]) (by simp[results,Tryz.results73,go_sem,bD]) rfl ?_;rw[bV.o];show dP mF w (bf s t {next f with ints:=f.ints.set x.target.toNat r}) true _ _
 exact gB (bP:=bf s t {next f with ints:=f.ints.set x.target.toNat r}) (q:=⟨a4,bM,aW,aX,tn,S,bc,hn,aZ⟩) bY.1 a2.2.drew (λb O=>by have:=ay.2.2.2.1.lt;omega) (aC ay.1.size) a2.1.drew (by rw[fG bG.2.2.1,List.set_set];rfl)
 ):p:=h
end z5
open z5 in
theorem uz(u:ax)(s:ah)(t:Int)(f:ao)(ck:c7)(x:az)(N:Nat)(w:World)(q:SV)(v:IV)(h:lS u s t f ck x N)(ch:x.op=1\/x.op=6)(hs:q.Ok w s)(bC:v.Ok w x) :
  Calls prog 73 #[.agg (q.val s),.int .i64 t,.agg (v.val x)] w (dP mF w (cq u s t f x).1 (cq u s t f x).2):=by
 obtain⟨bx,cR,cr,fs,bp,b7⟩:=h.th;obtain⟨bE,bM,br,TA,tn,tc,HA,hn,hc⟩:=q;obtain⟨eo,en,es,EA,em,ec,QA,qm,qc,db,j,cW,KA,c5,kc⟩:=v;obtain⟨O,bu,b3,cU,n,fc,IA,i,ic,bo,l,lc,e,a5⟩:=hs.at_.top h.sm h.ht;simp only at e;subst e;obtain⟨len,hlen,ak⟩:=h.ok;have hx:(∃e,x.expr=some e/\fR (bk u) ck.locals e)/\0<=x.target/\(x.op=1->x.dw=true->x.target<u.globals.length)/\(x.op=1->x.dw=false->x.target<f.ints.length):=by
  obtain⟨b2,bH,_,T,_⟩:=h.hF.ex;rw[h.hp] at bH;injection bH with bH;subst bH;rcases ak with⟨ac,J,aR,bv,ct⟩|⟨ac,_⟩|⟨ac,_⟩|⟨ac,_,J,aR,bv⟩|⟨ac,_⟩|⟨ac,_⟩
  .exact⟨J,aR,λ_ aM=>by have:=bv aM;simpa[bk] using this,λ_ aM=>by have:=ct aM;omega⟩
  .omega
  .omega
  .exact⟨J,aR,λh=>ad,λh=>ad⟩
  .omega
  .omega
 obtain⟨⟨ex,hex,ab⟩,df,a1,k⟩:=hx;have dv:=He (u:=u) (s:=s) (t:=t) (f:=f) hex ch;have aE:bM=s.globals.length:=by have:=hs.at_.g.1;simpa using this.symm
 have cg:=h.hS.dw;have cS:=h.pc;have bb:=h.nx;have aV:=cK h ab hex a1 k;have bG:=eU bx cR bp b7 aE cg;have L:=ae dv;have dn:=bF cS bb hlen df;have ce:=aL hs bC a5;clear bx bp aE cg hlen cS bb ak hex ab a1 k b7 cr df cR h dv hs bC a5;dsimp only[SV.val,IV.val];go_enter func73,ntmps73;go_upto_region 1 with(fail);generalize ba:World.alloc _ _=W;have aw:=pT ba;have bO:=lT ba;have bJ:=kZ ba;have cy:=nh ba;have ay:=eU aw bO bJ cy (ce.1.on aw) (ce.2.1.on aw);have bX:=ae (ce.2.2.on aw);obtain⟨aI,aj,af⟩:=bO.two;obtain⟨be,am,aH⟩:=bJ.two;clear ba aw bO bJ cy ce;refine eB (λ_=>False) [(0,3),(1,0),(2,3),(3,0),(4,0),(5,3),(6,1),(7,3),(8,3),(9,0),(10,2),(11,3),(12,3),(13,3),(14,3),(15,3)] ?_;refine pf ?_;refine ph ?_;refine pf ?_
 iterate 2 refine ph ?_
 refine pf ?_;refine aD rfl (λK hK=>?_);go_simp;refine(kO (bX.on (Fr.refl _ W).drew) _ _ _).mono ?_;rintro e aO ⟨rfl,ag⟩;have b8:=ae (bX.on (Fr.aJ ag));have bh:=ae (Fr.aJ ag);have cw:=b8.lf;have c2:=b8.c2;refine dA hK (ag) ?_;clear hK K;clear ag
 iterate 2 refine pf ?_
 refine Hm ?_;refine au rfl (λK hK=>?_);go_simp;have aP:(a7 ex).rep aO (av aO) [.int .i64 eo,.int .i64 en,.string es,.slice EA em ec]:=by
  have:=(ay.2.2.2.2.2.on bh.o).expr;rw[aV.2.2.1] at this;exact this
 refine(oe ex aO bE IA bM i br ic s.globals f.ints _ _ _ _ (aV.1.FU aV.2.1 (ay.2.2.2.2.1.on bh.o).at_.g b8.ints aP).1).mono ?_;rintro e aT ⟨rfl,bw⟩;have a3:=ae (bh.trans (Fr.of bw));generalize ev s.globals f.ints ex=R at *;obtain⟨r,z⟩:=R;clear aP bw aI aj af be am aH c2 cw;obtain⟨aI,aj,af⟩:=(ay.2.1.aj a3.o).two;have cb:=a3.size;refine dW hK ?_;clear hK K
 iterate 5 refine pf ?_
 refine aB ?_;by_cases bi:z=0
 case neg=>
  have cA:(z != 0)=true:=by simpa using bi
  have bV:=ae (L.bad bi);clear bi L bX b8;go_wp2_with(fail);refine(kM s ⟨bE,bM,br,TA,tn,tc,some ⟨O,bu,none⟩,hn,hc⟩ z aT (ay.2.2.2.2.1.on a3.o) aV.1.sm).mono ?_;rintro e b4 ⟨⟨a4,cu,aW,aX,m,S,bc,bA,aZ⟩,rfl,cc,aG⟩;have cL:=ae cc;have cp:=(ay.2.2.2.1.aj a3.o).aj aG;have a8:=ai cp ((ay.1.trans a3.o).trans aG);obtain⟨bD,aK,a9⟩:=cp.two;clear cc aG cp aI aj af;go_wp2_with(fail);generalize hX:World.setCell _ _ _=Z;obtain⟨bB,bl,a6⟩:=cO (w:=w) [.slice a4 cu aW,.slice aX m S,.slice bc bA aZ,.int .i64 z] (by rfl) a8.1 a8.2 ad hX;have a2:=ai bl a6;clear hX bl a6 bD aK a9;obtain⟨bD,aK,a9⟩:=bB.two;refine IJ (v:=.tuple #[.agg #[.slice a4 cu aW,.slice aX m S,.slice bc bA aZ,.int .i64 z],.bool true]) (by simp[results,Tryz.results73,go_sem,bD]) rfl ?_;rw[bV.o];show dP mF w {s with fault:=z} true _ _
  exact dY (bP:={s with fault:=z}) (q:=⟨a4,cu,aW,aX,m,S,bc,bA,aZ⟩) cL.o a2.2 (λb O=>by have:=ay.2.2.2.1.lt;omega) (aC ay.1.size) a2.1
 have cA:(z != 0)=false:=by simpa using bi
 have aa:=ae bi;clear bi bX b8;go_wp2_with(fail);refine(fj s bE TA (some ⟨O,bu,none⟩) bM br tn tc hn hc aT (ay.2.2.2.2.1.on a3.o).at_ aV.1.sm).mono ?_;rintro e b4 ⟨a4,aW,aX,S,bc,aZ,xs,aq,ar,bN,bR,rfl,b1,bq,aG⟩;have bI:=aL b1 bq aG;clear b1 bq aG aI aj af;go_upto_region 5 with(fail);generalize hV:World.alloc _ _=V;have bg:=bm hV;have bK:=aU hV;have dF:=bI.2.2.size;have hOut:dd aT.heap.size V s b4.heap.size ⟨a4,bM,aW,aX,tn,S,bc,hn,aZ⟩ xs aq ar bN bR:=
  ⟨bI.1.al λb O=>bg.block b (bI.2.1 b O).2 λh=>h,bK,λO=>by have:=(bI.2.1 _ O).2;omega,λb O=>⟨(bI.2.1 b O).1,by have:=(bI.2.1 b O).2;have:=bg.size;omega⟩,dF⟩
 have G:Ext W V:=(a3.trans bI.2.2).trans bg;obtain⟨cX,c1,i2,cZ,cY,dc,c4,c0,bS,cD,ap⟩:=hOut.top bG.2.2.1 bG.2.1 bG.1 bG.2.2.2.1;have ce:=cK hOut cD ap G c0;obtain⟨e0,bn,a0⟩:=hOut.o.two;clear hV bg bK hOut G cD ap c0 bS;go_wp2_with(fail);refine(ce.2.1 V IK).mono ?_;rintro e eG ⟨rfl,aS⟩;have aF:=ae (ce.2.2.1 eG aS);have cv:=ae (ce.2.2.2.1.trans aS);clear e0 bn a0 aS;have b0:=aF.c1;have g2:=aF.fz;have cB:=aF.lt;have cQ:=dn.1;go_upto_region 8 with(fail);generalize hX:World.setCell _ _ _=X;have cN:qU aT.heap.size X {s with threads:=s.threads.set t.toNat (fs++[next f])} b4.heap.size ⟨a4,bM,aW,aX,tn,S,bc,hn,aZ⟩ xs aq ar bN bR t fs (next f) cX c1 i2 cZ cY dc c4:=hX▸aF.Gm bG.2.2.1 (f.pc+1);have bT:=cT hX;have dj:=aF.ge;have bW:Ext W X:=Fr.low (M:=λb=>b=cX) (Fr.trans (Fr.mono cv.o λ_ h=>h.elim) bT) λb O=>ad;have bQ:=ay.2.2.1.aj bW;have cM:=ay.2.2.2.1.aj bW;have aA:=aL cN bW cM;obtain⟨be,am,aH⟩:=bQ.two;obtain⟨e0,bn,a0⟩:=cN.oz.o.two;obtain⟨bD,aK,a9⟩:=cM.two;have cm:=cN.c1;have bZ:=cN.c2;have cC:=cN.fz;have b5:=cN.lt;have cd:=cN.ne;clear hX cN bT bW bQ cM b0 g2 cB aF;by_cases Q:x.op=6
 .have dh:(x.op == 6)=true:=by simpa using Q
  by_cases aY:r=0
  .have bU:(r == 0)=true:=by simpa using aY
   have bV:=ae (L.bz aa.o Q aY);clear Q aY L;go_upto_region 13 with(fail);generalize hX:World.setCell _ _ _=Y;have bd:dd aT.heap.size Y {s with threads:=(s.threads.set t.toNat (fs++[next f])).set t.toNat (fs++[{next f with pc:=x.target}])} b4.heap.size ⟨a4,bM,aW,aX,tn,S,bc,hn,aZ⟩ xs aq ar bN bR:=hX▸aA.1.pc x.target;have P:=cT hX;have bt:Ext w Y:=Fr.low (M:=λb=>b=cX) (Fr.trans (Fr.mono (ay.1.trans aA.2.1) λ_ h=>h.elim) P) λb O=>by have:=ay.1.size;omega
   have y:=aA.2.2.on P (aC ay.2.2.2.1.lt);have bY:=aL bd y bt;clear e0 bn a0 bD aK a9;obtain⟨e0,bn,a0⟩:=bd.o.two;obtain⟨bD,aK,a9⟩:=y.two;clear hX bd P bt y;go_wp2_with(fail);generalize hX:World.setCell _ _ _=Z;obtain⟨bB,bl,a6⟩:=cO (w:=w) [.slice a4 bM aW,.slice aX tn S,.slice bc hn aZ,.int .i64 s.fault] (by rfl) bY.2.1 bY.2.2 ad hX;have a2:=ai bl a6;clear hX bl a6 bD aK a9 e0 bn a0;obtain⟨bD,aK,a9⟩:=bB.two;refine IJ (v:=.tuple #[.agg #[.slice a4 bM aW,.slice aX tn S,.slice bc hn aZ,.int .i64 s.fault],.bool true]) (by simp[results,Tryz.results73,go_sem,bD]) rfl ?_;rw[bV.o];show dP mF w (bf s t {f with pc:=x.target}) true _ _
   exact gB (bP:=bf s t {f with pc:=x.target}) (q:=⟨a4,bM,aW,aX,tn,S,bc,hn,aZ⟩) bY.1 a2.2 (λb O=>by have:=ay.2.2.2.1.lt;omega) (aC ay.1.size) a2.1 (by rw[fG bG.2.2.1,List.set_set];rfl)
  .have bU:(r == 0)=false:=by simpa using aY
   have bV:=ae (L.bn aa.o Q aY);clear Q aY L;have bY:=aL aA.1.oz aA.2.2 (ay.1.trans aA.2.1);go_wp2_with(fail);generalize hX:World.setCell _ _ _=Z;obtain⟨bB,bl,a6⟩:=cO (w:=w) [.slice a4 bM aW,.slice aX tn S,.slice bc hn aZ,.int .i64 s.fault] (by rfl) bY.2.1 bY.2.2 ad hX;have a2:=ai bl a6;clear hX bl a6 bD aK a9 e0 bn a0;obtain⟨bD,aK,a9⟩:=bB.two;refine IJ (v:=.tuple #[.agg #[.slice a4 bM aW,.slice aX tn S,.slice bc hn aZ,.int .i64 s.fault],.bool true]) (by simp[results,Tryz.results73,go_sem,bD]) rfl ?_;rw[bV.o];show dP mF w (bf s t (next f)) true _ _
   exact gB (bP:=bf s t (next f)) (q:=⟨a4,bM,aW,aX,tn,S,bc,hn,aZ⟩) bY.1 a2.2 (λb O=>by have:=ay.2.2.2.1.lt;omega) (aC ay.1.size) a2.1 (by rw[fG bG.2.2.1])
 .have ac:x.op=1:=ad;have dh:(x.op == 6)=false:=by simpa using Q
  cases aM:x.dw with
  | true=>
   have bV:=ae (L.gl aa.o ac aM);rw[aM] at be;have bj:=aV.2.2.2.1 ac aM;have aQ:=bG.2.2.2.2.1;have aJ:=bG.2.2.2.2.2;have bL:x.target<(bM:Int):=ad;have bs:=dn.2.2.2;obtain⟨aN,I,c9,cI,⟨ca,al⟩,cf,b9,U⟩:=aA.1.oz.dw (j:=x.target.toNat) (by show x.target.toNat<bM;omega);simp only at I;subst I;have cH:=ae (U r);clear Q ac L bj aQ aJ U;go_upto_region 13 with(fail);generalize hX:World.setCell _ _ _=Y;have bd:dd aT.heap.size Y {s with threads:=s.threads.set t.toNat (fs++[next f]),globals:=s.globals.set x.target.toNat r} b4.heap.size ⟨some ⟨aN,0,none⟩,bM,aW,aX,tn,S,bc,hn,aZ⟩ xs aq ar bN bR:=hX▸cH.o;have P:=cT hX;have dq:=b9;have bt:Ext w Y:=Fr.low (M:=λb=>b=aN) (Fr.trans (Fr.mono (ay.1.trans aA.2.1) λ_ h=>h.elim) P) λb O=>by have:=ay.1.size;omega
   have y:=aA.2.2.on P (aC ay.2.2.2.1.lt);have bY:=aL bd y bt;clear e0 bn a0 bD aK a9;obtain⟨e0,bn,a0⟩:=bd.o.two;obtain⟨bD,aK,a9⟩:=y.two;clear hX bd P bt y;go_wp2_with(fail);generalize hX:World.setCell _ _ _=Z;obtain⟨bB,bl,a6⟩:=cO (w:=w) [.slice (some ⟨aN,0,none⟩) bM aW,.slice aX tn S,.slice bc hn aZ,.int .i64 s.fault] (by rfl) bY.2.1 bY.2.2 ad hX;have a2:=ai bl a6;clear hX bl a6 bD aK a9 e0 bn a0;obtain⟨bD,aK,a9⟩:=bB.two;refine IJ (v:=.tuple #[.agg #[.slice (some ⟨aN,0,none⟩) bM aW,.slice aX tn S,.slice bc hn aZ,.int .i64 s.fault],.bool true]) (by simp[results,Tryz.results73,go_sem,bD]) rfl ?_;rw[bV.o];show dP mF w ({bf s t (next f) with globals:=s.globals.set x.target.toNat r}) true _ _
   exact gB (bP:={bf s t (next f) with globals:=s.globals.set x.target.toNat r}) (q:=⟨some ⟨aN,0,none⟩,bM,aW,aX,tn,S,bc,hn,aZ⟩) bY.1 a2.2 (λb O=>by have:=ay.2.2.2.1.lt;omega) (aC ay.1.size) a2.1 (by rw[fG bG.2.2.1])
  | false=>
   have bV:=ae (L.lo aa.o ac aM);rw[aM] at be;have bz:=aV.2.2.2.2 ac aM;have c0:=ce.2.2.2.2;have bL:x.target<(i2:Int):=ad;have bs:=dn.2.2.2;obtain⟨H,c8,c9,cI,⟨ca,al⟩,cf,b9,hints⟩:=aA.1.ints x.target.toNat r ad;subst c8;have cH:=ae hints;clear Q ac L bz c0 hints;go_upto_region 7 with(fail);refine eB (λ_=>False) [(0,3),(1,3),(2,3),(3,0),(4,3),(5,0),(6,3),(7,3),(8,2)] ?_
   iterate 3 refine pf ?_
   refine ph ?_;refine pf ?_;refine ph ?_
   iterate 2 refine pf ?_
   exact fO
end Go.Proofs.YtajlmkkidmjgoaaGreatDoor

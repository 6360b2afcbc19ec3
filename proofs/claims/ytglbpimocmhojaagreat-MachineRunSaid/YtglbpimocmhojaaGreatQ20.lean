/- Part 20 of the proof. No condition of its own. -/
import Derived.Test.YtglbpimocmhojaaGreatQ19
namespace Go.Proofs.YtglbpimocmhojaaGreat
open Go.RowKit Go.Proofs.Tryz
set_option maxRecDepth 1000000
set_option maxHeartbeats 25600000
set_option linter.unusedVariables false
variable{t:Int}{fs:List al}{g i ic l lc:Nat}{P:Nat->Prop}{IA S:Lp}{p:Prop}{f:al}
theorem G7:ch prog 56 55 (.agg #[.bool false,.int .i64 0,.slice none 0 0]) 3 40:=ch.mk' Tryz.underlying56 (by kernel_rfl) rfl ad
theorem ke{X V:World}{t:TypeId}{cs:Array Value}(i:Nat)(vs:List Value)(aR:aq V g t cs)(hX:rr g V i vs=X):aq X g t (iZ cs i vs)/\Fr (λb=>b=g) V X:=by
 subst hX;exact⟨kW vs i V cs aR,mz vs i V⟩
namespace Ca
theorem se(h:p:=by
 refine pf ?_;refine ax rfl (λK hK=>?_);go_simp;refine dO hK ?_;clear hK K;refine aE ?_;generalize hX:World.setCell _ _ _=X;have bv:Ext w cL:=((cc.1.trans bJ.1).trans bW.1).trans bY.2.2.1;obtain⟨cb,J⟩:=ke 3 [.int .i64 eo,.int .i64 en,.string es,.slice m au an,.bool x.place.param,.int .i64 x.place.index,.slice ac aP aH,.slice R be a5] bY.2.2.2 hX;have aR:aq X aS.heap.size 58 #[.int .i64 x.op,.int .i64 x.target,.bool x.dg,.int .i64 eo,.int .i64 en,.string es,.slice m au an,.bool x.place.param,.int .i64 x.place.index,.slice ac aP aH,.slice R be a5,.slice KA dj kc]:=by
  simpa[iZ] using cb
 clear cb;have bN:=bJ.1.size;have cO:=bW.1.size;have de:=bY.2.2.1.size;have b4:V.drew.heap.size=V.heap.size:=rfl;have dJ:=J.size;have b5:D.rep X (λb=>aS.heap.size<b/\b<X.heap.size) (oj x.expr) [.int .i64 eo,.int .i64 en,.string es,.slice m au an]:=
  D.aL (λb O=>(⟨by have:=O.1;omega,by have:=O.2;omega⟩:aS.heap.size<b/\b<X.heap.size)) _ _ (D.aS (λb O=>(J.block b (aC O.2) (aC O.1)).trans ((bY.2.2.1.block b (aC O.2) λh=>h).trans (bW.1.block b O.2 λh=>h))) _ _ bJ.2)
 have cB:D.rep X (λb=>aS.heap.size<b/\b<X.heap.size) (di x.place) [.bool x.place.param,.int .i64 x.place.index,.slice ac aP aH]:=
  D.aL (λb O=>(⟨by have:=O.1;omega,by have:=O.2;omega⟩:aS.heap.size<b/\b<X.heap.size)) _ _ (D.aS (λb O=>(J.block b (aC O.2) (aC O.1)).trans (bY.2.2.1.block b O.2 λh=>h)) _ _ bW.2)
 have cx:Sl X (λb=>aS.heap.size<b/\b<X.heap.size) R be (x.ints.map bk):=
  (bY.2.1.ak λb O=>J.block b O.2 (aC O.1)).mono λb O=>⟨by have:=O.1;omega,by have:=O.2;omega⟩
 have bp:Ext w X:=Fr.low (M:=λb=>b=aS.heap.size) (Fr.trans (Fr.mono bv λ_ h=>h.elim) J) λb O=>ad;have bq:=(((cc.2.2.1.ai bJ.1).ai bW.1).ai bY.2.2.1).on J ad;have aQ:=cS bp bq b5 cB cx bY.1;have bz:=aR;clear hX bv J aR bN cO de dJ b4 b5 cB cx bp bq a0 ai af;obtain⟨a0,ai,af⟩:=bz.two;go_upto_region 8 with(fail);generalize hX:World.setCell _ _ _=Y;obtain⟨cb,J⟩:=ke 11 [.slice none 0 0] bz hX;have bE:aq Y aS.heap.size 58 #[.int .i64 x.op,.int .i64 x.target,.bool x.dg,.int .i64 eo,.int .i64 en,.string es,.slice m au an,.bool x.place.param,.int .i64 x.place.index,.slice ac aP aH,.slice R be a5,.slice none 0 0]:=by
  simpa[iZ] using cb
 have bG:Ext w Y:=Fr.low (M:=λb=>b=aS.heap.size) (Fr.trans (Fr.mono aQ.1 λ_ h=>h.elim) J) λb O=>by have:=bu.1.size;omega
 have cE:=J.size;have bB:=bL bG (aQ.2.1.on J (aC bu.2.lt)) J bE;have ao:=bu.2.lt;have ck:aS.heap.size<X.heap.size:=by have:=bz.lt;omega
 clear hX cb J bE bG bz a0 ai af;go_wp2_with(fail);go_loopw [51] (λcu wr=>∃(k:Nat) (I:Lp) (aJ:Nat),cu=.int .i64 k/\k<=dj/\Ext w wr/\Fr (λb=>b=aS.heap.size) Y wr/\aq wr (w.heap.size+2) 58 #[.int .i64 0,.int .i64 0,.bool false,.int .i64 0,.int .i64 0,.string ⟨#[]⟩,.slice none 0 0,.bool false,.int .i64 0,.slice none 0 0,.slice none 0 0,.slice none 0 0]/\
   aq wr aS.heap.size 58 #[.int .i64 x.op,.int .i64 x.target,.bool x.dg,.int .i64 eo,.int .i64 en,.string es,.slice m au an,.bool x.place.param,.int .i64 x.place.index,.slice ac aP aH,.slice R be a5,.slice I k aJ]/\Gr (λb=>Y.heap.size<=b) Y.heap.size 55 3 wr I k aJ ((x.places.take k).map di)) (λcu _=>dj - (intOf cu).toNat)
 case atStart=>exact⟨0,none,0,rfl,ad,bB.1,Ll,bB.2.1,bB.2.2.2,Gr.nil _ _ _ _ _⟩
 case round=>
  obtain⟨k,I,aJ,rfl,ap,aw,bg,cA,aR,hG⟩:=hrel;have bQ:=cK aw bg cA aR hG;have ds:=bg.size;by_cases ak:k<dj
  .obtain⟨b,o,y,cU,b8,zc,rfl,O,bb,cr,cy,cd,bo,cQ⟩:=(ag.2.2.2.2.1.places.on (Fr.ext aw)).oM ak;have aV:b<wr.heap.size:=O;have cn:=aD bb bo cQ;clear aw bg cA aR hG bb bo cQ O;go_upto_region 11 with(fail);generalize hU:World.alloc _ _=U;have cl:=aX hU;have cY:=aK hU;have cW:=cl.size;have bs:=bQ.2.2.2.1.ai cl;have cz:=cS (bQ.1.trans cl) (Fr.trans bQ.2.1 (cl.mono λ_ h=>h.elim)) (bQ.2.2.1.ai cl) bs (bQ.2.2.2.2.ai cl) (dT.2 ⟨cU,b8,zc,rfl,cn.2.1,cn.2.2.on (Fr.ext cl)⟩:(di y).rep U (av U) [.bool y.param,.int .i64 y.index,.slice cU b8 zc]);obtain⟨d0,aL,aM⟩:=cY.two;obtain⟨a0,ai,af⟩:=bs.two;clear hU cl cY bs cr cy cd aV;refine eK (λ_=>False) [(0,3),(1,0),(2,0),(3,1),(4,1),(5,2),(6,3),(7,2)] ?_;refine pf ?_
   iterate 2 refine ph ?_
   refine aI rfl (λK hK=>?_);go_simp;refine(pW y _ cU b8 zc (D.on cz.2.2.2.2.2 (Fr.ext (Fr.refl _ U).drew))).mono ?_;rintro e v1 ⟨cX,da,db,rfl,Q,ar⟩;have H1:=ah Q ar;refine dz hK (ar) ?_;clear hK K;have aN:Ext U v1:=Fr.aF ar;have cD:=cz.2.2.2.2.1.ai aN;have cp:=aN.size;have aB:∀b,(Value.slice I k aJ).ownBlock=some b->b<U.heap.size:=λb O=>(cz.2.2.2.2.1.lt O).2;have hd:(di y).rep v1 (lu (λb=>Y.heap.size<=b) v1 (.slice I k aJ)) (#[.bool y.param,.int .i64 y.index,.slice cX da db]:Array Value).toList:=
    D.aL (λb O=>⟨by have:=O.1;have:U.drew.heap.size=U.heap.size:=rfl;omega,O.2,λh=>by have:=aB b h;have:=O.1;have:U.drew.heap.size=U.heap.size:=rfl;omega⟩) _ _ Q
   have a6:=ah cD hd;clear Q ar cD hd aB;refine qV ?_;refine ax rfl (λK hK=>?_);rw[if_pos (by rfl)];refine qD G7 (.tmp 56) (.tmp 59) rfl a6.1 a6.2 rfl rfl rfl ad ad ad ?_;intro cC c3 v2 ca g2 cT c8;have br:∀b,(Value.slice I k aJ).ownBlock=some b->Y.heap.size<=b:=λb O=>(a6.1.lt O).1;have bD:=(cz.2.2.2.1.ai aN).on g2 (λh=>by have:=br _ h;omega);have cG:=(cz.2.2.1.ai aN).on g2 (λh=>by have:=br _ h;omega);have a7:Ext w v2:=Fr.low (M:=λb=>(Value.slice I k aJ).ownBlock=some b) (Fr.trans (Fr.mono (cz.1.trans aN) λ_ h=>h.elim) g2) λb O=>by have:=br b O;omega
   have aY:Fr (λb=>b=aS.heap.size) Y v2:=(Fr.trans cz.2.1 (aN.mono λ_ h=>h.elim)).eN (g2.below ad λb O hm=>by have:=br b hm;omega);have bJ:=cK a7 aY cG bD ca;clear ca g2 cT c8 br cG a7 aY a0 ai af d0 aL aM;obtain⟨a0,ai,af⟩:=bD.two;refine dO hK ?_;clear hK K;refine pf ?_;refine ax rfl (λK hK=>?_);go_simp;refine dO hK ?_;clear hK K;refine aE ?_;generalize hX:World.setCell v2 _ _=Z;obtain⟨cb,bH⟩:=ke 11 [.slice cC (k+1) c3] bJ.2.2.2.1 hX;have bh:aq Z aS.heap.size 58 #[.int .i64 x.op,.int .i64 x.target,.bool x.dg,.int .i64 eo,.int .i64 en,.string es,.slice m au an,.bool x.place.param,.int .i64 x.place.index,.slice ac aP aH,.slice R be a5,.slice cC (k+1) c3]:=by
    simpa[iZ] using cb
   have r:=cK (Fr.low (M:=λb=>b=aS.heap.size) (Fr.trans (Fr.mono bJ.1 λ_ h=>h.elim) bH) (λb O=>ad):Ext w Z) (Fr.trans bJ.2.1 bH) (bJ.2.2.1.on bH ad) bh (bJ.2.2.2.2.c8 bH λb O _=>⟨ad,ad⟩);clear hX bH cb bh a0 ai af bD;go_wp2;go_roundw
   case rel=>exact⟨k+1,cC,c3,by go_num,ad,r.1,r.2.1,r.2.2.1,r.2.2.2.1,by rw[aZ cn.1,KK];exact r.2.2.2.2⟩
   case measure=>exact aG
  .obtain rfl:k=dj:=ad;obtain⟨a0,ai,af⟩:=aR.two;obtain⟨bl,aA,aO⟩:=cA.two;clear aw bg cA aR hG;go_wp2_with(fail);generalize hX:World.setCell _ _ _=Z;obtain⟨bh,a9,bd⟩:=bA (w:=w) [.int .i64 x.op,.int .i64 x.target,.bool x.dg,.int .i64 eo,.int .i64 en,.string es,.slice m au an,.bool x.place.param,.int .i64 x.place.index,.slice ac aP aH,.slice R be a5,.slice I k aJ] (by rfl) bQ.2.2.1 bQ.1 ad hX;have bf:=ah a9 bd;clear hX a9 bd a0 ai af bl aA aO;obtain⟨bl,aA,aO⟩:=bh.two;clear bh;refine Lk (v:=.tuple #[.agg #[.int .i64 x.op,.int .i64 x.target,.bool x.dg,.int .i64 eo,.int .i64 en,.string es,.slice m au an,.bool x.place.param,.int .i64 x.place.index,.slice ac aP aH,.slice R be a5,.slice I k aJ],.bool true]) (by simp[results,Tryz.results16,go_sem,bl]) rfl ?_;have a2:=bQ.2.2.2.2.c8 bf.2 λb O _=>⟨ad,ad⟩
   rw[KL (aC b9.2)] at a2;have cQ:=bf.2.size;have bU:∀b,(aS.heap.size<b/\b<X.heap.size)->Z.heap[b]?=X.heap[b]?:=λb O=>(bf.2.block b ad ad).trans ((bQ.2.1.block b ad ad).trans (bB.2.2.1.block b O.2 ad));have eG:∀b,(aS.heap.size<b/\b<X.heap.size)->av Z b:=λb O=>by show b<Z.heap.size;omega
   exact⟨⟨eo,en,es,m,au,an,ac,aP,aH,R,be,a5,I,k,aJ⟩,rfl,⟨D.aL eG _ _ (D.aS bU _ _ aQ.2.2.1),D.aL eG _ _ (D.aS bU _ _ aQ.2.2.2.1),(aQ.2.2.2.2.1.ak bU).mono eG,aQ.2.2.2.2.2,a2.sl (λb ak O=>ak) (λb ak O=>ak),a2.cap.1⟩,bf.1⟩
 ):p:=h
theorem dB(h:p:=by
 go_upto_region 5 with(fail);generalize hV:World.drew (World.alloc _ _)=V;have bm:Ext w V:=hV▸(bu.1.alloc _).drew;have b7:aq V aS.heap.size 58 #[.int .i64 x.op,.int .i64 x.target,.bool x.dg,.int .i64 eo,.int .i64 en,.string es,.slice EA em ec,.bool x.place.param,.int .i64 x.place.index,.slice QA qm qc,.slice dg j c9,.slice KA dj kc]:=hV▸Lm;have z:aq V (w.heap.size+2) 58 #[.int .i64 0,.int .i64 0,.bool false,.int .i64 0,.int .i64 0,.string ⟨#[]⟩,.slice none 0 0,.bool false,.int .i64 0,.slice none 0 0,.slice none 0 0,.slice none 0 0]:=hV▸bu.2.ai ((Fr.refl _ aS).alloc _).drew;have dk:=b7.lt;have cc:=bL bm b7 z (ag.2.2.2.2.1.on bm);clear hV bm z a0 ai af dh cv bO cV H b1 cj cf ci ct bS bZ c0 c1 b0;obtain⟨a0,ai,af⟩:=b7.two;clear b7;refine eK (λ_=>False) [(0,3),(1,0),(3,3),(4,0),(6,3),(7,0),(2,1),(9,3),(5,1),(8,2),(10,2),(11,3),(12,2),(13,3),(14,2)] ?_;refine pf ?_;refine ph ?_;refine pf ?_;refine ph ?_;refine pf ?_;refine ph ?_;refine aI rfl (λK hK=>?_);go_simp;refine(yo x.expr _ eo en es EA em ec (D.on cc.2.2.2.expr (Fr.ext (Fr.refl _ V).drew))).mono ?_;rintro e aT ⟨m,au,an,rfl,L,bw⟩;have bJ:=ah (Fr.aF bw) L;refine dz hK (bw) ?_;clear hK K;refine pf ?_;clear L bw;refine aI rfl (λK hK=>?_);go_simp;refine(pW x.place aT QA qm qc (D.on cc.2.2.2.place (Fr.ext bJ.1))).mono ?_;rintro e bX ⟨ac,aP,aH,rfl,bt,bT⟩;have bW:=ah bT bt;refine dz hK (bT) ?_;clear hK K;clear bt bT;refine ax rfl (λK hK=>?_);go_simp
 refine(pU x.ints (aC b9.1) bX dg j c9 ((cc.2.2.2.ints.on (Fr.ext bJ.1)).on (Fr.ext bW.1))).mono ?_;rintro e cL ⟨R,be,a5,rfl,aW,bx,du⟩;obtain rfl:be=j:=by have:=bx.1;simp at this;have:=b9.1;omega
 have b6:=((cc.2.1.ai bJ.1).ai bW.1).ai du;have bY:=bL aW bx du b6;clear aW bx du a0 ai af;obtain⟨a0,ai,af⟩:=b6.two;clear b6;refine dO hK ?_;clear hK K;exact sd
 ):p:=h
theorem Au(h:p:=by
 have cw:=ab.lf;have c0:=ab.c0;have c1:=ab.c1;clear aN a3 bj dN P T;go_upto_region 4 with(fail);refine eK (λ_=>False) [(0,3),(1,0),(2,3),(3,3),(4,3),(5,0),(6,3),(7,3),(8,0),(9,3),(10,3),(11,3),(12,0),(13,3),(14,0),(15,1),(16,2)] ?_;refine pf ?_;refine ph ?_
 iterate 3 refine pf ?_
 refine ph ?_
 iterate 2 refine pf ?_
 refine ph ?_
 iterate 3 refine pf ?_
 refine ph ?_;refine pf ?_;refine ph ?_;refine qV ?_;exact eP
 ):p:=h
theorem AR(h:p:=by
 obtain⟨eo,en,es,EA,em,ec,QA,qm,qc,dg,j,c9,KA,dj,kc⟩:=v;have aU:x.ints.length=j:=by have:=bI.ints.1;simpa using this
 have cm:x.places.length=dj:=by have:=bI.places.1;simpa using this
 have cF:j<=200:=ad;have cI:dj<=200:=ad;dsimp only[UV.val,SV.val,IV.val] at a4 ⊢;go_enter func16,ntmps16;go_upto_region 1 with(fail);generalize ba:World.alloc _ _=W;have aw:=lF ba;have b6:=jo ba;have ce:=ir ba;have cA:=jq ba;have ag:=hP aw b6 ce cA bI dc a4;have aa:=ae (hT.on aw);have b9:=ah aU cm;obtain⟨a8,am,aF⟩:=ce.two;clear ba aw b6 ce cA hT hu hs a1 ht hp hx bI dc a4 aU cm cg bc;go_wp2_with(fail);refine(k2 aa.o _ _ _).mono ?_;rintro e aS ⟨rfl,aN⟩;have ab:=ae (aa.on aN);have a3:Ext w aS:=ag.1.trans aN;have bu:=ah a3 (ag.2.2.2.1.ai aN);clear a8 am aF aa;obtain⟨a0,ai,af⟩:=(ag.2.1.ai aN).two;have T:=a3.size;have c4:=bu.2.lt;have bP:pb<aS.heap.size:=ad;have bM:N<aS.heap.size:=ad;have b0:=(a3.cell (j:=eX+f.proc.toNat*5+4) dN λh=>h).trans ag.2.2.2.2.2.1;have bj:∀j u,_->aS.cell? ⟨N,co+f.pc.toNat*12+j,none⟩=some u:=λj u bi=>(a3.cell (j:=co+f.pc.toNat*12+j) P λh=>h).trans (ag.2.2.2.2.2.2 j u bi);exact At
 ):p:=h
theorem hv(h:p:=by
 exact AQ
 ):p:=h
end Ca
open Ca in
theorem tR(u:ay)(s:aj)(t:Int)(f:al)(cq:cH)(x:az)(w:World)(p:UV)(q:SV)(h:HY u s t f cq x w p q) :
  Calls prog 16 #[.agg (p.val u),.agg (q.val s),.int .i64 t] w (FL w x):=by
 obtain⟨a1,ht,hp,hx,p0,b3,cg,bc,hu,hs⟩:=h;exact hr
abbrev tg:Array Value:=#[.int .i64 0,.int .i64 0,.bool false,.int .i64 0,.int .i64 0,.string ⟨#[]⟩,.slice none 0 0,.bool false,.int .i64 0,.slice none 0 0,.slice none 0 0,.slice none 0 0]
structure SV.Is(q:SV)(w:World)(P:Nat->Prop)(s:aj):Prop where
 at_:lD w P s q.GA q.gn q.TA q.tn q.HA q.hn
 gc:q.gn<=q.gc
 tc:q.tn<=q.tc
 hc:q.hn<=q.hc
def cR(P:Nat->Prop)(w:World)(s:aj)(b:Bool)(e:Ending)(ab:World):Prop:=∃q:SV,e=.returned (.tuple #[.agg (q.val s),.bool b])/\q.Is ab (λk=>P k\/(w.heap.size<=k/\k<ab.heap.size)) s/\Ext w ab
abbrev mG:Nat->Prop:=λ_=>False
theorem SV.Is.ok{q:SV}{w:World}{s:aj}(h:q.Is w P s)(aZ:∀b,P b->b<w.heap.size):q.Ok w s:=⟨h.at_.mono aZ,h.gc,h.tc,h.hc⟩
theorem SV.Is.mono{q:SV}{w:World}{P c6:Nat->Prop}{s:aj}(h:q.Is w P s)(aZ:∀b,P b->c6 b):q.Is w c6 s:=⟨h.at_.mono aZ,h.gc,h.tc,h.hc⟩
theorem SV.Is.ak{q:SV}{w ab:World}{P:Nat->Prop}{s:aj}(h:q.Is w P s)(ap:∀b,P b->ab.heap[b]?=w.heap[b]?):q.Is ab P s:=⟨⟨h.at_.g.ak ap,h.at_.t.ak ap,h.at_.h.ak ap⟩,h.gc,h.tc,h.hc⟩
theorem qI.sv{w:World}{s:aj}{GA TA HA:Lp}{gn gc tn tc hn hc:Nat}{xs:List Value}{F1 F2 bK bP:List Nat}(h:qI w s GA gn gc TA tn tc HA hn hc xs F1 F2 bK bP)(hl:∀b∈F1++(F2++(bK++bP)),P b):(⟨GA,gn,gc,TA,tn,tc,HA,hn,hc⟩:SV).Is w P s:=
 ⟨h.at_ hl,h.g.cap,h.t.cap,h.h.cap⟩
theorem sN(s:aj)(q:SV)(w:World)(h:q.Ok w s)(a1:Small s):Calls prog 29 #[.agg (q.val s)] w λe ab=>∃ar:SV,e=.returned (.agg (ar.val s))/\ar.Is ab (fresh w ab) s/\Ext w ab:=by
 refine(fH s q.GA q.TA q.HA q.gn q.gc q.tn q.tc q.hn q.hc w h.at_ a1).mono ?_;rintro e ab ⟨GA,gc,TA,tc,HA,hc,xs,F1,F2,bK,bP,rfl,cy,br,aw⟩;exact⟨⟨GA,q.gn,gc,TA,q.tn,tc,HA,q.hn,hc⟩,rfl,cy.sv br,aw⟩
namespace Cb
theorem hv(h:p:=by
 have bo:=ah hs ht;clear hs ht;dsimp only[UV.val,SV.val];go_enter func16,ntmps16;go_upto_region 1 with(fail);generalize ba:World.alloc _ _=W;have aw:=lF ba;have ce:=ir ba;have cA:=jq ba;have ag:=ah aw cA;obtain⟨a8,am,aF⟩:=ce.two;clear ba aw ce cA;go_wp2_with(fail);refine(yq s bR TA HA bV bC tn tc hn hc t W (bo.1.on ag.1).at_ bo.2).mono ?_;rintro e aS ⟨rfl,aN⟩;have f:=ag.2.ai aN;have bu:=ah (ag.1.trans aN) f;clear a8 am aF aN;obtain⟨bl,aA,aO⟩:=f.two;clear f;go_wp2_with(fail);generalize hX:World.setCell _ _ _=Z;obtain⟨bh,a9,bd⟩:=bA (w:=w) [.int .i64 0,.int .i64 0,.bool false,.int .i64 0,.int .i64 0,.string ⟨#[]⟩,.slice none 0 0,.bool false,.int .i64 0,.slice none 0 0,.slice none 0 0,.slice none 0 0] (by rfl) bu.2 bu.1 ad hX;have bf:=ae a9;clear hX a9 bd bl aA aO;obtain⟨bl,aA,aO⟩:=bh.two;refine Lk (v:=.tuple #[.agg tg,.bool false]) (by simp[results,Tryz.results16,go_sem,bl]) rfl ?_;exact⟨rfl,bf.o⟩
 ):p:=h
end Cb
open Cb in
theorem tQ(u:ay)(s:aj)(t:Int)(w:World)(p:UV)(q:SV)(hs:q.Ok w s)(ht:eg s t=none) :
  Calls prog 16 #[.agg (p.val u),.agg (q.val s),.int .i64 t] w λe ab=>e=.returned (.tuple #[.agg tg,.bool false])/\Ext w ab:=by
 exact hr
namespace Cc
theorem hv(h:p:=by
 have bo:=ah hs ht;clear hs ht;dsimp only[UV.val,SV.val];go_enter func17,ntmps17;go_upto_region 1 with(fail);generalize ba:World.alloc _ _=W;have aw:=lF ba;have ce:=ir ba;have cA:=jq ba;have ag:=ah aw cA;obtain⟨a8,am,aF⟩:=ce.two;clear ba aw ce cA;go_wp2_with(fail);refine(yB s bR TA HA bV bC tn tc hn hc t W (bo.1.on ag.1).at_ bo.2).mono ?_;rintro e aS ⟨rfl,aN⟩;have f:=ag.2.ai aN;have bu:=ah (ag.1.trans aN) f;clear a8 am aF aN f;go_upto_region 2 with(fail);generalize hV:World.alloc _ _=V;have bm:=aX hV;have z:=bu.2.ai bm;have cc:=ah (bu.1.trans bm) z;obtain⟨bl,aA,aO⟩:=z.two;clear hV bm z;go_wp2_with(fail);generalize hX:World.setCell _ _ _=Z;obtain⟨bh,a9,bd⟩:=bA (w:=w) [.int .i64 0,.int .i64 0,.bool false,.int .i64 0,.int .i64 0,.string ⟨#[]⟩,.slice none 0 0,.bool false,.int .i64 0,.slice none 0 0,.slice none 0 0,.slice none 0 0] (by rfl) cc.2 cc.1 ad hX;have bf:=ae a9;clear hX a9 bd bl aA aO;obtain⟨bl,aA,aO⟩:=bh.two;refine Lk (v:=.tuple #[.agg tg,.bool false]) (by simp[results,Tryz.results17,go_sem,bl]) rfl ?_;exact⟨rfl,bf.o⟩
 ):p:=h
end Cc
open Cc in
theorem uo(u:ay)(s:aj)(t:Int)(w:World)(p:UV)(q:SV)(hs:q.Ok w s)(ht:eg s t=none) :
  Calls prog 17 #[.agg (p.val u),.agg (q.val s),.int .i64 t] w λe ab=>e=.returned (.tuple #[.agg tg,.bool false])/\Ext w ab:=by
 exact hr
namespace Cd
theorem lJ(h:p:=by
 have ag:=aD aw aR cA;obtain⟨a8,am,aF⟩:=aR.two;clear ba aw aR cA;go_wp2_with(fail);refine(sN s ⟨bR,bV,bC,TA,tn,tc,HA,hn,hc⟩ W (bo.1.on ag.1) bo.2).mono ?_;rintro e aS ⟨⟨aZ,cr,bc,aV,m,L,be,co,a3⟩,rfl,bY,aN⟩;have cE:=ag.2.1.ai aN;have H1:=bL bY (ag.1.trans aN) cE (ag.2.2.ai aN);clear a8 am aF bY aN;obtain⟨a8,am,aF⟩:=cE.two;clear cE;go_upto_region 3 with(fail);generalize hX:World.setCell _ _ _=X;obtain⟨bs,J⟩:=ke 3 [.int .i64 z] (ke 0 [.slice aZ cr bc,.slice aV m L,.slice be co a3,.int .i64 s.fault] H1.2.2.1 rfl).1 hX;have az:Fr (λb=>b=w.heap.size) aS X:=(ke 0 [.slice aZ cr bc,.slice aV m L,.slice be co a3,.int .i64 s.fault] H1.2.2.1 rfl).2.trans J;have bD:aq X w.heap.size 40 #[.slice aZ cr bc,.slice aV m L,.slice be co a3,.int .i64 z]:=by simpa[iZ] using bs
 have bq:=H1.2.2.2.on az ad;have bp:Ext w X:=Fr.low (M:=λb=>b=w.heap.size) (Fr.trans (Fr.mono H1.2.1 λ_ h=>h.elim) az) λb O=>ad;have aQ:=aD bp bq az;clear hX bs J az a8 am aF bp;obtain⟨a8,am,aF⟩:=bD.two;obtain⟨bl,aA,aO⟩:=bq.two;clear bD bq;go_wp2_with(fail);generalize hX:World.setCell _ _ _=Z;obtain⟨bh,a9,bd⟩:=bA (w:=w) [.slice aZ cr bc,.slice aV m L,.slice be co a3,.int .i64 z] (by rfl) aQ.2.1 aQ.1 ad hX;have bf:=ah a9 bd;clear hX a9 bd bl aA aO a8 am aF;obtain⟨bl,aA,aO⟩:=bh.two;refine Lk (v:=.tuple #[.agg #[.slice aZ cr bc,.slice aV m L,.slice be co a3,.int .i64 z],.bool true]) (by simp[results,Tryz.results76,go_sem,bl]) rfl ?_;have ao:=aQ.2.2.size;have cQ:=bf.2.size;have aK:w.heap.size+1<W.heap.size:=ag.2.2.lt;have an:(⟨aZ,cr,bc,aV,m,L,be,co,a3⟩:SV).Is Z (fresh W aS) {s with fault:=z}:=SV.Is.ak (w:=aS) ⟨⟨H1.1.at_.g,H1.1.at_.t,H1.1.at_.h⟩,H1.1.gc,H1.1.tc,H1.1.hc⟩ λb O=>(bf.2.block b (aC O.2) (aC O.1)).trans (aQ.2.2.block b O.2 (aC O.1));exact⟨⟨aZ,cr,bc,aV,m,L,be,co,a3⟩,rfl,an.mono λb O=>.inr ⟨by have:=O.1;omega,by have:=O.2;omega⟩,bf.1⟩
 ):p:=h
end Cd
open Cd in
theorem k0(s:aj)(q:SV)(z:Int)(w:World)(h:q.Ok w s)(a1:Small s):Calls prog 76 #[.agg (q.val s),.int .i64 z] w (cR mG w {s with fault:=z} true):=by
 obtain⟨bR,bV,bC,TA,tn,tc,HA,hn,hc⟩:=q;have bo:=ah h a1;clear h a1;dsimp only[SV.val];go_enter func76,ntmps76;exact lI
namespace Ce
theorem lJ(h:p:=by
 have ag:=aD aw aR cA;obtain⟨a8,am,aF⟩:=aR.two;clear ba aw aR cA;go_upto_region 2 with(fail);generalize hX:World.setCell _ _ _=X;obtain⟨bs,J⟩:=ke 3 [.int .i64 z] ag.2.1 hX;have bD:aq X w.heap.size 40 #[.slice bR bV bC,.slice TA tn tc,.slice HA hn hc,.int .i64 z]:=by simpa[iZ] using bs
 have bq:=ag.2.2.on J ad;have bp:Ext w X:=Fr.low (M:=λb=>b=w.heap.size) (Fr.trans (Fr.mono ag.1 λ_ h=>h.elim) J) λb O=>ad;have aQ:=ah bp bq;clear hX bs J a8 am aF bp;obtain⟨a8,am,aF⟩:=bD.two;obtain⟨bl,aA,aO⟩:=bq.two;clear bD bq;go_wp2_with(fail);generalize hX:World.setCell _ _ _=Z;obtain⟨bh,a9,bd⟩:=bA (w:=w) [.slice bR bV bC,.slice TA tn tc,.slice HA hn hc,.int .i64 z] (by rfl) aQ.2 aQ.1 ad hX;have bf:=ae a9;clear hX a9 bd bl aA aO a8 am aF;obtain⟨bl,aA,aO⟩:=bh.two;refine Lk (v:=.tuple #[.agg #[.slice bR bV bC,.slice TA tn tc,.slice HA hn hc,.int .i64 z],.bool true]) (by simp[results,Tryz.results36,go_sem,bl]) rfl ?_;have bn:=bo.1.ak (ab:=Z) λb O=>bf.block b (bo.2 b O) λh=>h;exact⟨⟨bR,bV,bC,TA,tn,tc,HA,hn,hc⟩,rfl,SV.Is.mono ⟨⟨bn.at_.g,bn.at_.t,bn.at_.h⟩,bn.gc,bn.tc,bn.hc⟩ λb O=>.inl O,bf.o⟩
 ):p:=h
end Ce
open Ce in
theorem oQ(P:Nat->Prop)(s:aj)(q:SV)(z:Int)(w:World)(h:q.Is w P s)(aZ:∀b,P b->b<w.heap.size):Calls prog 36 #[.agg (q.val s),.int .i64 z] w (cR P w {s with fault:=z} true):=by
 obtain⟨bR,bV,bC,TA,tn,tc,HA,hn,hc⟩:=q;have bo:=ah h aZ;clear h aZ;dsimp only[SV.val];go_enter func36,ntmps36;exact lI
theorem Iv(o c:Value)(O hn hc ch n fc:Nat)(t:Int)(w:World)(h0:0<=t)(ak:t<hn)(dm:O<w.heap.size)(a4:w.cell? ⟨O,t.toNat,none⟩=some (.slice (some ⟨ch,0,none⟩) (n+1) fc))(ap:n<=1000000) :
  Calls prog 33 #[.agg #[o,c,.slice (some ⟨O,0,none⟩) hn hc,.int .i64 0],.int .i64 t] w λe ab=>e=.returned (.pointer (some ⟨ch,n*4,none⟩))/\Ext w ab:=by
 have:=xB o c O 0 hn hc ch 0 n fc t w h0 ak dm (by rw[KV];exact a4) ap
 rwa [KV] at this
theorem dZ{s:aj}{a6:al}(h:s.threads[t.toNat]?=some (fs++[f])):bs s t a6={s with threads:=s.threads.set t.toNat (fs++[a6])}:=by
 unfold bs;rw[k1 h,ks]
theorem sy{w:World}{ah j:Nat}{v:Value}(h:g≠ah\/i≠j):(w.setCell ⟨g,i,none⟩ v).cell? ⟨ah,j,none⟩=w.cell? ⟨ah,j,none⟩:=by
 apply World.cell?_setCell_other
 intro he;injection he with ac au;omega
structure dy(B:Nat)(w:World)(s:aj)(N:Nat)(q:SV)(xs:List Value)(F1 F2 bK bP:List Nat):Prop where
 st:qI w s q.GA q.gn q.gc q.TA q.tn q.tc q.HA q.hn q.hc xs F1 F2 bK bP
 o:aq w N 40 (q.val s)
 ne:N∉F1++(F2++(bK++bP))
 lo:∀b∈F1++(F2++(bK++bP)),B<=b/\b<w.heap.size
 go:B<=N
section
variable {B:Nat} {w ab:World} {s:aj} {N:Nat} {q:SV} {xs:List Value} {F1 F2 bK bP:List Nat}
theorem dy.ai(h:dy B w s N q xs F1 F2 bK bP)(he:Ext w ab):dy B ab s N q xs F1 F2 bK bP:=
 ⟨h.st.ak λb O=>he.block b (h.lo b O).2 λh=>h,h.o.ai he,h.ne,λb O=>⟨(h.lo b O).1,KE (h.lo b O).2 he.size⟩,h.go⟩
theorem dy.c8{M:Nat->Prop}(h:dy B w s N q xs F1 F2 bK bP)(he:Fr M w ab)(hM:∀b,M b->b<B):dy B ab s N q xs F1 F2 bK bP:=
 ⟨h.st.ak λb O=>he.block b (h.lo b O).2 λhm=>by have:=hM b hm;have:=(h.lo b O).1;omega,h.o.on he (λhm=>by have:=hM N hm;have:=h.go;omega),h.ne,λb O=>⟨(h.lo b O).1,KE (h.lo b O).2 he.size⟩,h.go⟩
theorem dy.store(h:dy B w s N q xs F1 F2 bK bP){Q:aj}{p:Addr}{u:Value}(hp:p.block∈F1++(F2++(bK++bP)))(cy:qI (w.setCell p u) Q q.GA q.gn q.gc q.TA q.tn q.tc q.HA q.hn q.hc xs F1 F2 bK bP)(J:Q.fault=s.fault):dy B (w.setCell p u) Q N q xs F1 F2 bK bP:=by
 refine⟨cy,?_,h.ne,λb O=>⟨(h.lo b O).1,by simpa[World.setCell] using (h.lo b O).2⟩,h.go⟩;have:=h.o.I6 (p:=p) (λhe=>h.ne (he▸hp)) u;unfold SV.val at this ⊢
 rwa [J]
theorem dy.ok(h:dy B w s N q xs F1 F2 bK bP):q.Is w (λb=>B<=b/\b<w.heap.size) s:=(show (⟨q.GA,q.gn,q.gc,q.TA,q.tn,q.tc,q.HA,q.hn,q.hc⟩:SV).Is w _ s from h.st.sv h.lo)
structure rY(B:Nat)(w:World)(s:aj)(N:Nat)(q:SV)(xs:List Value)(F1 F2 bK bP:List Nat)(t:Int)(fs:List al)(f:al)(ch:Nat)(IA:Lp)(i ic:Nat)(S:Lp)(l lc:Nat):Prop where
 oz:dy B w s N q xs F1 F2 bK bP
 lt:ch<w.heap.size
 c0:w.cell? ⟨ch,fs.length*4,none⟩=some (.int .i64 f.proc)
 c1:w.cell? ⟨ch,fs.length*4+1,none⟩=some (.int .i64 f.pc)
 c2:w.cell? ⟨ch,fs.length*4+2,none⟩=some (.slice IA i ic)
 c3:w.cell? ⟨ch,fs.length*4+3,none⟩=some (.slice S l lc)
 fz:∀j,w.frozen? ⟨ch,j,none⟩=false
 ne:ch≠N
 ge:B<=ch
 hd:∃O fc,q.HA=some ⟨O,0,none⟩/\t.toNat<q.hn/\O<w.heap.size/\O≠ch/\O≠N/\B<=O/\(∀j,w.frozen? ⟨O,j,none⟩=false)/\w.cell? ⟨O,t.toNat,none⟩=some (.slice (some ⟨ch,0,none⟩) (fs.length+1) fc)/\fs.length+1<=fc
 pc:∀v,dy B (w.setCell ⟨ch,fs.length*4+1,none⟩ (.int .i64 v)) {s with threads:=s.threads.set t.toNat (fs++[{f with pc:=v}])} N q xs F1 F2 bK bP
 ints:∀j v,j<i->∃I,IA=some ⟨I,0,none⟩/\I<w.heap.size/\w.frozen? ⟨I,j,none⟩=false/\(∃u,w.cell? ⟨I,j,none⟩=some u)/\I≠N/\B<=I/\dy B (w.setCell ⟨I,j,none⟩ (.int .i64 v)) {s with threads:=s.threads.set t.toNat (fs++[{f with ints:=f.ints.set j v}])} N q xs F1 F2 bK bP
theorem dy.GL(bn:dy B w s N q xs F1 F2 bK bP)(bv:s.threads[t.toNat]?=some (fs++[f])){O ch fc:Nat}(mB:q.HA=some ⟨O,0,none⟩)
  (hc:w.cell? ⟨O,t.toNat,none⟩=some (.slice (some ⟨ch,0,none⟩) (fs.length+1) fc)) (c2:w.cell? ⟨ch,fs.length*4+2,none⟩=some (.slice IA i ic)) (c3:w.cell? ⟨ch,fs.length*4+3,none⟩=some (.slice S l lc)) :
  rY B w s N q xs F1 F2 bK bP t fs f ch IA i ic S l lc:=by
 have bo:∀b,b∈bP->b∈F1++(F2++(bK++bP)):=λb O=>by simp[O]
 have cM:∀b,b∈bK->b∈F1++(F2++(bK++bP)):=λb O=>by simp[O]
 obtain⟨aV,bt,co,F,o,cp,bZ,aO,cK,d,m,cE,k,aR,a,r,aB,a3,g,d0,d1,d2,d3,h,e,n,c,_⟩:=bn.st.top bv;have e1:=mB.symm.trans d;injection e1 with e1;injection e1 with e1 _;subst e1;have e2:=hc.symm.trans a3;injection e2 with e2;injection e2 with e2 _ e3;injection e2 with e2;injection e2 with e2 _;subst e2 e3;have b0:=c2.symm.trans d2;injection b0 with b0;injection b0 with b0 ct a7;subst b0 ct a7;have e7:=c3.symm.trans d3;injection e7 with e7;injection e7 with e7 e8 e9;subst e7 e8 e9;refine⟨bn,k,d0,d1,d2,d3,e,λhe=>bn.ne (he▸bo _ a),(bn.lo _ (bo _ a)).1,⟨O,fc,d,m,cE,?_,λhe=>bn.ne (he▸cM _ aR),(bn.lo _ (cM _ aR)).1,h,a3,g⟩,λv=>bn.store (bo _ a) (n v) rfl,λj v bi=>?_⟩
 .intro he;subst he;have nd:=bn.st.nd;have n1:=(List.nodup_append.1 nd).2.1;have n2:=(List.nodup_append.1 n1).2.1;exact(List.nodup_append.1 n2).2.2 O aR O a rfl
 .obtain⟨I,dl,cg,dI,T,aN,cy⟩:=c j v bi;exact⟨I,dl,cg,T,aN,λhe=>bn.ne (he▸bo _ dI),(bn.lo _ (bo _ dI)).1,bn.store (bo _ dI) cy rfl⟩
theorem dy.top(h:dy B w s N q xs F1 F2 bK bP){t:Int}{fs:List al}{f:al}(bv:s.threads[t.toNat]?=some (fs++[f]))(h0:0<=t)(ao:s.fault=0)(ap:fs.length<=1000000) :
  ∃ch IA i ic S l lc,i=f.ints.length/\l=f.au.length/\
   (∀ab,Ext w ab->Calls prog 33 #[.agg (q.val s),.int .i64 t] ab λe j=>e=.returned (.pointer (some ⟨ch,fs.length*4,none⟩))/\Ext ab j)/\
   ∀ab,Ext w ab->rY B ab s N q xs F1 F2 bK bP t fs f ch IA i ic S l lc:=by
 obtain⟨O,ch,fc,IA,i,ic,S,l,lc,mB,cm,T,cd,co,bu,an,hl,hc,aB,c0,c1,c2,c3,ag,a,dc,hints,_⟩:=h.st.top bv;refine⟨ch,IA,i,ic,S,l,lc,an,hl,λab he=>?_,λab he=>?_⟩
 .have:=Iv (.slice q.GA q.gn q.gc) (.slice q.TA q.tn q.tc) O q.hn q.hc ch fs.length fc t ab h0 ad (KE T he.size) ((he.cell T λh=>h).trans hc) ap;unfold SV.val;rw[mB,ao];exact this
 .exact(h.ai he).GL bv mB ((he.cell T λh=>h).trans hc) ((he.cell cd λh=>h).trans c2) ((he.cell cd λh=>h).trans c3)
theorem rY.IP{ch:Nat}(h:rY B w s N q xs F1 F2 bK bP t fs f ch IA i ic S l lc)(bv:s.threads[t.toNat]?=some (fs++[f]))(v:Int):
  rY B (w.setCell ⟨ch,fs.length*4+1,none⟩ (.int .i64 v)) {s with threads:=s.threads.set t.toNat (fs++[{f with pc:=v}])} N q xs F1 F2 bK bP t fs {f with pc:=v} ch IA i ic S l lc:=by
 obtain⟨O,fc,mB,_,T,be,_,_,_,hc,_⟩:=h.hd;have ak:=(List.getElem?_eq_some_iff.1 bv).1;exact(h.pc v).GL (by simp[ak]) mB ((sy (.inl (Ne.symm be))).trans hc) ((sy (.inr ad)).trans h.c2) ((sy (.inr ad)).trans h.c3)
theorem dy.dg(h:dy B w s N q xs F1 F2 bK bP){j:Nat}(bi:j<q.gn):∃bZ,q.GA=some ⟨bZ,0,none⟩/\bZ<w.heap.size/\w.frozen? ⟨bZ,j,none⟩=false/\(∃u,w.cell? ⟨bZ,j,none⟩=some u)/\bZ≠N/\B<=bZ/\
  ∀v,dy B (w.setCell ⟨bZ,j,none⟩ (.int .i64 v)) {s with globals:=s.globals.set j v} N q xs F1 F2 bK bP:=by
 obtain⟨bZ,hG,hl,J,hc,hm,cy⟩:=h.st.dg bi;have da:bZ∈F1++(F2++(bK++bP)):=by simp[hm]
 exact⟨bZ,hG,hl,J,hc,λhe=>h.ne (he▸da),(h.lo _ da).1,λv=>h.store da (cy v) rfl⟩
end
end Go.Proofs.YtglbpimocmhojaaGreat

/- Part 14 of the proof. No condition of its own. -/
import Derived.Test.YtajlmkkidmjgoaaGreatDoorQ12
namespace Go.Proofs.YtajlmkkidmjgoaaGreatDoor
open Go.RowKit Go.Proofs.Tryz
set_option maxRecDepth 1000000
set_option maxHeartbeats 25600000
set_option linter.unusedVariables false
variable{nl t:Int}{fc hn l lc n tn:Nat}{HA TA bo:IP}{rest:PT}{p:Prop}
theorem Ee:b2 prog 75 139 (.agg #[.int .i64 0,.int .i64 0,.slice none 0 0,.slice none 0 0]) 4 64:=b2.mk' Tryz.underlying75 (by kernel_rfl) rfl ad
theorem AH:b2 prog 43 77 (.agg #[.slice none 0 0]) 1 24:=b2.mk' Tryz.underlying43 (by kernel_rfl) rfl ad
theorem Own.aj{w ab:World}{e:TypeId}{z c:Nat}{A:IP}{xs:List Value}{F:List Nat}(h:Own w e z A n c xs F)(he:Ext w ab):Own ab e z A n c xs F:=h.al λb O=>he.block b (h.lt b O) λh=>h
abbrev Gj(W:World)(s:ah)(gn tn:Nat)(G:Nat)(a4:IP)(aW:Nat)(aX:IP)(S:Nat)(V:World):Prop:=Ext W V/\an V G 45 #[.slice none 0 0,.slice none 0 0,.slice none 0 0,.int .i64 0]/\W.heap.size<=G/\Own V 3 1 a4 gn aW (s.globals.map dK) (bt a4 gn aW)/\Own V 137 2 aX tn S (s.table.flatMap ca) (bt aX tn S)/\(∀b∈bt a4 gn aW,W.heap.size<=b/\b≠G)/\(∀b∈bt aX tn S,W.heap.size<=b/\b≠G/\b∉bt a4 gn aW)
structure Ev(aT wr:World)(fs:List ao)(j:Nat)(FA:IP)(fc:Nat)(cA:List Value)(fZ bE:List Nat):Prop where
 ext:Ext aT wr
 o:Own wr 139 4 FA j fc cA fZ
 f:jN oh wr (fs.take j) cA bE
 nd:(fZ++bE).Nodup
 lo:∀b∈fZ++bE,aT.heap.size<=b/\b<wr.heap.size
theorem Ev.aj{aT wr ab:World}{fs:List ao}{j:Nat}{FA:IP}{fc:Nat}{cA:List Value}{fZ bE:List Nat}(h:Ev aT wr fs j FA fc cA fZ bE)(he:Ext wr ab):Ev aT ab fs j FA fc cA fZ bE:=
 ⟨h.ext.trans he,h.o.aj he,h.f.al oh.al λb O=>he.block b (h.lo b (by simp[O])).2 λh=>h,h.nd,λb O=>⟨(h.lo b O).1,Hy (h.lo b O).2 he.size⟩⟩
theorem Ev.step{aT wr:World}{fs:List ao}{j:Nat}{FA:IP}{cA:List Value}{fZ bE:List Nat}(h:Ev aT wr fs j FA fc cA fZ bE){f:ao}(bp:fs[j]?=some f){a b c:World}{IA:IP}{i ic:Nat}
  (ar:Ext wr a) (hI:Own a 3 1 IA i ic (f.ints.map dK) (bt IA i ic)) (g:∀x∈bt IA i ic,wr.heap.size<=x/\x<a.heap.size) (ak:i=f.ints.length)
  (bx:Ext a b) (br:Own b 3 1 bo l lc (f.aw.map dK) (bt bo l lc)) (aE:∀x∈bt bo l lc,a.heap.size<=x/\x<b.heap.size) (hl:l=f.aw.length)
  {cW:IP} {cI:Nat} (bu:Own c 139 4 cW (j+1) cI (cA++[.int .i64 f.proc,.int .i64 f.pc,.slice IA i ic,.slice bo l lc]) (bt cW (j+1) cI)) (aA:Fr (λx=>x∈fZ) b c) (d:∀x∈bt cW (j+1) cI,x∈fZ\/(b.heap.size<=x/\x<c.heap.size)) :
  Ev aT c fs (j+1) cW cI (cA++[.int .i64 f.proc,.int .i64 f.pc,.slice IA i ic,.slice bo l lc]) (bt cW (j+1) cI) (bE++(bt IA i ic++bt bo l lc)):=by
 have am:=h.ext.size;have s1:=ar.size;have s2:=bx.size;have bl:=aA.size;have O:=(h.aj ar).aj bx;have bq:∀x∈fZ,x<wr.heap.size:=λx hx=>(h.lo x (by simp[hx])).2;have aZ:∀x∈bE,x∉fZ:=λx hx ac=>(List.nodup_append.1 h.nd).2.2 x ac x hx rfl;have a1:oh c f [.int .i64 f.proc,.int .i64 f.pc,.slice IA i ic,.slice bo l lc] (bt IA i ic++bt bo l lc):=
  ⟨IA,i,ic,bo,l,lc,_,_,rfl,rfl,ak,hl,(hI.aj bx).al λx hx=>aA.block x (aC (g x hx)) λac=>by have:=g x hx;have:=bq x ac;omega,br.al λx hx=>aA.block x (aE x hx).2 λac=>by have:=aE x hx;have:=bq x ac;omega⟩
 refine⟨Fr.low (M:=λx=>x∈fZ) (Fr.trans (Fr.mono O.ext λ_ h=>h.elim) aA) λx hx=>(h.lo x (by simp[hx])).1,bu,?_,?_,λx hx=>?_⟩
 .rw[a0 bp];exact(O.f.al oh.al λx hx=>aA.block x (by have:=(h.lo x (by simp[hx])).2;omega) (aZ x hx)).snoc a1
 .refine wm (a:=wr.heap.size) (b:=b.heap.size) h.nd (λx hx=>(h.lo x hx).2) (E0 (m:=a.heap.size) (gx _ _ _) (gx _ _ _) (λx hx=>(g x hx).2) λx hx=>(aE x hx).1) (λx hx=>?_) (gx _ _ _) (λx hx=>(d x hx).imp id λh=>h.1) ad;rcases Ii.1 hx with hx|hx
  .have:=g x hx;omega
  .have:=aE x hx;omega
 .simp only[Ii] at hx;rcases hx with hx|hx|hx|hx
  .rcases d x hx with ac|ac
   .have:=h.lo x (by simp[ac]);omega
   .omega
  .have:=h.lo x (by simp[hx]);omega
  .have:=g x hx;omega
  .have:=aE x hx;omega
section
variable {P:Program} {ops:Array Oper} {Q:Exit->Act->World->Prop} {R:World->World->Prop} {tails:List Nat}
theorem vi{α β γ δ ε:Type}{aa:α->β->γ->δ->ε->Act}{C:α->β->γ->δ->ε->World->Prop}{G:Prop}(h:(∀x y z u v V,C x y z u v V->di P ops Q R tails rest (aa x y z u v) V)->G)(key:∀x y z u v V,C x y z u v V->di P ops Q R tails rest (aa x y z u v) V):G:=h key
end
theorem E8{P:Program}{ops:Array Oper}{Q:Exit->Act->World->Prop}{R:World->World->Prop}{tails:List Nat}{a:Act}{W:World}(C:World->Prop)(hC:C W)(h:∀V,C V->di P ops Q R tails rest a V):di P ops Q R tails rest a W:=h W hC
def Fv(w:World)(s:ah)(gn tn hn:Nat)(e:Ending)(ab:World):Prop:=∃GA gc TA tc HA hc xs aq ar bN bR,e=.returned (.agg #[.slice GA gn gc,.slice TA tn tc,.slice HA hn hc,.int .i64 s.fault])/\pP ab s GA gn gc TA tn tc HA hn hc xs aq ar bN bR/\(∀b∈aq++(ar++(bN++bR)),w.heap.size<=b/\b<ab.heap.size)/\Ext w ab
namespace zZ
theorem gj(h:p:=by
 refine cr ?_;generalize hX:World.setCell _ _ _=X;obtain⟨bQ,bW,bh⟩:=cO (w:=W) [.slice a4 gn aW,.slice aX tn S,.slice none 0 0,.int .i64 s.fault] (by rfl) cV bg aH hX;have a3:=ao.lt;have bb:=n.lt;have z:DA W.heap.size X s a4 gn aW aX tn S G 0 none 0 [] [] []:=by
  refine⟨⟨b2.1,b2.2.1,rfl,ao.al λb O=>bh.block b (a3 b O) (ak b O).2,n.al λb O=>bh.block b (bb b O) (J b O).2.1,⟨World.ownsRow_nil _ _ _ _,rfl⟩,⟨rfl,rfl⟩,?_⟩,bQ,?_,λb O=>?_,aH⟩
  .simp only[IB];exact List.nodup_append.2 ⟨gx _ _ _,gx _ _ _,λa I b O ax=>(J b O).2.2 (ax▸I)⟩
  .simp only[IB,Ii];rintro(O|O)
   .exact(ak _ O).2 rfl
   .exact(J _ O).2.1 rfl
  .simp only[IB,Ii] at O;have:=bh.size;rcases O with O|O
   .exact⟨(ak b O).1,by have:=a3 b O;omega⟩
   .exact⟨(J b O).1,by have:=bb b O;omega⟩
 obtain⟨aI,aj,af⟩:=(ay.2.1.aj bW).two;have aV:=ai z bW;clear d0 aP aQ hX bQ bW bh a3 bb z bg cV ao n ak J;go_wp2_with(fail);clear aI aj af;go_loopw [21] (λci wr=>∃(k:Nat) (bc:IP) (aZ:Nat) (xs:List Value) (bN bR:List Nat),ci=.int .i64 k/\k<=hn/\DA W.heap.size wr s a4 gn aW aX tn S G k bc aZ xs bN bR/\Ext W wr) (λci _=>hn - (intOf ci).toNat)
 case atStart=>exact⟨0,none,0,[],[],[],rfl,ad,aV.1,aV.2⟩
 case round=>
  obtain⟨k,bc,aZ,xs,bN,bR,rfl,ap,hC,e⟩:=hrel;obtain⟨T,rfl⟩:∃T,T=wr:=⟨wr,rfl⟩
  clear aV;have bP:=ai hC e;have cg:G<T.heap.size:=hC.o.lt;by_cases al:k<hn
  .obtain⟨b,o,fs,bI,m,c0,rfl,O,bp,bJ,hm,bZ⟩:=(ay.2.2.2.on e).h.te al;have cb:b<T.heap.size:=O;have ck:m=fs.length:=by have:=bZ.1;simpa using this.symm
   have be:=br.f fs (Ia bp);have cd:m<=1000000:=by have:=be.1;omega
   have bV:=bF bp bZ ck be.2;clear hC e O bp bZ ck be;go_upto_region 6 with(fail);generalize hV:World.alloc _ _=V;have bg:=bm hV;have bK:=aU hV;have ce:=ai bg (bV.2.1.on (Fr.ext bg));obtain⟨d0,aP,aQ⟩:=bK.two;clear hV bg bK bJ;go_wp2_with(fail);clear d0 aP aQ;go_loopw [6,28] (λct a6 wr=>∃(j:Nat) (FA:IP) (fc:Nat) (cA:List Value) (fZ bE:List Nat),ct=.slice FA j fc/\a6=.int .i64 j/\j<=m/\Ev V wr fs j FA fc cA fZ bE) (λ_ a6 _=>m - (intOf a6).toNat)
   case atStart=>exact⟨0,none,0,[],[],[],rfl,rfl,ad,IK,⟨World.ownsRow_nil _ _ _ _,rfl⟩,⟨rfl,rfl⟩,by simp,λb O=>by simp at O⟩
   case round=>
    obtain⟨j,FA,fc,cA,fZ,bE,rfl,rfl,a1,hI⟩:=hrel;have c6:=ae hI;by_cases du:j<m
    .obtain⟨b3,cU,f,IA,i,ic,bo,l,lc,rfl,cw,u,c0,c1,c2,c3,Z,a2,aE,b7⟩:=(ce.2.on (Fr.ext hI.ext)).wc du;have bB:b3<wr.heap.size:=cw;have cc:i=f.ints.length:=by have:=aE.1;simpa using this.symm
     have bz:l=f.aw.length:=by have:=b7.1;simpa using this.symm
     have bu:=bV.2.2.2 f (Ia u);have b6:i<=100000:=ad;have aM:l<=100000:=ad;have bG:=aL u cc bz;have aY:=ai aE b7;clear hI cw u cc bz bu aE b7 Z a2;go_upto_region 9 with(fail);generalize hU:World.alloc _ _=U;have ab:=bm hU;have aR:=aU hU;have bv:=aL (c6.aj ab) (aY.1.on (Fr.ext ab)) (aY.2.on (Fr.ext ab));obtain⟨d0,aP,aQ⟩:=aR.two;clear hU ab aR c0 c1 c2 c3 aY;refine eB (λ_=>False) [(0,3),(1,3),(2,0),(3,3),(4,0),(5,3),(6,0),(8,3),(9,0),(7,1),(10,1),(11,3),(12,2),(13,2),(14,3)] ?_
     iterate 2 refine pf ?_
     refine ph ?_;refine pf ?_;refine ph ?_;refine pf ?_;refine ph ?_;refine pf ?_;refine ph ?_;refine aD rfl (λK hK=>?_);go_simp;refine(Sl.lu (Sl.on bv.2.1 (Fr.ext (Fr.refl _ U).drew)) ad).mono ?_;rintro r aO ⟨E,F,rfl,g,N,ar⟩;have H1:=aL g N ar;refine dA hK (ar) ?_;clear hK K;clear g N ar;refine aD rfl (λK hK=>?_);go_simp;refine(Sl.lu (Sl.on bv.2.2 (Fr.ext (Fr.aJ H1.2.2))) ad).mono ?_;rintro r aT ⟨bw,ch,rfl,b5,az,bx⟩;have bi:=aL b5 az bx;refine dA hK (bx) ?_;clear hK K;clear b5 az bx;have aJ:=((bv.1.o.aj (Fr.aJ H1.2.2)).aj bi.2.2)
     refine pf ?_;refine au rfl (λK hK=>?_);go_simp;refine dW hK ?_;clear hK K;refine au rfl (λK hK=>?_);rw[if_pos (by rfl)];refine wL Ee (.tmp 32) (.tmp 44) rfl aJ (cs:=#[.int .i64 f.proc,.int .i64 f.pc,.slice E i F,.slice bw l ch]) rfl rfl rfl (by simp[Value.oneCell']) ad ad ?_;intro cW cI b4 b0 g2 cB;refine dW hK ?_;clear hK K;refine pf ?_;refine aB ?_;have a8:=ae (bv.1.step bG.1 (Fr.aJ H1.2.2) H1.1 (λx hx=>H1.2.1 x hx) bG.2.1 bi.2.2 bi.1 bi.2.1 bG.2.2 b0 g2 cB);clear b0 g2 cB aJ d0 aP aQ;go_wp2_with(fail);go_roundw
     case rel=>exact⟨j+1,cW,cI,_,_,_,rfl,by go_num,ad,a8.o⟩
     case measure=>exact aF
    .obtain rfl:j=m:=ad;have y:Ext T wr:=ce.1.trans hI.ext;have L:=ae (bP.1.aj y);have bf:=ae y;obtain⟨d0,aP,aQ⟩:=L.o.o.two;have bd:=L.st.h;have f1:G∉bN:=λh=>L.ne (by simp[h]);clear hI y;go_wp2_with(at_builtin;refine nI AH rfl (.tmp 48) (.tmp 51) rfl bd (cs:=#[.slice FA j fc]) rfl rfl rfl (by simp[Value.oneCell']) ad ad ?_;intro cP cf b4 b0 g2 cB;have bO:=L.o.o.on g2 f1;have cH:=bF b0 g2 cB bO;clear b0 g2 cB d0 aP aQ;obtain⟨e0,bn,a0⟩:=bO.two;clear bO);go_roundw
     case rel=>
      have aS:=c6.f;rw[Ih (aC bV.2.2.1)] at aS;have bq:=c6.lo;have cG:=ce.1.size;exact⟨k+1,cP,cf,_,_,_,by go_num,ad,bP.1.step bV.1 bf.o c6.o.o aS bV.2.2.1 c6.nd (λb O=>⟨by have:=bq b O;omega,(bq b O).2⟩) cH.1 cH.2.1 cH.2.2.1 rfl,
       Fr.low (M:=λb=>b∈bN\/b=G) (Fr.trans (Fr.mono (bP.2.trans bf.o) λ_ h=>h.elim) (Fr.setCell (Fr.mono cH.2.1 λ_ h=>.inl h) (.inl (.inr rfl)) _)) λb O=>by
        rcases O with O|O
        .exact(bP.1.lo b (by simp[O])).1
        .rw[O];exact bP.1.go⟩
     case measure=>exact aF
  .obtain rfl:k=hn:=ad;obtain⟨d0,aP,aQ⟩:=hC.o.two;have bC:=ay.2.2.1.aj e;obtain⟨bD,aK,a9⟩:=bC.two;have ag:=ay.1.trans e;have a7:=ai bC ag;clear hC e bC ag;go_wp2_with(fail);generalize ca:World.setCell _ _ _=Y;obtain⟨bk,bt,bj⟩:=cO (w:=w) [.slice a4 gn aW,.slice aX tn S,.slice bc k aZ,.int .i64 s.fault] (by rfl) a7.1 a7.2 ad ca;have bY:=ai bt bj;clear ca bt bj d0 aP aQ bD aK a9;obtain⟨bD,aK,a9⟩:=bk.two;refine IJ (v:=.agg #[.slice a4 gn aW,.slice aX tn S,.slice bc k aZ,.int .i64 s.fault]) (by simp[results,Tryz.results70,go_sem,bD]) rfl ?_;have b1:=bP.1.st;rw[Ih (aC b2.2.2)] at b1;have bq:=bP.1.lo;have cE:=bs.o;refine⟨a4,aW,aX,S,bc,aZ,xs,_,_,bN,bR,rfl,b1.al λb O=>bY.2.block b (bq b O).2 (aC (bq b O)),λb O=>?_,bY.1⟩;have:=bq b O;have:=bY.2.size;omega
 ):p:=h
end zZ
open zZ in
theorem fj(s:ah)(GA TA HA:IP)(gn gc tn tc hn hc:Nat)(w:World)(h:k9 w (av w) s GA gn TA tn HA hn)(H:Small s) :
  Calls prog 70 #[.agg #[.slice GA gn gc,.slice TA tn tc,.slice HA hn hc,.int .i64 s.fault]] w (Fv w s gn tn hn):=by
 have bT:gn=s.globals.length:=by have:=h.g.1;simpa using this.symm
 have aA:tn=s.table.length:=by have:=h.t.1;simpa using this.symm
 have c9:hn=s.threads.length:=by have:=h.h.1;simpa using this.symm
 have dq:gn<=100000:=by have:=H.g;omega
 have cj:tn<=5000:=by have:=H.t;omega
 have dm:hn<=1000:=by have:=H.h;omega
 have b2:=aL bT aA c9;obtain⟨br,bH⟩:=aN H h;clear h H bT aA c9;go_enter func70,ntmps70;go_upto_region 1 with(fail);generalize ba:World.alloc _ _=W;have aw:=hJ ba;have co:=fA ba;have bU:=fB ba;have cE:W.heap.size=w.heap.size+2:=by rw[<-ba];simp
 have ay:=bF aw co bU (bH.on aw);obtain⟨aI,aj,af⟩:=co.two;have bs:=ae cE;clear ba aw co bU cE;refine sU (λ_=>False) [10] (.free 0 (.held 1 (.free 3 (.held 4 (.free 6 (.held 7 (.pick [2,9] (λi=>bif i == 2 then .pick [5,9] (λi=>bif i == 5 then .free 8 (.pick [9] (λ_=>.pick [10] (λ_=>.stop))) else .pick [5] (λ_=>.free 8 (.pick [10] (λ_=>.stop)))) else .pick [2] (λ_=>.pick [5] (λ_=>.free 8 (.pick [10] (λ_=>.stop)))))))))))) ?_;refine tf ?_;refine th ?_;refine tf ?_;refine th ?_;refine tf ?_;refine th ?_;refine vi (P:=?P1) (ops:=?o1) (Q:=?q1) (R:=?r1) (tails:=?t1) (rest:=.pick [10] (λ_=>.stop)) (aa:=?aa) (C:=Gj W s gn tn) (λkey=>?main) ?key
 case main=>
  refine a5 ?_ ?_
  ·
   refine aG rfl (λK hK=>?_) rfl;go_simp;refine(Sl.lu (ay.2.2.2.on (Fr.refl _ W).drew).g ad).mono ?_;rintro r aO ⟨a4,aW,rfl,g,N,ar⟩;have s1:=ar.size;have q1:W.drew.heap.size=W.heap.size:=rfl;refine dA hK (ar) ?_;clear hK K;refine a5 ?_ ?_
   ·
    refine aG rfl (λK hK=>?_) rfl;go_simp;refine(Sl.tX (ay.2.2.2.on (Fr.aJ ar)).t ad).mono ?_;rintro r aT ⟨aX,S,rfl,b5,az,bx⟩;have s2:=bx.size;refine dA hK (bx) ?_;clear hK K;refine tf ?_;refine aq ?_;refine dS ?_;have hC:Gj W s gn tn (aT.heap.size) a4 aW aX S (aT.alloc (.cells #[.slice none 0 0,.slice none 0 0,.slice none 0 0,.int .i64 0] 45)):=by
     refine⟨((Fr.aJ ar).trans bx).alloc _,IL,ad,(g.aj bx).aj (IK.alloc _),b5.aj (IK.alloc _),λb O=>?_,λb O=>⟨?_,?_,λac=>?_⟩⟩
     .have:=N b O;omega
     .have:=az b O;omega
     .have:=az b O;omega
     .have:=az b O;have:=N b ac;omega
    generalize aT.heap.size=c5 at hC ⊢;exact key c5 a4 aW aX S _ hC
   ·
    refine dS ?_;refine E8 (λV=>Ext aO V/\an V aO.heap.size 45 #[.slice none 0 0,.slice none 0 0,.slice none 0 0,.int .i64 0]/\aO.heap.size<V.heap.size) ⟨IK.alloc _,IL,(IL).lt⟩ (λV hV=>?_);refine aq ?_;refine aG rfl (λK hK=>?_) rfl;go_simp;refine(Sl.tX ((ay.2.2.2.on (Fr.aJ ar)).on hV.1).t ad).mono ?_;rintro r aT ⟨aX,S,rfl,b5,az,bx⟩;have s2:=bx.size;have bl:=hV.1.size;refine dA hK (bx) ?_;clear hK K;refine tf ?_;have hC:Gj W s gn tn (aO.heap.size) a4 aW aX S aT:=by
     refine⟨((Fr.aJ ar).trans hV.1).trans bx,hV.2.1.aj bx,ad,(g.aj hV.1).aj bx,b5,λb O=>?_,λb O=>⟨?_,?_,λac=>?_⟩⟩
     .have:=N b O;omega
     .have:=az b O;omega
     .have:=az b O;have:=hV.2.2;omega
     .have:=az b O;have:=N b ac;omega
    generalize aO.heap.size=c5 at hC ⊢;exact key c5 a4 aW aX S _ hC
  ·
   refine dS ?_;refine E8 (λV=>Ext W V/\an V W.heap.size 45 #[.slice none 0 0,.slice none 0 0,.slice none 0 0,.int .i64 0]/\W.heap.size<V.heap.size) ⟨(IK.drew).alloc _,an.new W.drew _ _,(an.new W.drew _ _).lt⟩ (λV hV=>?_);refine aq ?_;refine aG rfl (λK hK=>?_) rfl;go_simp;refine(Sl.lu (ay.2.2.2.on hV.1).g ad).mono ?_;rintro r aO ⟨a4,aW,rfl,g,N,ar⟩;have s1:=ar.size;have am:=hV.1.size;refine dA hK (ar) ?_;clear hK K;refine aq ?_;refine aG rfl (λK hK=>?_) rfl;go_simp;refine(Sl.tX ((ay.2.2.2.on hV.1).on ar).t ad).mono ?_;rintro r aT ⟨aX,S,rfl,b5,az,bx⟩;have s2:=bx.size;refine dA hK (bx) ?_;clear hK K;refine tf ?_;have hC:Gj W s gn tn (W.heap.size) a4 aW aX S aT:=by
    refine⟨(hV.1.trans ar).trans bx,(hV.2.1.aj ar).aj bx,ad,g.aj bx,b5,λb O=>?_,λb O=>⟨?_,?_,λac=>?_⟩⟩
    .have:=N b O;have:=hV.2.2;omega
    .have:=az b O;omega
    .have:=az b O;have:=hV.2.2;omega
    .have:=az b O;have:=N b ac;omega
   generalize W.heap.size=c5 at hC ⊢;exact key c5 a4 aW aX S _ hC
 intro G a4 aW aX S V ⟨bg,cV,aH,ao,n,ak,J⟩;obtain⟨d0,aP,aQ⟩:=cV.two;clear aI aj af;exact gY
def xU(w:World)(op num:Int)(gI:ByteArray)(l:List VE)(e:Ending)(ab:World):Prop:=∃A n c,e=.returned (.agg #[.int .i64 op,.int .i64 num,.string gI,.slice A n c])/\n<=c/\Sl ab (fresh w ab) A n (l.map a7)/\Ext w ab
def vw(x:VE):Prop:=∀(w:World) (A:IP) (n c:Nat),Sl w (av w) A n (x.args.map a7)->Calls prog 100 #[.agg #[.int .i64 x.aZ,.int .i64 x.numOf,.string x.bg,.slice A n c]] w (xU w x.aZ x.numOf x.bg x.args)
namespace z0
theorem lj(h:p:=by
 generalize hX:World.setCell aT _ _=Y;have bj:=cT hX;have aq:=ae (show Ext w Y/\an Y w.heap.size 128 #[.int .i64 op,.int .i64 num,.string gI,.slice cl (k+1) c3]/\an Y (w.heap.size+1) 128 #[.int .i64 0,.int .i64 0,.string ⟨#[]⟩,.slice none 0 0]/\Gr (λb=>w.heap.size+2<=b) (w.heap.size+2) 128 4 Y cl (k+1) c3 ((l.take (k+1)).map a7) from
  ⟨Fr.low (M:=λb=>b=w.heap.size) (Fr.trans (Fr.mono bi.1 λ_ h=>h.elim) bj) λb O=>ad,by rw[<-hX];exact bi.2.1.aI 3 _,bi.2.2.1.on bj ad,by
   rw[a0 bY.1,Ig];exact bi.2.2.2.dh bj λb O _=>⟨ad,ad⟩⟩)
 clear hX bj aI aj af bO;go_wp2;go_roundw
 case rel=>exact⟨k+1,cl,c3,by go_num,ad,aq.o⟩
 case measure=>exact aF
 ):p:=h
theorem tH(h:p:=by
 have bY:=ai a4 cu;have bP:=ae (c6.o y (Ia a4));clear a4 P cu Z bd O aw aS cy bS;go_upto_region 6 with(fail);generalize hU:World.alloc _ _=U;have ab:=bm hU;have aR:=aU hU;have cf:=ab.size;have bU:=aV.2.1.aj ab;have bv:=cK (aV.1.trans ab) bU (aV.2.2.1.aj ab) (aV.2.2.2.aj ab) (bY.2.on (Fr.ext ab));obtain⟨d0,aP,aQ⟩:=aR.two;obtain⟨aI,aj,af⟩:=bU.two;clear hU ab aR bU c0 c1 c2 c3 aX;refine eB (λ_=>False) [(0,3),(1,0),(2,0),(3,1),(4,1),(5,2),(6,3),(7,2)] ?_;refine pf ?_
 iterate 2 refine ph ?_
 refine aD rfl (λK hK=>?_);go_simp;refine(bP.o _ _ _ _ (bv.2.2.2.2.on (Fr.ext (Fr.refl _ U).drew))).mono ?_;rintro e aO ⟨cz,b7,zc,rfl,bs,cF,ar⟩;have H1:=aL cF bs ar;refine dA hK (ar) ?_;clear hK K;have ag:Ext U aO:=Fr.aJ ar;have cn:=bv.2.2.2.1.aj ag;have b6:=ag.size;have I:∀b,(Value.slice aE k L).ownBlock=some b->b<U.heap.size:=λb O=>(bv.2.2.2.1.lt O).2;have hd:(a7 y).rep aO (kJ (λb=>w.heap.size+2<=b) aO (.slice aE k L)) (#[.int .i64 y.aZ,.int .i64 y.numOf,.string y.bg,.slice cz b7 zc]:Array Value).toList:=
  aW.2 ⟨cz,b7,zc,rfl,bs,cF.mono λb O=>⟨by have:=O.1;have:U.drew.heap.size=U.heap.size:=rfl;omega,O.2,λh=>by have:=I b h;have:=O.1;have:U.drew.heap.size=U.heap.size:=rfl;omega⟩⟩
 have aY:=ai cn hd;clear cF bs ar cn hd I;refine p2 ?_;refine au rfl (λK hK=>?_);rw[if_pos (by rfl)];refine pK ow (.tmp 16) (.tmp 19) rfl aY.1 aY.2 rfl rfl rfl ad ad ad ?_;intro cl c3 aT b0 g2 cB cQ;have bq:∀b,(Value.slice aE k L).ownBlock=some b->w.heap.size+2<=b:=λb O=>(aY.1.lt O).1;have bO:=(bv.2.1.aj ag).on g2 (λh=>by have:=bq _ h;omega);have cp:=(bv.2.2.1.aj ag).on g2 (λh=>by have:=bq _ h;omega);have aG:Ext w aT:=Fr.low (M:=λb=>(Value.slice aE k L).ownBlock=some b) (Fr.trans (Fr.mono (bv.1.trans ag) λ_ h=>h.elim) g2) λb O=>by have:=bq b O;omega
 have bi:=bF aG bO cp b0;clear b0 g2 cB cQ bq cp aG aI aj af d0 aP aQ;obtain⟨aI,aj,af⟩:=bO.two;exact lh
 ):p:=h
end z0
open z0 in
theorem ft(op num:Int)(gI:ByteArray)(l:List VE)(aa:∀y∈l,vw y)(hl:l.length<=2)(w:World)(A:IP)(n c:Nat)(h:Sl w (av w) A n (l.map a7)) :
  Calls prog 100 #[.agg #[.int .i64 op,.int .i64 num,.string gI,.slice A n c]] w (xU w op num gI l):=by
 have hn:n<=2:=by have:=h.1;simp at this;omega
 have i:=ae (show l.length=n by have:=h.1;simpa using this);obtain⟨H,c6⟩:=aN h aa;clear h aa hl;go_enter func100,ntmps100;go_upto_region 1 with(fail);generalize ba:World.alloc _ _=W;have m:=hJ ba;have bn:=fA ba;have f:=fB ba;obtain⟨aI,aj,af⟩:=bn.two;clear ba;go_upto_region 3 with(fail);generalize hX:World.setCell _ _ _=X;have aA:=cT hX;have aw:Ext w X:=Fr.low (M:=λb=>b=w.heap.size) (Fr.trans (Fr.mono m λ_ h=>h.elim) aA) λb O=>ad;have aS:an X w.heap.size 128 #[.int .i64 op,.int .i64 num,.string gI,.slice none 0 0]:=hX▸bn.aI 3 _;have cy:an X (w.heap.size+1) 128 #[.int .i64 0,.int .i64 0,.string ⟨#[]⟩,.slice none 0 0]:=f.on aA ad;clear aA m bn f aI aj af;have aV:=aL aw aS cy;clear hX aw aS cy;go_wp2_with(fail);go_loopw [11] (λci wr=>∃(k:Nat) (aE:IP) (L:Nat),ci=.int .i64 k/\k<=n/\Ext w wr/\an wr w.heap.size 128 #[.int .i64 op,.int .i64 num,.string gI,.slice aE k L]/\an wr (w.heap.size+1) 128 #[.int .i64 0,.int .i64 0,.string ⟨#[]⟩,.slice none 0 0]/\Gr (λb=>w.heap.size+2<=b) (w.heap.size+2) 128 4 wr aE k L ((l.take k).map a7)) (λci _=>n - (intOf ci).toNat)
 case atStart=>exact⟨0,none,0,rfl,ad,aV.1,aV.2.1,aV.2.2,Gr.nil _ _ _ _ _⟩
 case round=>
  obtain⟨k,aE,L,rfl,ap,aw,aS,cy,bS⟩:=hrel;clear aV;have aV:=bF aw aS cy bS;have bf:=cy.lt;by_cases al:k<n
  .obtain⟨b,o,y,cs,rfl,O,a4,P,bd,Z⟩:=(H.on (Fr.ext aw)).gH cY al;exact tG
  .obtain rfl:k=n:=ad;obtain⟨aI,aj,af⟩:=aS.two;obtain⟨bD,aK,a9⟩:=cy.two;clear aw aS cy bS;go_wp2_with(fail);generalize hX:World.setCell _ _ _=Y;obtain⟨bk,bt,bj⟩:=cO (w:=w) [.int .i64 op,.int .i64 num,.string gI,.slice aE k L] (by rfl) aV.2.2.1 aV.1 ad hX;have bY:=ai bt bj;clear hX bt bj aI aj af bD aK a9;obtain⟨bD,aK,a9⟩:=bk.two;refine IJ (v:=.agg #[.int .i64 op,.int .i64 num,.string gI,.slice aE k L]) (by simp[results,Tryz.results100,go_sem,bD]) rfl ?_;have aM:=aV.2.2.2.dh bY.2 λb O _=>⟨ad,ad⟩
   rw[Ih (aC i.o)] at aM;exact⟨aE,k,L,rfl,aM.cap.1,aM.sl (λb al O=>⟨ad,al⟩) (λb al O=>⟨ad,al⟩),bY.1⟩
theorem iZ:∀x:VE,vw x
 | .num n=>λw A m c h=>ft 1 n ⟨#[]⟩ [] (by simp) (by simp) w A m c h
 | .gI s=>λw A m c h=>ft 2 0 s [] (by simp) (by simp) w A m c h
 | .loc k=>λw A m c h=>ft 18 k ⟨#[]⟩ [] (by simp) (by simp) w A m c h
 | .iq k=>λw A m c h=>ft 19 k ⟨#[]⟩ [] (by simp) (by simp) w A m c h
 | .un op x=>λw A m c h=>ft op 0 ⟨#[]⟩ [x] (λy a4=>by rw[ID.1 a4];exact iZ x) (by simp) w A m c h
 | .bin op x y=>λw A m c h=>ft op 0 ⟨#[]⟩ [x,y] (λz bi=>by
   simp only[Iq,List.not_mem_nil,or_false] at bi;rcases bi with bi|bi
   .rw[bi];exact iZ x
   .rw[bi];exact iZ y) (by simp) w A m c h
theorem xj(o:Option VE)(w:World)(eo en:Int)(es:ByteArray)(A:IP)(n c:Nat)(h:(nP o).rep w (av w) [.int .i64 eo,.int .i64 en,.string es,.slice A n c]) :
  Calls prog 100 #[.agg #[.int .i64 eo,.int .i64 en,.string es,.slice A n c]] w λe ab=>∃aE a0 L,e=.returned (.agg #[.int .i64 eo,.int .i64 en,.string es,.slice aE a0 L])/\(nP o).rep ab (fresh w ab) [.int .i64 eo,.int .i64 en,.string es,.slice aE a0 L]/\Ext w ab:=by
 cases o with
 | none=>
  obtain⟨A2,c2,e⟩:=eP.1 h;simp only[List.cons.injEq,and_true] at e;obtain⟨e1,e2,e3,cH⟩:=e;injection e1 with _ e1;injection e2 with _ e2;injection e3 with e3;injection cH with cH cV bQ;subst e1 e2 e3 cH cV bQ;refine(ft 0 0 ⟨#[]⟩ [] (by simp) (by simp) w _ 0 c (Sl.bH _)).mono ?_;rintro e ab ⟨aE,a0,L,rfl,ac,J,aR⟩;obtain rfl:a0=0:=J.1.symm
  exact⟨aE,0,L,rfl,eP.2 ⟨aE,L,rfl⟩,aR⟩
 | some x=>
  obtain⟨A2,cd,c2,e,hc,hs⟩:=aW.1 h;simp only[List.cons.injEq,and_true] at e;obtain⟨e1,e2,e3,cH⟩:=e;injection e1 with _ e1;injection e2 with _ e2;injection e3 with e3;injection cH with cH cV bQ;subst e1 e2 e3 cH cV bQ;refine(iZ x w _ _ _ hs).mono ?_;rintro e ab ⟨aE,a0,L,rfl,ac,J,aR⟩;exact⟨aE,a0,L,rfl,aW.2 ⟨aE,a0,L,rfl,ac,J⟩,aR⟩
def Ew(w:World)(l:List VE)(e:Ending)(ab:World):Prop:=∃A n c,e=.returned (.slice A n c)/\n<=c/\Sl ab (fresh w ab) A n (l.map a7)/\Ext w ab
namespace z1
theorem tH(h:p:=by
 have bY:=ai a4 cu;clear a4 P cu Z bd O aw bS;go_upto_region 5 with(fail);generalize hU:World.alloc _ _=U;have ab:=bm hU;have aR:=aU hU;have cf:=ab.size;have bv:=aL (aV.1.trans ab) (aV.2.aj ab) (bY.2.on (Fr.ext ab));obtain⟨d0,aP,aQ⟩:=aR.two;clear hU ab aR c0 c1 c2 c3 aX;go_wp2_with(fail);refine(iZ y _ _ _ _ bv.2.2).mono ?_;rintro e aO ⟨cz,b7,zc,rfl,bs,cF,ag⟩;have cn:=bv.2.1.aj ag;have b6:=ag.size;have I:∀b,(Value.slice aE k L).ownBlock=some b->b<U.heap.size:=λb O=>(bv.2.1.lt O).2;have hd:(a7 y).rep aO (kJ (λb=>w.heap.size<=b) aO (.slice aE k L)) (#[.int .i64 y.aZ,.int .i64 y.numOf,.string y.bg,.slice cz b7 zc]:Array Value).toList:=
  aW.2 ⟨cz,b7,zc,rfl,bs,cF.mono λb O=>⟨by have:=O.1;omega,O.2,λh=>by have:=I b h;have:=O.1;omega⟩⟩
 have H1:=aL (bv.1.trans ag) cn hd;clear cF bs ag cn hd I d0 aP aQ;go_wp2_with(at_builtin;refine bN ow rfl (.tmp 12) (.tmp 15) rfl H1.2.1 H1.2.2 rfl rfl rfl ad ad ad ?_;intro cl c3 aT b0 g2 cB cQ;have b2:=ai b0 g2;clear b0 g2 cB cQ);have bq:∀b,(Value.slice aE k L).ownBlock=some b->w.heap.size<=b:=λb O=>(H1.2.1.lt O).1;have aJ:Ext w aT:=Fr.low (M:=λb=>(Value.slice aE k L).ownBlock=some b) (Fr.trans (Fr.mono H1.1 λ_ h=>h.elim) b2.2) λb O=>bq b O;have a3:=ae aJ;clear bq aJ;go_roundw
 case rel=>exact⟨k+1,cl,c3,rfl,by go_num,ad,a3.o,by rw[a0 bY.1,Ig];exact b2.1⟩
 case measure=>exact aF
 ):p:=h
end z1
open z1 in
theorem o6(l:List VE)(hl:l.length<=100000)(w:World)(A:IP)(n c:Nat)(h:Sl w (av w) A n (l.map a7)) :
  Calls prog 102 #[.slice A n c] w (Ew w l):=by
 have cb:l.length=n:=by have:=h.1;simpa using this
 have hn:n<=100000:=ad;obtain⟨i,H⟩:=aN cb h;clear h hl cb;go_enter func102,ntmps102;go_wp2_with(fail);go_loopw [3,8] (λsv ci wr=>∃(k:Nat) (aE:IP) (L:Nat),sv=.slice aE k L/\ci=.int .i64 k/\k<=n/\Ext w wr/\Gr (λb=>w.heap.size<=b) w.heap.size 128 4 wr aE k L ((l.take k).map a7)) (λ_ ci _=>n - (intOf ci).toNat)
 case atStart=>exact⟨0,none,0,rfl,rfl,ad,IK,Gr.nil _ _ _ _ _⟩
 case round=>
  obtain⟨k,aE,L,rfl,rfl,ap,aw,bS⟩:=hrel;have aV:=ai aw bS;have gp:=aw.size;by_cases al:k<n
  .obtain⟨b,o,y,cs,rfl,O,a4,P,bd,Z⟩:=(H.on (Fr.ext aw)).gH cY al;exact tG
  .obtain rfl:k=n:=ad;clear aw bS;go_wp2_with(fail);go_ret;have aM:=aV.2;rw[Ih (aC i.o)] at aM;exact⟨aE,k,L,rfl,aM.cap.1,aM.sl (λb al O=>⟨O,al⟩) (λb al O=>⟨O,al⟩),aV.1⟩
theorem o9(p:bK)(w:World)(A:IP)(n c:Nat)(h:(c9 p).rep w (av w) [.bool p.param,.int .i64 p.index,.slice A n c]) :
  Calls prog 101 #[.agg #[.bool p.param,.int .i64 p.index,.slice A n c]] w λe ab=>∃aE a0 L,e=.returned (.agg #[.bool p.param,.int .i64 p.index,.slice aE a0 L])/\(c9 p).rep ab (fresh w ab) [.bool p.param,.int .i64 p.index,.slice aE a0 L]/\Ext w ab:=by
 obtain⟨A2,cd,c2,e,hc,hs⟩:=eh.1 h;simp only[List.cons.injEq,and_true,true_and] at e;injection e with cH cV bQ;subst cH cV bQ;have H:=ae hs;have hj:p.at_.toList.length<=100000:=by cases p.at_<;>simp
 clear h hs hc;generalize j:p.param=pb;generalize k:p.index=pi;have b9:=ai j k;clear j k;go_enter func101,ntmps101;go_upto_region 1 with(fail);generalize ba:World.alloc _ _=W;have m:=hJ ba;have bn:=fA ba;have f:=fB ba;have ay:=bF m bn f (H.on (Fr.ext m));have cE:=f.lt;obtain⟨aI,aj,af⟩:=bn.two;clear ba m bn f;go_wp2_with(fail);refine(o6 _ hj W _ _ _ ay.2.2.2).mono ?_;rintro e aO ⟨cz,b7,zc,rfl,bs,cF,ag⟩;have b6:=ag.size;have co:=ay.2.1.aj ag;have i:=ay.2.2.1.aj ag;have H1:=cK (ay.1.trans ag) bs cF co i;clear aI aj af;obtain⟨aI,aj,af⟩:=co.two;clear co i ag bs cF;go_upto_region 2 with(fail);generalize hX:World.setCell _ _ _=X;have aA:=cT hX;have aw:Ext w X:=Fr.low (M:=λb=>b=w.heap.size) (Fr.trans (Fr.mono H1.1 λ_ h=>h.elim) aA) λb O=>ad;have aS:an X w.heap.size 130 #[.bool pb,.int .i64 pi,.slice cz b7 zc]:=hX▸H1.2.2.2.1.aI 2 _;have cy:an X (w.heap.size+1) 130 #[.bool false,.int .i64 0,.slice none 0 0]:=H1.2.2.2.2.on aA ad;have aV:=aL aw aA cy;clear hX aI aj af;obtain⟨aI,aj,af⟩:=aS.two;obtain⟨bD,aK,a9⟩:=cy.two;clear aA aw aS cy;go_wp2_with(fail);generalize hX:World.setCell _ _ _=Y;obtain⟨bk,bt,bj⟩:=cO (w:=w) [.bool pb,.int .i64 pi,.slice cz b7 zc] (by rfl) aV.2.2 aV.1 ad hX;have bY:=ai bt bj;clear hX bt bj aI aj af bD aK a9;obtain⟨bD,aK,a9⟩:=bk.two;refine IJ (v:=.agg #[.bool pb,.int .i64 pi,.slice cz b7 zc]) (by simp[results,Tryz.results101,go_sem,bD]) rfl ?_;have aa:w.heap.size+1<aO.heap.size:=ad;refine⟨cz,b7,zc,rfl,?_,bY.1⟩;rw[<-b9.1,<-b9.2]
 refine eh.2 ⟨cz,b7,zc,rfl,H1.2.1,(H1.2.2.1.al λb O=>(bY.2.block b (mI O.2 aV.2.1.size) (aC O.1)).trans (aV.2.1.block b O.2 (aC O.1))).mono λb O=>⟨by have:=O.1;omega,by have:=O.2;have:=aV.2.1.size;have:=bY.2.size;omega⟩⟩
structure r5(w:World)(s:ah)(t:Int)(f:ao)(O bu hn b3 cU n fc:Nat)(IA:IP)(i ic:Nat)(bo:IP)(l lc:Nat):Prop where
 fault:s.fault=0
 t0:0<=t
 tn:t<hn
 lb:O<w.heap.size
 lf:b3<w.heap.size
 cell:w.cell? ⟨O,bu+t.toNat,none⟩=some (.slice (some ⟨b3,cU,none⟩) (n+1) fc)
 c0:w.cell? ⟨b3,cU+n*4,none⟩=some (.int .i64 f.proc)
 c1:w.cell? ⟨b3,cU+n*4+1,none⟩=some (.int .i64 f.pc)
 c2:w.cell? ⟨b3,cU+n*4+2,none⟩=some (.slice IA i ic)
 c3:w.cell? ⟨b3,cU+n*4+3,none⟩=some (.slice bo l lc)
 Hg:i<=ic
 lcs:l<=lc
 ints:Sl w (av w) IA i (f.ints.map D.i)
 aw:Sl w (av w) bo l (f.aw.map D.i)
 th:∃fs,s.threads[t.toNat]?=some (fs++[f])/\fs.length=n
 n1:n+1<=fc
 nb:n<=1000000
theorem r5.on{w ab:World}{s:ah}{t:Int}{f:ao}{O bu hn b3 cU n fc:Nat}{IA:IP}{i ic:Nat}{bo:IP}{l lc:Nat}(h:r5 w s t f O bu hn b3 cU n fc IA i ic bo l lc)(he:Ext w ab):r5 ab s t f O bu hn b3 cU n fc IA i ic bo l lc:=
 ⟨h.fault,h.t0,h.tn,Hy h.lb he.size,Hy h.lf he.size,(he.cell h.lb λh=>h).trans h.cell,(he.cell h.lf λh=>h).trans h.c0,(he.cell h.lf λh=>h).trans h.c1,(he.cell h.lf λh=>h).trans h.c2,(he.cell h.lf λh=>h).trans h.c3,h.Hg,h.lcs,h.ints.on (Fr.ext he),h.aw.on (Fr.ext he),h.th,h.n1,h.nb⟩
theorem k9.top{w:World}{s:ah}{GA:IP}{gn:Nat}(h:k9 w (av w) s GA gn TA tn HA hn)(H:Small s){f:ao}(ht:dt s t=some f):
  ∃O bu b3 cU n fc IA i ic bo l lc,HA=some ⟨O,bu,none⟩/\r5 w s t f O bu hn b3 cU n fc IA i ic bo l lc:=by
 obtain⟨h0,ac,fs,bp⟩:=jj ht;have hl:=h.h.1;rw[Ib] at hl;have ap:=(List.getElem?_eq_some_iff.1 bp).1;obtain⟨O,bu,a,FA,m,fc,rfl,T,j,hc,hm,aA⟩:=h.h.te (k:=t.toNat) ad;rw[bp] at j;injection j with j;subst j;have ck:=aA.1;simp at ck;obtain⟨b3,cU,S,IA,i,ic,bo,l,lc,rfl,cw,u,c0,c1,c2,c3,J,aR,bv,ct⟩:=aA.wc (k:=fs.length) ad;simp at u;subst u;subst ck;exact⟨O,bu,b3,cU,fs.length,fc,IA,i,ic,bo,l,lc,rfl,h0,ac,ad,T,cw,hc,c0,c1,c2,c3,J,aR,bv,ct,⟨fs,bp,rfl⟩,hm,by have:=(H.f _ (Ia bp)).1;simp at this;omega⟩
theorem wk(o a:Value)(O bu hn hc b3 cU n fc:Nat)(t:Int)(w:World)(h0:0<=t)(al:t<hn)(dm:O<w.heap.size)(a3:w.cell? ⟨O,bu+t.toNat,none⟩=some (.slice (some ⟨b3,cU,none⟩) (n+1) fc))(m:n<=1000000) :
  Calls prog 74 #[.agg #[o,a,.slice (some ⟨O,bu,none⟩) hn hc,.int .i64 0],.int .i64 t] w λe ab=>e=.returned (.pointer (some ⟨b3,cU+n*4,none⟩))/\Ext w ab:=by
 have q1:decide (t<0)=false:=by simp;omega
 have dq:decide (t>=hn)=false:=by simp;omega
 have dg:(((n+1:Nat):Int) == 0)=false:=by simp;omega
 exact r8
theorem xG{w:World}{s:ah}{GA:IP}{gn:Nat}(h:k9 w (av w) s GA gn TA tn HA hn)(ht:dt s t=none):
  s.fault≠0\/t<0\/(hn:Int)<=t\/(0<=t/\t<hn/\∃O bu FA fc,HA=some ⟨O,bu,none⟩/\O<w.heap.size/\w.cell? ⟨O,bu+t.toNat,none⟩=some (.slice FA 0 fc)):=by
 by_cases h0:s.fault≠0
 .exact .inl h0
 by_cases ac:t<0
 .exact .inr (.inl ac)
 by_cases J:(hn:Int)<=t
 .exact .inr (.inr (.inl J))
 refine .inr (.inr (.inr ⟨ad,ad,?_⟩));obtain⟨O,bu,fs,FA,m,fc,rfl,T,bp,hc,hm,aA⟩:=h.h.te (k:=t.toNat) ad;unfold dt at ht;rw[if_neg ad,bp] at ht;have bZ:fs=[]:=by simpa using ht
 have ck:=aA.1;rw[bZ] at ck;simp at ck;subst ck;exact⟨O,bu,FA,fc,rfl,T,hc⟩
theorem xk(s:ah)(GA TA HA:IP)(gn gc tn tc hn hc:Nat)(t:Int)(w:World)(h:k9 w (av w) s GA gn TA tn HA hn)(ht:dt s t=none) :
  Calls prog 74 #[.agg #[.slice GA gn gc,.slice TA tn tc,.slice HA hn hc,.int .i64 s.fault],.int .i64 t] w λe ab=>e=.returned (.pointer none)/\Ext w ab:=by
 have f:=xG h ht;clear h ht;generalize bi:s.fault=z at *;clear bi;by_cases h0:z=0
 case neg=>
  have hg:(z != 0)=true:=by simpa using h0
  clear f h0;exact r8
 subst h0;rcases f with h|h|h|⟨ac,J,O,bu,FA,fc,rfl,T,a3⟩
 .exact absurd rfl h
 .have q1:decide (t<0)=true:=by simpa using h
  clear h;exact r8
 .have q1:decide (t<0)=false:=by simp;omega
  have dq:decide (t>=hn)=true:=by simpa using h
  clear h;exact r8
 .have q1:decide (t<0)=false:=by simp;omega
  have dq:decide (t>=hn)=false:=by simp;omega
  exact r8
theorem kO{w:World}{s:ah}{f:ao}{O bu b3 cU:Nat}{IA:IP}{i ic:Nat}(h:r5 w s t f O bu hn b3 cU n fc IA i ic bo l lc)(o a:Value)(hc:Nat):
  Calls prog 74 #[.agg #[o,a,.slice (some ⟨O,bu,none⟩) hn hc,.int .i64 s.fault],.int .i64 t] w λe ab=>e=.returned (.pointer (some ⟨b3,cU+n*4,none⟩))/\Ext w ab:=by
 rw[h.fault];exact wk o a O bu hn hc b3 cU n fc t w h.t0 h.tn h.lb h.cell h.nb
structure UV where
 GA:Option Addr
 gn:Nat
 gc:Nat
 MA:Option Addr
 mn:Nat
 mc:Nat
 PA:Option Addr
 pn:Nat
 pc:Nat
structure SV where
 GA:Option Addr
 gn:Nat
 gc:Nat
 TA:Option Addr
 tn:Nat
 tc:Nat
 HA:Option Addr
 hn:Nat
 hc:Nat
abbrev UV.val(p:UV)(u:ax):Array Value:=#[.slice p.GA p.gn p.gc,.slice p.MA p.mn p.mc,.slice p.PA p.pn p.pc,.int .i64 u.main]
abbrev SV.val(q:SV)(s:ah):Array Value:=#[.slice q.GA q.gn q.gc,.slice q.TA q.tn q.tc,.slice q.HA q.hn q.hc,.int .i64 s.fault]
structure UV.Ok(p:UV)(w:World)(u:ax):Prop where
 at_:gW w (av w) u p.GA p.gn p.MA p.mn p.PA p.pn
 gc:p.gn<=p.gc
 mc:p.mn<=p.mc
 pc:p.pn<=p.pc
structure SV.Ok(q:SV)(w:World)(s:ah):Prop where
 at_:k9 w (av w) s q.GA q.gn q.TA q.tn q.HA q.hn
 gc:q.gn<=q.gc
 tc:q.tn<=q.tc
 hc:q.hn<=q.hc
theorem UV.Ok.on{p:UV}{w ab:World}{u:ax}(h:p.Ok w u)(he:Ext w ab):p.Ok ab u:=⟨h.at_.on he,h.gc,h.mc,h.pc⟩
theorem SV.Ok.on{q:SV}{w ab:World}{s:ah}(h:q.Ok w s)(he:Ext w ab):q.Ok ab s:=⟨h.at_.on he,h.gc,h.tc,h.hc⟩
theorem lv{u:ax}(hU:cZ u):elems u.af<=5000:=by
 have ac:=fv u.af;have J:=eZ hU.Ej;omega
theorem aV.small{u:ax}{N:Nat}{s:ah}(hU:cZ u)(h:aV u N s)(hD:N<=100000):Small s:=by
 refine⟨by have:=h.dw;have:=hU.pe;omega,by have:=h.table;have:=eZ hU.Ej;omega,by have:=h.xE;omega,λt ht=>⟨by have:=(h.fm t ht).1;omega,λf aA=>?_⟩⟩;obtain⟨p,hp,_,ac,J⟩:=((h.fm t ht).2 f aA).ex;have:=hU.procs p (Ia hp);have:=this.ints;have:=(hU.procs p (Ia hp)).aw;omega
section
variable {u:ax} {N:Nat} {s:ah} {f:ao} {ck:c7} {pl:bK} {w:World} {GA MA IA QA:IP} {gn gc mn mc i ic qm qc:Nat}
theorem ET(hU:cZ u)(hS:aV u N s)(hF:bW u f)(hp:u.procs[f.proc.toNat]?=some ck)(hx:cP (bk u) ck.locals ck.aw pl)(j:pl.param=false)
  (hm:Sl w (av w) MA mn (u.af.map er)) (aM:Sl w (av w) GA gn (s.globals.map D.i)) (ak:Sl w (av w) IA i (f.ints.map D.i)) (bp:(c9 pl).rep w (av w) [.bool pl.param,.int .i64 pl.index,.slice QA qm qc]) :
  (qm=0/\cF u s f pl=(0,0))\/∃(e:VE) (k:Nat) (m:bJ) (b o:Nat) (c0 c1 c2 c3:Value),QA=some ⟨b,o,none⟩/\qm=1/\pl.index=(k:Nat)/\DB w MA mn u.af GA IA gn i s.globals f.ints e k m b o c0 c1 c2 c3/\xS s.globals f.ints e/\cF u s f pl=idx m.size (ev s.globals f.ints e):=by
 rcases hx with⟨ac,_⟩|⟨_,m,J,aR,bv,ct⟩
 .rw[j] at ac;cases ac
 obtain⟨A2,cd,c2,e,_,hs⟩:=eh.1 bp;simp only[List.cons.injEq,and_true,true_and] at e;injection e with cH cV bQ;subst cH cV bQ;have bd:u.af[pl.index.toNat]?=some m:=aR;by_cases bi:0<m.size
 .obtain⟨x,hx,pZ⟩:=bv bi;right;rw[hx] at hs;simp only[Option.toList_some,Ie,Iy] at hs;obtain rfl:qm=1:=hs.1.symm;obtain⟨b,o,bU,Z,ay,F,rfl,O,aY,c0,c1,c2,c3⟩:=hs.BB (cY x);obtain⟨bu,g,_⟩:=v8 hS hF hp pZ;have bT:=aM.1;have U:=ak.1;have du:=hm.1;rw[Ib] at bT U du;have ap:=(List.getElem?_eq_some_iff.1 bd).1;refine⟨x,pl.index.toNat,m,b,o,bU,Z,ay,F,rfl,rfl,ad,⟨⟨aM.ints,ak.ints,by rw[<-bT,<-U];exact bu,j6 x _ aY⟩,hm.uA,ad,bd,O,c0,c1,c2,c3⟩,g,?_⟩;unfold cF;rw[hx,bd];rfl
 .left;rw[ct bi] at hs;refine⟨hs.1.symm,?_⟩;unfold cF;rw[ct bi]
theorem EZ(hU:cZ u)(hS:aV u N s)(hF:bW u f)(hp:u.procs[f.proc.toNat]?=some ck)(hx:cP (bk u) ck.locals ck.aw pl)(j:pl.param=false)
  (hm:Sl w (av w) MA mn (u.af.map er)) (aM:Sl w (av w) GA gn (s.globals.map D.i)) (ak:Sl w (av w) IA i (f.ints.map D.i)) (bp:(c9 pl).rep w (av w) [.bool pl.param,.int .i64 pl.index,.slice QA qm qc]) :
  Calls prog 109 #[.agg #[.bool false,.int .i64 pl.index,.slice QA qm qc],.slice MA mn mc,.slice GA gn gc,.slice IA i ic] w (jV w (cF u s f pl)):=by
 rcases ET hU hS hF hp hx j hm aM ak bp with⟨rfl,h⟩|⟨e,k,m,b,o,c0,c1,c2,c3,rfl,rfl,ap,hI,_,h⟩
 .rw[h];exact tu _ _ _ _ _ _ _ _
 .rw[h,ap];exact wN _ _ _ _ _ _ _ _ _ _ _ _ _ _ _ _ _ _ _ _ _ _ _ hI
end
theorem js{u:ax}{s:ah}{f:ao}{pl:bK}(h:dt s t=some f):AT u s t pl=bj u s f pl:=by unfold AT;rw[h]
theorem w0{u:ax}{s:ah}{f:ao}{pl:bK}(h:pl.param=true):bj u s f pl=(f.aw.getD pl.index.toNat 0,0):=by unfold bj;rw[if_pos h]
theorem wZ{u:ax}{s:ah}{f:ao}{pl:bK}(h:pl.param=false)(aA:(cF u s f pl).2≠0):bj u s f pl=(0,(cF u s f pl).2):=by unfold bj;rw[if_neg (by simp[h]),if_pos aA]
theorem oJ{u:ax}{s:ah}{f:ao}{pl:bK}(h:pl.param=false)(aA:(cF u s f pl).2=0):bj u s f pl=(gm u.af pl.index+(cF u s f pl).1,0):=by unfold bj;rw[if_neg (by simp[h]),if_neg ad]
theorem AU{u:ax}{s:ah}{f:ao}{pl:bK}{nk:Int}(hU:cZ u)(hF:bW u f)(ap:nk<=f.aw.length)(hx:cP (bk u) nl nk pl)(h:pl.param=false)(aA:(cF u s f pl).2=0):
  0<=gm u.af pl.index+(cF u s f pl).1/\gm u.af pl.index+(cF u s f pl).1<=5000:=by
 have ac:=(iP (s:=s) hU hF ap hx).2;rw[oJ h aA] at ac;have:=lv hU;have:=ac rfl;simp only at this;omega
theorem E7{u:ax}{f:ao}{pl:bK}{w:World}(hx:cP (bk u) nl f.aw.length pl)(h:pl.param=true)(hl:Sl w (av w) bo l (f.aw.map D.i)):
  0<=pl.index/\pl.index<l/\∃b o,bo=some ⟨b,o,none⟩/\b<w.heap.size/\w.cell? ⟨b,o+pl.index.toNat,none⟩=some (.int .i64 (f.aw.getD pl.index.toNat 0)):=by
 rcases hx with⟨_,ac,J,_⟩|⟨ac,_⟩
 .have hn:=hl.1;rw[Ib] at hn;obtain⟨b,o,x,bj,O,hx,hc⟩:=hl.ints.int (k:=pl.index.toNat) ad;refine⟨ac,ad,b,o,bj,O,?_⟩;rw[List.getD_eq_getElem?_getD,hx];exact hc
 .rw[h] at ac;cases ac
structure Gs(u:ax)(s:ah)(t:Int)(f:ao)(pl:bK)(N:Nat)(w:World)(p:UV)(q:SV)(QA:IP)(qm qc:Nat):Prop where
 hU:cZ u
 hS:aV u N s
 sm:Small s
 ht:dt s t=some f
 hx:∃ck,u.procs[f.proc.toNat]?=some ck/\cP (bk u) ck.locals ck.aw pl
 u:p.Ok w u
 s:q.Ok w s
 pl:(c9 pl).rep w (av w) [.bool pl.param,.int .i64 pl.index,.slice QA qm qc]
theorem bW.rn{u:ax}{f:ao}{ck:c7}(hF:bW u f)(hp:u.procs[f.proc.toNat]?=some ck):(f.aw.length:Int)=ck.aw:=by
 obtain⟨p,h,_,_,J⟩:=hF.ex;rw[hp] at h;injection h with h;rw[h];exact J
namespace z2
theorem jr(h:p:=by
 obtain⟨O,bu,b3,cU,n,fc,IA,i,ic,bo,l,lc,e,a5⟩:=hs.at_.top H ht;simp only at e;subst e;obtain⟨hF,_,_⟩:=hS.top ht;have o:=hF.rn hp;have x:cP (bk u) ck.locals f.aw.length pl:=by rw[o];exact hx
 rw[js ht];have bG:=hu.mc;simp only at bG;have aV:=eU hU hS hF hp hx x;dsimp only[UV.val,SV.val];go_enter func75,ntmps75;go_upto_region 1 with(fail);generalize ba:World.alloc _ _=W;have aw:=pT ba;have bH:=lT ba;have bJ:=kZ ba;have aY:=nh ba;have ay:=iK aw bH bJ aY (hu.on aw) (hs.on aw) (D.on bp (Fr.ext aw));have m:=a5.on aw;obtain⟨aI,aj,af⟩:=bH.two;obtain⟨be,am,aH⟩:=bJ.two;obtain⟨d0,aP,aQ⟩:=aY.two;have bX:=ae m;clear ba aw bH bJ aY m a5 hu hs bp H hS hU ht hp hx hF o x;go_wp2_with(fail);refine(kO bX.o _ _ _).mono ?_;rintro e aO ⟨rfl,ag⟩;have b8:=ae (bX.on ag);have bh:=ae ag;clear aI aj af be am aH d0 aP aQ;obtain⟨aI,aj,af⟩:=(ay.2.1.aj ag).two;obtain⟨be,am,aH⟩:=(ay.2.2.1.aj ag).two;obtain⟨d0,aP,aQ⟩:=(ay.2.2.2.1.aj ag).two;have cw:=b8.lf;have c2:=b8.c2;have c3:=b8.c3;clear ag bX
 cases j:pl.param with
 | true=>
  rw[j] at d0;obtain⟨gK,c7,lb,lo,rfl,aM,a2⟩:=E7 aV.2.2.2.2.2 j b8.aw;have bQ:=w0 (u:=u) (s:=s) (f:=f) j;generalize hV:f.aw.getD pl.index.toNat 0=V at *;have a8:=ae bQ;have q1:decide (pl.index<0)=false:=by simp;omega
  have dq:decide (pl.index>=l)=false:=by simp;omega
  clear bQ hV;go_upto_region 5 with(fail);refine eB (λ_=>False) [(0,3),(1,0),(2,3),(3,3),(4,3),(5,0),(6,3),(7,3),(8,3),(9,0),(10,3),(11,3),(12,3)] ?_;refine pf ?_;refine ph ?_
  iterate 3 refine pf ?_
  refine ph ?_
  iterate 3 refine pf ?_
  refine ph ?_
  iterate 3 refine pf ?_
  refine aB ?_;go_upto_region 7 with(fail);refine eB (λ_=>False) [(0,3),(1,3),(2,3),(3,0),(4,3),(5,0),(6,3),(7,0),(8,3),(9,3)] ?_
  iterate 3 refine pf ?_
  refine bB (v:=?_) rfl (by rfl) (λV hV=>?_) ?_;rotate_left
  .obtain⟨hVc,hVf⟩:=Fr.iG hV
   (go_simp<;>with_reducible rfl)
  try simp only[PU]
  refine pf ?_;refine bB (v:=?_) rfl (by rfl) (λV hV=>?_) ?_;rotate_left
  .obtain⟨hVc,hVf⟩:=Fr.iG hV
   (go_simp<;>with_reducible rfl)
  try simp only[PU]
  refine pf ?_;refine bB (v:=?_) rfl (by rfl) (λV hV=>?_) ?_;rotate_left
  .obtain⟨hVc,hVf⟩:=Fr.iG hV
   (go_simp<;>with_reducible rfl)
  try simp only[PU]
  iterate 2 refine pf ?_
  refine aB ?_;go_wp2_with(fail)
  go_ret2
  exact jV.mk' a8.o (Fr.ext ((ay.1.trans bh.o).drew.drew))
 | false=>
  rw[j] at d0;go_upto_region 8 with(fail);refine eB (λ_=>False) [(0,0),(1,3),(2,0),(3,3),(4,0),(5,3),(6,3),(7,3),(8,0),(9,2),(10,3),(11,3),(12,3),(13,3),(14,3)] ?_;refine ph ?_;refine pf ?_;refine ph ?_;refine pf ?_;refine ph ?_
  iterate 3 refine pf ?_
  refine ph ?_;refine au rfl (λK hK=>?_);go_simp;have aJ:Ext W aO.drew:=bh.drew;refine(EZ (u:=u) (s:=s) (f:=f) (pl:=pl) aV.1 aV.2.1 aV.2.2.1 aV.2.2.2.1 aV.2.2.2.2.1 j (ay.2.2.2.2.1.on aJ).at_.m (ay.2.2.2.2.2.1.on aJ).at_.g (b8.on IK.drew).ints (D.on ay.2.2.2.2.2.2 (Fr.ext aJ))).mono ?_;rintro e aT ⟨rfl,bw⟩;have a3:=ai aJ (Fr.of (M:=λ_=>False) bw);have k:=λbi=>AU (s:=s) (nl:=ck.locals) (nk:=f.aw.length) aV.1 aV.2.2.1 (Int.le_refl _) aV.2.2.2.2.2 j bi;have Q:=wZ (u:=u) (s:=s) (f:=f) j;have r:=oJ (u:=u) (s:=s) (f:=f) j;generalize cF u s f pl=R at *;obtain⟨v,z⟩:=R;simp only at k Q r;have bs:=aL k Q r;clear k Q r aJ bw aI aj af be am aH d0 aP aQ c2 c3;obtain⟨aI,aj,af⟩:=((ay.2.1.aj a3.1).aj a3.2).two;obtain⟨d0,aP,aQ⟩:=((ay.2.2.2.1.aj a3.1).aj a3.2).two;refine dW hK ?_;clear hK K
  iterate 5 refine pf ?_
  refine aB ?_;by_cases bi:z=0
  .have cA:(z != 0)=false:=by simpa using bi
   have H:=bs.1 bi;have cH:=ae (bs.2.2 bi);subst bi;generalize aS:gm u.af pl.index=B at *;have a7:=ae aS;clear aS bs;go_wp2_with(fail);refine(AJ MA mn mc u.af pl.index aT ((ay.2.2.2.2.1.on a3.1).on a3.2).at_.m.uA aV.1.Ej bG).mono ?_;rintro e b4 ⟨rfl,bq⟩;rw[a7.o];have bl:=ae (((ay.1.trans a3.1).trans a3.2).trans (Fr.of bq));clear bq aI aj af d0 aP aQ;go_wp2
   go_ret2
   exact jV.mk' cH.o (Fr.ext bl.o)
  .have cA:(z != 0)=true:=by simpa using bi
   have cH:=ae (bs.2.1 bi);clear bi bs;go_wp2_with(fail)
   go_ret2
   exact jV.mk' cH.o (Fr.ext ((ay.1.trans a3.1).trans a3.2))
 ):p:=h
end z2
open z2 in
theorem lD(u:ax)(s:ah)(t:Int)(f:ao)(pl:bK)(N:Nat)(w:World)(p:UV)(q:SV)(QA:IP)(qm qc:Nat)(h:Gs u s t f pl N w p q QA qm qc) :
  Calls prog 75 #[.agg (p.val u),.agg (q.val s),.int .i64 t,.agg #[.bool pl.param,.int .i64 pl.index,.slice QA qm qc]] w (jV w (AT u s t pl)):=by
 obtain⟨hU,hS,H,ht,⟨ck,hp,hx⟩,hu,hs,bp⟩:=h;exact jq
end Go.Proofs.YtajlmkkidmjgoaaGreatDoor

/- Part 18 of the proof. No condition of its own. -/
import Derived.Test.YtflecliffjbleaaGreatS17
namespace Go.Proofs.YtflecliffjbleaaGreat
open Go.RowKit Go.Proofs.Tryz
set_option maxRecDepth 1000000
set_option maxHeartbeats 25600000
set_option linter.unusedVariables false
variable{t:Int}{O bn fc gn hn i ic l lc n tn:Nat}{GA HA IA TA:Mk}{rest:PT}{p:Prop}{w:World}{s:ai}{f:an}
theorem xX:cm prog 47 99 (.agg #[.int .i64 0,.int .i64 0,.slice none 0 0,.slice none 0 0]) 4 64:=cm.mk' Tryz.underlying47 (by kernel_rfl) rfl ad
theorem sR:cm prog 28 49 (.agg #[.slice none 0 0]) 1 24:=cm.mk' Tryz.underlying28 (by kernel_rfl) rfl ad
theorem Own.aj{ab:World}{e:TypeId}{z c:Nat}{A:Mk}{xs:List Value}{F:List Nat}(h:Own w e z A n c xs F)(he:Ext w ab):Own ab e z A n c xs F:=h.ak λb O=>he.block b (h.lt b O) λh=>h
abbrev JM(W:World)(s:ai)(gn tn:Nat)(N:Nat)(bc:Mk)(L:Nat)(a4:Mk)(S:Nat)(V:World):Prop:=Ext W V/\ao V N 30 #[.slice none 0 0,.slice none 0 0,.slice none 0 0,.int .i64 0]/\W.heap.size<=N/\Own V 3 1 bc gn L (s.globals.map dq) (bx bc gn L)/\Own V 95 2 a4 tn S (s.table.flatMap cb) (bx a4 tn S)/\(∀b∈bx bc gn L,W.heap.size<=b/\b≠N)/\(∀b∈bx a4 tn S,W.heap.size<=b/\b≠N/\b∉bx bc gn L)
structure HM(aW wr:World)(fs:List an)(j:Nat)(FA:Mk)(fc:Nat)(cG:List Value)(bE az:List Nat):Prop where
 ext:Ext aW wr
 o:Own wr 99 4 FA j fc cG bE
 f:kp pH wr (fs.take j) cG az
 nd:(bE++az).Nodup
 lo:∀b∈bE++az,aW.heap.size<=b/\b<wr.heap.size
theorem HM.aj{aW wr ab:World}{fs:List an}{j:Nat}{FA:Mk}{fc:Nat}{cG:List Value}{bE az:List Nat}(h:HM aW wr fs j FA fc cG bE az)(he:Ext wr ab):HM aW ab fs j FA fc cG bE az:=
 ⟨h.ext.trans he,h.o.aj he,h.f.ak pH.ak λb O=>he.block b (h.lo b (by simp[O])).2 λh=>h,h.nd,λb O=>⟨(h.lo b O).1,LC (h.lo b O).2 he.size⟩⟩
theorem HM.step{aW wr:World}{fs:List an}{j:Nat}{FA:Mk}{cG:List Value}{bE az:List Nat}(h:HM aW wr fs j FA fc cG bE az)(bv:fs[j]?=some f){a b c:World}{bB:Mk}
  (ar:Ext wr a) (hI:Own a 3 1 IA i ic (f.ints.map dq) (bx IA i ic)) (d:∀x∈bx IA i ic,wr.heap.size<=x/\x<a.heap.size) (al:i=f.ints.length)
  (bL:Ext a b) (bw:Own b 3 1 bB l lc (f.ax.map dq) (bx bB l lc)) (c3:∀x∈bx bB l lc,a.heap.size<=x/\x<b.heap.size) (hl:l=f.ax.length)
  {c5:Mk} {cY:Nat} (bn:Own c 99 4 c5 (j+1) cY (cG++[.int .i64 f.proc,.int .i64 f.pc,.slice IA i ic,.slice bB l lc]) (bx c5 (j+1) cY)) (J:Fr (λx=>x∈bE) b c) (r:∀x∈bx c5 (j+1) cY,x∈bE\/(b.heap.size<=x/\x<c.heap.size)) :
  HM aW c fs (j+1) c5 cY (cG++[.int .i64 f.proc,.int .i64 f.pc,.slice IA i ic,.slice bB l lc]) (bx c5 (j+1) cY) (az++(bx IA i ic++bx bB l lc)):=by
 have F:=h.ext.size;have s1:=ar.size;have s2:=bL.size;have cJ:=J.size;have O:=(h.aj ar).aj bL;have bm:∀x∈bE,x<wr.heap.size:=λx hx=>(h.lo x (by simp[hx])).2;have bl:∀x∈az,x∉bE:=λx hx ac=>(List.nodup_append.1 h.nd).2.2 x ac x hx rfl;have b3:pH c f [.int .i64 f.proc,.int .i64 f.pc,.slice IA i ic,.slice bB l lc] (bx IA i ic++bx bB l lc):=
  ⟨IA,i,ic,bB,l,lc,_,_,rfl,rfl,al,hl,(hI.aj bL).ak λx hx=>J.block x (aB (d x hx)) λac=>by have:=d x hx;have:=bm x ac;omega,bw.ak λx hx=>J.block x (c3 x hx).2 λac=>by have:=c3 x hx;have:=bm x ac;omega⟩
 refine⟨Fr.low (M:=λx=>x∈bE) (Fr.trans (Fr.mono O.ext λ_ h=>h.elim) J) λx hx=>(h.lo x (by simp[hx])).1,bn,?_,?_,λx hx=>?_⟩
 .rw[aU bv];exact(O.f.ak pH.ak λx hx=>J.block x (by have:=(h.lo x (by simp[hx])).2;omega) (bl x hx)).snoc b3
 .refine yh (a:=wr.heap.size) (b:=b.heap.size) h.nd (λx hx=>(h.lo x hx).2) (Il (m:=a.heap.size) (fb _ _ _) (fb _ _ _) (λx hx=>(d x hx).2) λx hx=>(c3 x hx).1) (λx hx=>?_) (fb _ _ _) (λx hx=>(r x hx).imp id λh=>h.1) ad;rcases LL.1 hx with hx|hx
  .have:=d x hx;omega
  .have:=c3 x hx;omega
 .simp only[LL] at hx;rcases hx with hx|hx|hx|hx
  .rcases r x hx with ac|ac
   .have:=h.lo x (by simp[ac]);omega
   .omega
  .have:=h.lo x (by simp[hx]);omega
  .have:=d x hx;omega
  .have:=c3 x hx;omega
section
variable {P:Program} {ops:Array Oper} {Q:Exit->Act->World->Prop} {R:World->World->Prop} {tails:List Nat}
theorem xm{α β γ δ ε:Type}{aa:α->β->γ->δ->ε->Act}{C:α->β->γ->δ->ε->World->Prop}{G:Prop}(h:(∀x y z u v V,C x y z u v V->cR P ops Q R tails rest (aa x y z u v) V)->G)(key:∀x y z u v V,C x y z u v V->cR P ops Q R tails rest (aa x y z u v) V):G:=h key
end
theorem JD{P:Program}{ops:Array Oper}{Q:Exit->Act->World->Prop}{R:World->World->Prop}{tails:List Nat}{a:Act}{W:World}(C:World->Prop)(hC:C W)(h:∀V,C V->cR P ops Q R tails rest a V):cR P ops Q R tails rest a W:=h W hC
def IW(w:World)(s:ai)(gn tn hn:Nat)(e:Ending)(ab:World):Prop:=∃GA gc TA tc HA hc xs F1 F2 bI b9,e=.returned (.agg #[.slice GA gn gc,.slice TA tn tc,.slice HA hn hc,.int .i64 s.fault])/\rh ab s GA gn gc TA tn tc HA hn hc xs F1 F2 bI b9/\(∀b∈F1++(F2++(bI++b9)),w.heap.size<=b/\b<ab.heap.size)/\Ext w ab
namespace Cn
theorem fO(h:p:=by
 refine ck ?_;generalize hX:World.setCell _ _ _=X;obtain⟨bC,bz,ct⟩:=bs (w:=W) [.slice bc gn L,.slice a4 tn S,.slice none 0 0,.int .i64 s.fault] (by rfl) al bo am hX;have aJ:=an.lt;have aS:=aT.lt;have n:GK W.heap.size X s bc gn L a4 tn S N 0 none 0 [] [] []:=by
  refine⟨⟨ca.1,ca.2.1,rfl,an.ak λb O=>ct.block b (aJ b O) (Z b O).2,aT.ak λb O=>ct.block b (aS b O) (z b O).2.1,⟨World.ownsRow_nil _ _ _ _,rfl⟩,⟨rfl,rfl⟩,?_⟩,bC,?_,λb O=>?_,am⟩
  .simp only[L6];exact List.nodup_append.2 ⟨fb _ _ _,fb _ _ _,λa br b O H=>(z b O).2.2 (H▸br)⟩
  .simp only[L6,LL];rintro(O|O)
   .exact(Z _ O).2 rfl
   .exact(z _ O).2.1 rfl
  .simp only[L6,LL] at O;have:=ct.size;rcases O with O|O
   .exact⟨(Z b O).1,by have:=aJ b O;omega⟩
   .exact⟨(z b O).1,by have:=aS b O;omega⟩
 obtain⟨a0,ak,af⟩:=(ag.2.1.aj bz).two;have aR:=ah n bz;clear d0 aK aO hX bC bz ct aJ aS n bo al an aT Z z;go_wp2_with(fail);clear a0 ak af;go_loopw [21] (λcw wr=>∃(k:Nat) (bl:Mk) (aX:Nat) (xs:List Value) (bI b9:List Nat),cw=.int .i64 k/\k<=hn/\GK W.heap.size wr s bc gn L a4 tn S N k bl aX xs bI b9/\Ext W wr) (λcw _=>hn - (intOf cw).toNat)
 case atStart=>exact⟨0,none,0,[],[],[],rfl,ad,aR.1,aR.2⟩
 case round=>
  obtain⟨k,bl,aX,xs,bI,b9,rfl,aj,hC,e⟩:=hrel;obtain⟨T,rfl⟩:∃T,T=wr:=⟨wr,rfl⟩
  clear aR;have bW:=ah hC e;have cu:N<T.heap.size:=hC.o.lt;by_cases ap:k<hn
  .obtain⟨b,o,fs,bf,m,c0,rfl,O,bv,bg,hm,bu⟩:=(ag.2.2.2.on e).h.vn ap;have ci:b<T.heap.size:=O;have bY:m=fs.length:=by have:=bu.1;simpa using this.symm
   have aU:=a7.f fs (LF bv);have cd:m<=1000000:=by have:=aU.1;omega
   have bT:=bA bv bu bY aU.2;clear hC e O bv bu bY aU;go_upto_region 6 with(fail);generalize hV:World.alloc _ _=V;have bo:=aZ hV;have b5:=aN hV;have cc:=ah bo (bT.2.1.on (Fr.ext bo));obtain⟨d0,aK,aO⟩:=b5.two;clear hV bo b5 bg;go_wp2_with(fail);clear d0 aK aO;go_loopw [6,28] (λbQ bR wr=>∃(j:Nat) (FA:Mk) (fc:Nat) (cG:List Value) (bE az:List Nat),bQ=.slice FA j fc/\bR=.int .i64 j/\j<=m/\HM V wr fs j FA fc cG bE az) (λ_ bR _=>m - (intOf bR).toNat)
   case atStart=>exact⟨0,none,0,[],[],[],rfl,rfl,ad,Mg,⟨World.ownsRow_nil _ _ _ _,rfl⟩,⟨rfl,rfl⟩,by simp,λb O=>by simp at O⟩
   case round=>
    obtain⟨j,FA,fc,cG,bE,az,rfl,rfl,bi,hI⟩:=hrel;have cM:=ae hI;by_cases b3:j<m
    .obtain⟨ch,dc,f,IA,i,ic,bB,l,lc,rfl,cA,g,c0,c1,c2,c3,aL,aY,aG,cr⟩:=(cc.2.on (Fr.ext hI.ext)).Hv b3;have bb:ch<wr.heap.size:=cA;have cE:i=f.ints.length:=by have:=aG.1;simpa using this.symm
     have bG:l=f.ax.length:=by have:=cr.1;simpa using this.symm
     have a9:=bT.2.2.2 f (LF g);have b2:i<=100000:=ad;have bq:l<=100000:=ad;have bS:=aA g cE bG;have ax:=ah aG cr;clear hI cA g cE bG a9 aG cr aL aY;go_upto_region 9 with(fail);generalize hU:World.alloc _ _=U;have cl:=aZ hU;have cV:=aN hU;have cz:=aA (cM.aj cl) (ax.1.on (Fr.ext cl)) (ax.2.on (Fr.ext cl));obtain⟨d0,aK,aO⟩:=cV.two;clear hU cl cV c0 c1 c2 c3 ax;refine eK (λ_=>False) [(0,3),(1,3),(2,0),(3,3),(4,0),(5,3),(6,0),(8,3),(9,0),(7,1),(10,1),(11,3),(12,2),(13,2),(14,3)] ?_
     iterate 2 refine pf ?_
     refine ph ?_;refine pf ?_;refine ph ?_;refine pf ?_;refine ph ?_;refine pf ?_;refine ph ?_;refine aI rfl (λK hK=>?_);go_simp;refine(Sl.nE (Sl.on cz.2.1 (Fr.ext (Fr.refl _ U).drew)) ad).mono ?_;rintro r aP ⟨E,cR,rfl,u,be,ar⟩;have H1:=aA u be ar;refine dP hK (ar) ?_;clear hK K;clear u be ar;refine aI rfl (λK hK=>?_);go_simp;refine(Sl.nE (Sl.on cz.2.2 (Fr.ext (Fr.aF H1.2.2))) ad).mono ?_;rintro r aW ⟨ba,b8,rfl,b1,ay,bL⟩;have bZ:=aA b1 ay bL;refine dP hK (bL) ?_;clear hK K;clear b1 ay bL;have ab:=((cz.1.o.aj (Fr.aF H1.2.2)).aj bZ.2.2)
     refine pf ?_;refine au rfl (λK hK=>?_);go_simp;refine dU hK ?_;clear hK K;refine au rfl (λK hK=>?_);rw[if_pos (by rfl)];refine yC xX (.tmp 32) (.tmp 44) rfl ab (cs:=#[.int .i64 f.proc,.int .i64 f.pc,.slice E i cR,.slice ba l b8]) rfl rfl rfl (by simp[Value.oneCell']) ad ad ?_;intro c5 cY b4 ce g2 cN;refine dU hK ?_;clear hK K;refine pf ?_;refine aC ?_;have a2:=ae (cz.1.step bS.1 (Fr.aF H1.2.2) H1.1 (λx hx=>H1.2.1 x hx) bS.2.1 bZ.2.2 bZ.1 bZ.2.1 bS.2.2 ce g2 cN);clear ce g2 cN ab d0 aK aO;go_wp2_with(fail);go_roundw
     case rel=>exact⟨j+1,c5,cY,_,_,_,rfl,by go_num,ad,a2.o⟩
     case measure=>exact aE
    .obtain rfl:j=m:=ad;have y:Ext T wr:=cc.1.trans hI.ext;have G:=ae (bW.1.aj y);have bj:=ae y;obtain⟨d0,aK,aO⟩:=G.o.o.two;have cg:=G.st.h;have fh:N∉bI:=λh=>G.ne (by simp[h]);clear hI y;go_wp2_with(at_builtin;refine oL sR rfl (.tmp 48) (.tmp 51) rfl cg (cs:=#[.slice FA j fc]) rfl rfl rfl (by simp[Value.oneCell']) ad ad ?_;intro co cf b4 ce g2 cN;have bU:=G.o.o.on g2 fh;have I:=bA ce g2 cN bU;clear ce g2 cN d0 aK aO;obtain⟨e0,a6,aQ⟩:=bU.two;clear bU);go_roundw
     case rel=>
      have aw:=cM.f;rw[LK (aB bT.2.2.1)] at aw;have bm:=cM.lo;have dj:=cc.1.size;exact⟨k+1,co,cf,_,_,_,by go_num,ad,bW.1.step bT.1 bj.o cM.o.o aw bT.2.2.1 cM.nd (λb O=>⟨by have:=bm b O;omega,(bm b O).2⟩) I.1 I.2.1 I.2.2.1 rfl,
       Fr.low (M:=λb=>b∈bI\/b=N) (Fr.trans (Fr.mono (bW.2.trans bj.o) λ_ h=>h.elim) (Fr.setCell (Fr.mono I.2.1 λ_ h=>.inl h) (.inl (.inr rfl)) _)) λb O=>by
        rcases O with O|O
        .exact(bW.1.lo b (by simp[O])).1
        .rw[O];exact bW.1.go⟩
     case measure=>exact aE
  .obtain rfl:k=hn:=ad;obtain⟨d0,aK,aO⟩:=hC.o.two;have a1:=ag.2.2.1.aj e;obtain⟨bp,aM,aV⟩:=a1.two;have J:=ag.1.trans e;have bH:=ah a1 J;clear hC e a1 J;go_wp2_with(fail);generalize cq:World.setCell _ _ _=Y;obtain⟨bD,bx,bJ⟩:=bs (w:=w) [.slice bc gn L,.slice a4 tn S,.slice bl k aX,.int .i64 s.fault] (by rfl) bH.1 bH.2 ad cq;have bF:=ah bx bJ;clear cq bx bJ d0 aK aO bp aM aV;obtain⟨bp,aM,aV⟩:=bD.two;refine Mf (v:=.agg #[.slice bc gn L,.slice a4 tn S,.slice bl k aX,.int .i64 s.fault]) (by simp[results,Tryz.results50,go_sem,bp]) rfl ?_;have cm:=bW.1.st;rw[LK (aB ca.2.2)] at cm;have bm:=bW.1.lo;have cS:=a8.o;refine⟨bc,L,a4,S,bl,aX,xs,_,_,bI,b9,rfl,cm.ak λb O=>bF.2.block b (bm b O).2 (aB (bm b O)),λb O=>?_,bF.1⟩;have:=bm b O;have:=bF.2.size;omega
 ):p:=h
end Cn
open Cn in
theorem fT(s:ai)(GA TA HA:Mk)(gn gc tn tc hn hc:Nat)(w:World)(h:l0 w (av w) s GA gn TA tn HA hn)(b7:Small s) :
  Calls prog 50 #[.agg #[.slice GA gn gc,.slice TA tn tc,.slice HA hn hc,.int .i64 s.fault]] w (IW w s gn tn hn):=by
 have vz:gn=s.globals.length:=by have:=h.g.1;simpa using this.symm
 have vA:tn=s.table.length:=by have:=h.t.1;simpa using this.symm
 have uz:hn=s.threads.length:=by have:=h.h.1;simpa using this.symm
 have cO:gn<=100000:=by have:=b7.g;omega
 have bO:tn<=5000:=by have:=b7.t;omega
 have dr:hn<=1000:=by have:=b7.h;omega
 have ca:=aA vz vA uz;obtain⟨a7,a3⟩:=aH b7 h;clear h b7 vz vA uz;go_enter func50,ntmps50;go_upto_region 1 with(fail);generalize bd:World.alloc _ _=W;have aF:=hi bd;have cn:=fx bd;have bV:=eX bd;have cS:W.heap.size=w.heap.size+2:=by rw[<-bd];simp
 have ag:=bA aF cn bV (a3.on aF);obtain⟨a0,ak,af⟩:=cn.two;have a8:=ae cS;clear bd aF cn bV cS;refine tw (λ_=>False) [10] (.free 0 (.held 1 (.free 3 (.held 4 (.free 6 (.held 7 (.pick [2,9] (λi=>bif i == 2 then .pick [5,9] (λi=>bif i == 5 then .free 8 (.pick [9] (λ_=>.pick [10] (λ_=>.stop))) else .pick [5] (λ_=>.free 8 (.pick [10] (λ_=>.stop)))) else .pick [2] (λ_=>.pick [5] (λ_=>.free 8 (.pick [10] (λ_=>.stop)))))))))))) ?_;refine tf ?_;refine th ?_;refine tf ?_;refine th ?_;refine tf ?_;refine th ?_;refine xm (P:=?P1) (ops:=?o1) (Q:=?q1) (R:=?r1) (tails:=?t1) (rest:=.pick [10] (λ_=>.stop)) (aa:=?aa) (C:=JM W s gn tn) (λkey=>?main) ?key
 case main=>
  refine a5 ?_ ?_
  ·
   refine aD rfl (λK hK=>?_) rfl;go_simp;refine(Sl.nE (ag.2.2.2.on (Fr.refl _ W).drew).g ad).mono ?_;rintro r aP ⟨bc,L,rfl,u,be,ar⟩;have s1:=ar.size;have q1:W.drew.heap.size=W.heap.size:=rfl;refine dP hK (ar) ?_;clear hK K;refine a5 ?_ ?_
   ·
    refine aD rfl (λK hK=>?_) rfl;go_simp;refine(Sl.wi (ag.2.2.2.on (Fr.aF ar)).t ad).mono ?_;rintro r aW ⟨a4,S,rfl,b1,ay,bL⟩;have s2:=bL.size;refine dP hK (bL) ?_;clear hK K;refine tf ?_;refine aq ?_;refine eu ?_;have hC:JM W s gn tn (aW.heap.size) bc L a4 S (aW.alloc (.cells #[.slice none 0 0,.slice none 0 0,.slice none 0 0,.int .i64 0] 30)):=by
     refine⟨((Fr.aF ar).trans bL).alloc _,Mh,ad,(u.aj bL).aj (Mg.alloc _),b1.aj (Mg.alloc _),λb O=>?_,λb O=>⟨?_,?_,λac=>?_⟩⟩
     .have:=be b O;omega
     .have:=ay b O;omega
     .have:=ay b O;omega
     .have:=ay b O;have:=be b ac;omega
    generalize aW.heap.size=de at hC ⊢;exact key de bc L a4 S _ hC
   ·
    refine eu ?_;refine JD (λV=>Ext aP V/\ao V aP.heap.size 30 #[.slice none 0 0,.slice none 0 0,.slice none 0 0,.int .i64 0]/\aP.heap.size<V.heap.size) ⟨Mg.alloc _,Mh,(Mh).lt⟩ (λV hV=>?_);refine aq ?_;refine aD rfl (λK hK=>?_) rfl;go_simp;refine(Sl.wi ((ag.2.2.2.on (Fr.aF ar)).on hV.1).t ad).mono ?_;rintro r aW ⟨a4,S,rfl,b1,ay,bL⟩;have s2:=bL.size;have cJ:=hV.1.size;refine dP hK (bL) ?_;clear hK K;refine tf ?_;have hC:JM W s gn tn (aP.heap.size) bc L a4 S aW:=by
     refine⟨((Fr.aF ar).trans hV.1).trans bL,hV.2.1.aj bL,ad,(u.aj hV.1).aj bL,b1,λb O=>?_,λb O=>⟨?_,?_,λac=>?_⟩⟩
     .have:=be b O;omega
     .have:=ay b O;omega
     .have:=ay b O;have:=hV.2.2;omega
     .have:=ay b O;have:=be b ac;omega
    generalize aP.heap.size=de at hC ⊢;exact key de bc L a4 S _ hC
  ·
   refine eu ?_;refine JD (λV=>Ext W V/\ao V W.heap.size 30 #[.slice none 0 0,.slice none 0 0,.slice none 0 0,.int .i64 0]/\W.heap.size<V.heap.size) ⟨(Mg.drew).alloc _,ao.new W.drew _ _,(ao.new W.drew _ _).lt⟩ (λV hV=>?_);refine aq ?_;refine aD rfl (λK hK=>?_) rfl;go_simp;refine(Sl.nE (ag.2.2.2.on hV.1).g ad).mono ?_;rintro r aP ⟨bc,L,rfl,u,be,ar⟩;have s1:=ar.size;have F:=hV.1.size;refine dP hK (ar) ?_;clear hK K;refine aq ?_;refine aD rfl (λK hK=>?_) rfl;go_simp;refine(Sl.wi ((ag.2.2.2.on hV.1).on ar).t ad).mono ?_;rintro r aW ⟨a4,S,rfl,b1,ay,bL⟩;have s2:=bL.size;refine dP hK (bL) ?_;clear hK K;refine tf ?_;have hC:JM W s gn tn (W.heap.size) bc L a4 S aW:=by
    refine⟨(hV.1.trans ar).trans bL,(hV.2.1.aj ar).aj bL,ad,u.aj bL,b1,λb O=>?_,λb O=>⟨?_,?_,λac=>?_⟩⟩
    .have:=be b O;have:=hV.2.2;omega
    .have:=ay b O;omega
    .have:=ay b O;have:=hV.2.2;omega
    .have:=ay b O;have:=be b ac;omega
   generalize W.heap.size=de at hC ⊢;exact key de bc L a4 S _ hC
 intro N bc L a4 S V ⟨bo,al,am,an,aT,Z,z⟩;obtain⟨d0,aK,aO⟩:=al.two;clear a0 ak af;exact gr
def zL(w:World)(op num:Int)(ha:ByteArray)(l:List VE)(e:Ending)(ab:World):Prop:=∃A n c,e=.returned (.agg #[.int .i64 op,.int .i64 num,.string ha,.slice A n c])/\n<=c/\Sl ab (fresh w ab) A n (l.map bk)/\Ext w ab
def xB(x:VE):Prop:=∀(w:World) (A:Mk) (n c:Nat),Sl w (av w) A n (x.args.map bk)->Calls prog 74 #[.agg #[.int .i64 x.a2,.int .i64 x.numOf,.string x.bt,.slice A n c]] w (zL w x.a2 x.numOf x.bt x.args)
namespace Co
theorem dd(h:p:=by
 generalize hX:World.setCell aW _ _=Y;have bJ:=cJ hX;have S:=ae (show Ext w Y/\ao Y w.heap.size 56 #[.int .i64 op,.int .i64 num,.string ha,.slice cD (k+1) c3]/\ao Y (w.heap.size+1) 56 #[.int .i64 0,.int .i64 0,.string ⟨#[]⟩,.slice none 0 0]/\Gr (λb=>w.heap.size+2<=b) (w.heap.size+2) 56 4 Y cD (k+1) c3 ((l.take (k+1)).map bk) from
  ⟨Fr.low (M:=λb=>b=w.heap.size) (Fr.trans (Fr.mono bZ.1 λ_ h=>h.elim) bJ) λb O=>ad,by rw[<-hX];exact bZ.2.1.aJ 3 _,bZ.2.2.1.on bJ ad,by
   rw[aU bF.1,LJ];exact bZ.2.2.2.cS bJ λb O _=>⟨ad,ad⟩⟩)
 clear hX bJ a0 ak af bU;go_wp2;go_roundw
 case rel=>exact⟨k+1,cD,c3,by go_num,ad,S.o⟩
 case measure=>exact aE
 ):p:=h
theorem sN(h:p:=by
 have bF:=ah bb bl;have bW:=ae (cM.o y (LF bb));clear bb aa bl Z bq O aF aS cB hG;go_upto_region 6 with(fail);generalize hU:World.alloc _ _=U;have cl:=aZ hU;have cV:=aN hU;have c7:=cl.size;have bV:=aR.2.1.aj cl;have cz:=cX (aR.1.trans cl) bV (aR.2.2.1.aj cl) (aR.2.2.2.aj cl) (bF.2.on (Fr.ext cl));obtain⟨d0,aK,aO⟩:=cV.two;obtain⟨a0,ak,af⟩:=bV.two;clear hU cl cV bV c0 c1 c2 c3 a4;refine eK (λ_=>False) [(0,3),(1,0),(2,0),(3,1),(4,1),(5,2),(6,3),(7,2)] ?_;refine pf ?_
 iterate 2 refine ph ?_
 refine aI rfl (λK hK=>?_);go_simp;refine(bW.o _ _ _ _ (cz.2.2.2.2.on (Fr.ext (Fr.refl _ U).drew))).mono ?_;rintro e aP ⟨bX,b6,zc,rfl,bM,cT,ar⟩;have H1:=aA cT bM ar;refine dP hK (ar) ?_;clear hK K;have aL:Ext U aP:=Fr.aF ar;have r:=cz.2.2.2.1.aj aL;have cg:=aL.size;have az:∀b,(Value.slice I k aD).ownBlock=some b->b<U.heap.size:=λb O=>(cz.2.2.2.1.lt O).2;have hd:(bk y).rep aP (ly (λb=>w.heap.size+2<=b) aP (.slice I k aD)) (#[.int .i64 y.a2,.int .i64 y.numOf,.string y.bt,.slice bX b6 zc]:Array Value).toList:=
  aX.2 ⟨bX,b6,zc,rfl,bM,cT.mono λb O=>⟨by have:=O.1;have:U.drew.heap.size=U.heap.size:=rfl;omega,O.2,λh=>by have:=az b h;have:=O.1;have:U.drew.heap.size=U.heap.size:=rfl;omega⟩⟩
 have a2:=ah r hd;clear cT bM ar r hd az;refine ry ?_;refine au rfl (λK hK=>?_);rw[if_pos (by rfl)];refine q8 pR (.tmp 16) (.tmp 19) rfl a2.1 a2.2 rfl rfl rfl ad ad ad ?_;intro cD c3 aW ce g2 cN cZ;have bm:∀b,(Value.slice I k aD).ownBlock=some b->w.heap.size+2<=b:=λb O=>(a2.1.lt O).1;have bU:=(cz.2.1.aj aL).on g2 (λh=>by have:=bm _ h;omega);have cC:=(cz.2.2.1.aj aL).on g2 (λh=>by have:=bm _ h;omega);have a3:Ext w aW:=Fr.low (M:=λb=>(Value.slice I k aD).ownBlock=some b) (Fr.trans (Fr.mono (cz.1.trans aL) λ_ h=>h.elim) g2) λb O=>by have:=bm b O;omega
 have bZ:=bA a3 bU cC ce;clear ce g2 cN cZ bm cC a3 a0 ak af d0 aK aO;obtain⟨a0,ak,af⟩:=bU.two;exact ny
 ):p:=h
end Co
open Co in
theorem fY(op num:Int)(ha:ByteArray)(l:List VE)(aq:∀y∈l,xB y)(hl:l.length<=2)(w:World)(A:Mk)(n c:Nat)(h:Sl w (av w) A n (l.map bk)) :
  Calls prog 74 #[.agg #[.int .i64 op,.int .i64 num,.string ha,.slice A n c]] w (zL w op num ha l):=by
 have hn:n<=2:=by have:=h.1;simp at this;omega
 have f:=ae (show l.length=n by have:=h.1;simpa using this);obtain⟨H,cM⟩:=aH h aq;clear h aq hl;go_enter func74,ntmps74;go_upto_region 1 with(fail);generalize bd:World.alloc _ _=W;have m:=hi bd;have bS:=fx bd;have i:=eX bd;obtain⟨a0,ak,af⟩:=bS.two;clear bd;go_upto_region 3 with(fail);generalize hX:World.setCell _ _ _=X;have J:=cJ hX;have aF:Ext w X:=Fr.low (M:=λb=>b=w.heap.size) (Fr.trans (Fr.mono m λ_ h=>h.elim) J) λb O=>ad;have aS:ao X w.heap.size 56 #[.int .i64 op,.int .i64 num,.string ha,.slice none 0 0]:=hX▸bS.aJ 3 _;have cB:ao X (w.heap.size+1) 56 #[.int .i64 0,.int .i64 0,.string ⟨#[]⟩,.slice none 0 0]:=i.on J ad;clear J m bS i a0 ak af;have aR:=aA aF aS cB;clear hX aF aS cB;go_wp2_with(fail);go_loopw [11] (λcw wr=>∃(k:Nat) (I:Mk) (aD:Nat),cw=.int .i64 k/\k<=n/\Ext w wr/\ao wr w.heap.size 56 #[.int .i64 op,.int .i64 num,.string ha,.slice I k aD]/\ao wr (w.heap.size+1) 56 #[.int .i64 0,.int .i64 0,.string ⟨#[]⟩,.slice none 0 0]/\Gr (λb=>w.heap.size+2<=b) (w.heap.size+2) 56 4 wr I k aD ((l.take k).map bk)) (λcw _=>n - (intOf cw).toNat)
 case atStart=>exact⟨0,none,0,rfl,ad,aR.1,aR.2.1,aR.2.2,Gr.nil _ _ _ _ _⟩
 case round=>
  obtain⟨k,I,aD,rfl,aj,aF,aS,cB,hG⟩:=hrel;clear aR;have aR:=bA aF aS cB hG;have cf:=cB.lt;by_cases ap:k<n
  .obtain⟨b,o,y,cs,rfl,O,bb,aa,bq,Z⟩:=(H.on (Fr.ext aF)).g9 db ap;exact sM
  .obtain rfl:k=n:=ad;obtain⟨a0,ak,af⟩:=aS.two;obtain⟨bp,aM,aV⟩:=cB.two;clear aF aS cB hG;go_wp2_with(fail);generalize hX:World.setCell _ _ _=Y;obtain⟨bD,bx,bJ⟩:=bs (w:=w) [.int .i64 op,.int .i64 num,.string ha,.slice I k aD] (by rfl) aR.2.2.1 aR.1 ad hX;have bF:=ah bx bJ;clear hX bx bJ a0 ak af bp aM aV;obtain⟨bp,aM,aV⟩:=bD.two;refine Mf (v:=.agg #[.int .i64 op,.int .i64 num,.string ha,.slice I k aD]) (by simp[results,Tryz.results74,go_sem,bp]) rfl ?_;have aY:=aR.2.2.2.cS bF.2 λb O _=>⟨ad,ad⟩
   rw[LK (aB f.o)] at aY;exact⟨I,k,aD,rfl,aY.cap.1,aY.sl (λb ap O=>⟨ad,ap⟩) (λb ap O=>⟨ad,ap⟩),bF.1⟩
theorem jM:∀x:VE,xB x
 | .num n=>λw A m c h=>fY 1 n ⟨#[]⟩ [] (by simp) (by simp) w A m c h
 | .ha s=>λw A m c h=>fY 2 0 s [] (by simp) (by simp) w A m c h
 | .loc k=>λw A m c h=>fY 18 k ⟨#[]⟩ [] (by simp) (by simp) w A m c h
 | .iK k=>λw A m c h=>fY 19 k ⟨#[]⟩ [] (by simp) (by simp) w A m c h
 | .un op x=>λw A m c h=>fY op 0 ⟨#[]⟩ [x] (λy bb=>by rw[Ma.1 bb];exact jM x) (by simp) w A m c h
 | .bin op x y=>λw A m c h=>fY op 0 ⟨#[]⟩ [x,y] (λz aG=>by
   simp only[LS,List.not_mem_nil,or_false] at aG;rcases aG with aG|aG
   .rw[aG];exact jM x
   .rw[aG];exact jM y) (by simp) w A m c h
theorem zd(o:Option VE)(w:World)(eo en:Int)(es:ByteArray)(A:Mk)(n c:Nat)(h:(oS o).rep w (av w) [.int .i64 eo,.int .i64 en,.string es,.slice A n c]) :
  Calls prog 74 #[.agg #[.int .i64 eo,.int .i64 en,.string es,.slice A n c]] w λe ab=>∃I aQ aD,e=.returned (.agg #[.int .i64 eo,.int .i64 en,.string es,.slice I aQ aD])/\(oS o).rep ab (fresh w ab) [.int .i64 eo,.int .i64 en,.string es,.slice I aQ aD]/\Ext w ab:=by
 cases o with
 | none=>
  obtain⟨A2,c2,e⟩:=fv.1 h;simp only[List.cons.injEq,and_true] at e;obtain⟨e1,e2,e3,bH⟩:=e;injection e1 with _ e1;injection e2 with _ e2;injection e3 with e3;injection bH with bH cq cu;subst e1 e2 e3 bH cq cu;refine(fY 0 0 ⟨#[]⟩ [] (by simp) (by simp) w _ 0 c (Sl.bT _)).mono ?_;rintro e ab ⟨I,aQ,aD,rfl,ac,ax,a1⟩;obtain rfl:aQ=0:=ax.1.symm
  exact⟨I,0,aD,rfl,fv.2 ⟨I,aD,rfl⟩,a1⟩
 | some x=>
  obtain⟨A2,n2,c2,e,hc,hs⟩:=aX.1 h;simp only[List.cons.injEq,and_true] at e;obtain⟨e1,e2,e3,bH⟩:=e;injection e1 with _ e1;injection e2 with _ e2;injection e3 with e3;injection bH with bH cq cu;subst e1 e2 e3 bH cq cu;refine(jM x w _ _ _ hs).mono ?_;rintro e ab ⟨I,aQ,aD,rfl,ac,ax,a1⟩;exact⟨I,aQ,aD,rfl,aX.2 ⟨I,aQ,aD,rfl,ac,ax⟩,a1⟩
def HO(w:World)(l:List VE)(e:Ending)(ab:World):Prop:=∃A n c,e=.returned (.slice A n c)/\n<=c/\Sl ab (fresh w ab) A n (l.map bk)/\Ext w ab
namespace Cp
theorem sN(h:p:=by
 have bF:=ah bb bl;clear bb aa bl Z bq O aF hG;go_upto_region 5 with(fail);generalize hU:World.alloc _ _=U;have cl:=aZ hU;have cV:=aN hU;have c7:=cl.size;have cz:=aA (aR.1.trans cl) (aR.2.aj cl) (bF.2.on (Fr.ext cl));obtain⟨d0,aK,aO⟩:=cV.two;clear hU cl cV c0 c1 c2 c3 a4;go_wp2_with(fail);refine(jM y _ _ _ _ cz.2.2).mono ?_;rintro e aP ⟨bX,b6,zc,rfl,bM,cT,aL⟩;have r:=cz.2.1.aj aL;have cg:=aL.size;have az:∀b,(Value.slice I k aD).ownBlock=some b->b<U.heap.size:=λb O=>(cz.2.1.lt O).2;have hd:(bk y).rep aP (ly (λb=>w.heap.size<=b) aP (.slice I k aD)) (#[.int .i64 y.a2,.int .i64 y.numOf,.string y.bt,.slice bX b6 zc]:Array Value).toList:=
  aX.2 ⟨bX,b6,zc,rfl,bM,cT.mono λb O=>⟨by have:=O.1;omega,O.2,λh=>by have:=az b h;have:=O.1;omega⟩⟩
 have H1:=aA (cz.1.trans aL) r hd;clear cT bM aL r hd az d0 aK aO;go_wp2_with(at_builtin;refine bI pR rfl (.tmp 12) (.tmp 15) rfl H1.2.1 H1.2.2 rfl rfl rfl ad ad ad ?_;intro cD c3 aW ce g2 cN cZ;have ca:=ah ce g2;clear ce g2 cN cZ);have bm:∀b,(Value.slice I k aD).ownBlock=some b->w.heap.size<=b:=λb O=>(H1.2.1.lt O).1;have aT:Ext w aW:=Fr.low (M:=λb=>(Value.slice I k aD).ownBlock=some b) (Fr.trans (Fr.mono H1.1 λ_ h=>h.elim) ca.2) λb O=>bm b O;have a7:=ae aT;clear bm aT;go_roundw
 case rel=>exact⟨k+1,cD,c3,rfl,by go_num,ad,a7.o,by rw[aU bF.1,LJ];exact ca.1⟩
 case measure=>exact aE
 ):p:=h
end Cp
open Cp in
theorem qt(l:List VE)(hl:l.length<=100000)(w:World)(A:Mk)(n c:Nat)(h:Sl w (av w) A n (l.map bk)) :
  Calls prog 76 #[.slice A n c] w (HO w l):=by
 have cu:l.length=n:=by have:=h.1;simpa using this
 have hn:n<=100000:=ad;obtain⟨f,H⟩:=aH cu h;clear h hl cu;go_enter func76,ntmps76;go_wp2_with(fail);go_loopw [3,8] (λsv cw wr=>∃(k:Nat) (I:Mk) (aD:Nat),sv=.slice I k aD/\cw=.int .i64 k/\k<=n/\Ext w wr/\Gr (λb=>w.heap.size<=b) w.heap.size 56 4 wr I k aD ((l.take k).map bk)) (λ_ cw _=>n - (intOf cw).toNat)
 case atStart=>exact⟨0,none,0,rfl,rfl,ad,Mg,Gr.nil _ _ _ _ _⟩
 case round=>
  obtain⟨k,I,aD,rfl,rfl,aj,aF,hG⟩:=hrel;have aR:=ah aF hG;have ns:=aF.size;by_cases ap:k<n
  .obtain⟨b,o,y,cs,rfl,O,bb,aa,bq,Z⟩:=(H.on (Fr.ext aF)).g9 db ap;exact sM
  .obtain rfl:k=n:=ad;clear aF hG;go_wp2_with(fail);go_ret;have aY:=aR.2;rw[LK (aB f.o)] at aY;exact⟨I,k,aD,rfl,aY.cap.1,aY.sl (λb ap O=>⟨O,ap⟩) (λb ap O=>⟨O,ap⟩),aR.1⟩
theorem qv(p:bP)(w:World)(A:Mk)(n c:Nat)(h:(ds p).rep w (av w) [.bool p.param,.int .i64 p.index,.slice A n c]) :
  Calls prog 75 #[.agg #[.bool p.param,.int .i64 p.index,.slice A n c]] w λe ab=>∃I aQ aD,e=.returned (.agg #[.bool p.param,.int .i64 p.index,.slice I aQ aD])/\(ds p).rep ab (fresh w ab) [.bool p.param,.int .i64 p.index,.slice I aQ aD]/\Ext w ab:=by
 obtain⟨A2,n2,c2,e,hc,hs⟩:=dZ.1 h;simp only[List.cons.injEq,and_true,true_and] at e;injection e with bH cq cu;subst bH cq cu;have H:=ae hs;have hj:p.at_.toList.length<=100000:=by cases p.at_<;>simp
 clear h hs hc;generalize j:p.param=pb;generalize k:p.index=pi;have cj:=ah j k;clear j k;go_enter func75,ntmps75;go_upto_region 1 with(fail);generalize bd:World.alloc _ _=W;have m:=hi bd;have bS:=fx bd;have i:=eX bd;have ag:=bA m bS i (H.on (Fr.ext m));have cS:=i.lt;obtain⟨a0,ak,af⟩:=bS.two;clear bd m bS i;go_wp2_with(fail);refine(qt _ hj W _ _ _ ag.2.2.2).mono ?_;rintro e aP ⟨bX,b6,zc,rfl,bM,cT,aL⟩;have cg:=aL.size;have cn:=ag.2.1.aj aL;have f:=ag.2.2.1.aj aL;have H1:=cX (ag.1.trans aL) bM cT cn f;clear a0 ak af;obtain⟨a0,ak,af⟩:=cn.two;clear cn f aL bM cT;go_upto_region 2 with(fail);generalize hX:World.setCell _ _ _=X;have J:=cJ hX;have aF:Ext w X:=Fr.low (M:=λb=>b=w.heap.size) (Fr.trans (Fr.mono H1.1 λ_ h=>h.elim) J) λb O=>ad;have aS:ao X w.heap.size 58 #[.bool pb,.int .i64 pi,.slice bX b6 zc]:=hX▸H1.2.2.2.1.aJ 2 _;have cB:ao X (w.heap.size+1) 58 #[.bool false,.int .i64 0,.slice none 0 0]:=H1.2.2.2.2.on J ad;have aR:=aA aF J cB;clear hX a0 ak af;obtain⟨a0,ak,af⟩:=aS.two;obtain⟨bp,aM,aV⟩:=cB.two;clear J aF aS cB;go_wp2_with(fail);generalize hX:World.setCell _ _ _=Y;obtain⟨bD,bx,bJ⟩:=bs (w:=w) [.bool pb,.int .i64 pi,.slice bX b6 zc] (by rfl) aR.2.2 aR.1 ad hX;have bF:=ah bx bJ;clear hX bx bJ a0 ak af bp aM aV;obtain⟨bp,aM,aV⟩:=bD.two;refine Mf (v:=.agg #[.bool pb,.int .i64 pi,.slice bX b6 zc]) (by simp[results,Tryz.results75,go_sem,bp]) rfl ?_;have aG:w.heap.size+1<aP.heap.size:=ad;refine⟨bX,b6,zc,rfl,?_,bF.1⟩;rw[<-cj.1,<-cj.2]
 refine dZ.2 ⟨bX,b6,zc,rfl,H1.2.1,(H1.2.2.1.ak λb O=>(bF.2.block b (nz O.2 aR.2.1.size) (aB O.1)).trans (aR.2.1.block b O.2 (aB O.1))).mono λb O=>⟨by have:=O.1;omega,by have:=O.2;have:=aR.2.1.size;have:=bF.2.size;omega⟩⟩
structure rD(w:World)(s:ai)(t:Int)(f:an)(O bn hn ch dc n fc:Nat)(IA:Mk)(i ic:Nat)(bB:Mk)(l lc:Nat):Prop where
 fault:s.fault=0
 t0:0<=t
 tn:t<hn
 lb:O<w.heap.size
 lf:ch<w.heap.size
 cell:w.cell? ⟨O,bn+t.toNat,none⟩=some (.slice (some ⟨ch,dc,none⟩) (n+1) fc)
 c0:w.cell? ⟨ch,dc+n*4,none⟩=some (.int .i64 f.proc)
 c1:w.cell? ⟨ch,dc+n*4+1,none⟩=some (.int .i64 f.pc)
 c2:w.cell? ⟨ch,dc+n*4+2,none⟩=some (.slice IA i ic)
 c3:w.cell? ⟨ch,dc+n*4+3,none⟩=some (.slice bB l lc)
 KY:i<=ic
 lcs:l<=lc
 ints:Sl w (av w) IA i (f.ints.map D.i)
 ax:Sl w (av w) bB l (f.ax.map D.i)
 th:∃fs,s.threads[t.toNat]?=some (fs++[f])/\fs.length=n
 n1:n+1<=fc
 nb:n<=1000000
theorem rD.on{w ab:World}{s:ai}{t:Int}{f:an}{O bn hn ch dc n fc:Nat}{IA:Mk}{i ic:Nat}{bB:Mk}{l lc:Nat}(h:rD w s t f O bn hn ch dc n fc IA i ic bB l lc)(he:Ext w ab):rD ab s t f O bn hn ch dc n fc IA i ic bB l lc:=
 ⟨h.fault,h.t0,h.tn,LC h.lb he.size,LC h.lf he.size,(he.cell h.lb λh=>h).trans h.cell,(he.cell h.lf λh=>h).trans h.c0,(he.cell h.lf λh=>h).trans h.c1,(he.cell h.lf λh=>h).trans h.c2,(he.cell h.lf λh=>h).trans h.c3,h.KY,h.lcs,h.ints.on (Fr.ext he),h.ax.on (Fr.ext he),h.th,h.n1,h.nb⟩
theorem l0.top(h:l0 w (av w) s GA gn TA tn HA hn)(b7:Small s)(ht:dO s t=some f):
  ∃O bn ch dc n fc IA i ic bB l lc,HA=some ⟨O,bn,none⟩/\rD w s t f O bn hn ch dc n fc IA i ic bB l lc:=by
 obtain⟨h0,ac,fs,bv⟩:=jU ht;have hl:=h.h.1;rw[LG] at hl;have aj:=(List.getElem?_eq_some_iff.1 bv).1;obtain⟨O,bn,c8,FA,m,fc,rfl,T,au,hc,hm,J⟩:=h.h.vn (k:=t.toNat) ad;rw[bv] at au;injection au with au;subst au;have bY:=J.1;simp at bY;obtain⟨ch,dc,bg,IA,i,ic,bB,l,lc,rfl,cA,g,c0,c1,c2,c3,ax,a1,aU,cy⟩:=J.Hv (k:=fs.length) ad;simp at g;subst g;subst bY;exact⟨O,bn,ch,dc,fs.length,fc,IA,i,ic,bB,l,lc,rfl,h0,ac,ad,T,cA,hc,c0,c1,c2,c3,ax,a1,aU,cy,⟨fs,bv,rfl⟩,hm,by have:=(b7.f _ (LF bv)).1;simp at this;omega⟩
theorem yg(g c:Value)(O bn hn hc ch dc n fc:Nat)(t:Int)(w:World)(h0:0<=t)(ap:t<hn)(dr:O<w.heap.size)(cb:w.cell? ⟨O,bn+t.toNat,none⟩=some (.slice (some ⟨ch,dc,none⟩) (n+1) fc))(aj:n<=1000000) :
  Calls prog 54 #[.agg #[g,c,.slice (some ⟨O,bn,none⟩) hn hc,.int .i64 0],.int .i64 t] w λe ab=>e=.returned (.pointer (some ⟨ch,dc+n*4,none⟩))/\Ext w ab:=by
 have q1:decide (t<0)=false:=by simp;omega
 have cO:decide (t>=hn)=false:=by simp;omega
 have da:(((n+1:Nat):Int) == 0)=false:=by simp;omega
 exact tT
theorem ss(h:l0 w (av w) s GA gn TA tn HA hn)(ht:dO s t=none):
  s.fault≠0\/t<0\/(hn:Int)<=t\/(0<=t/\t<hn/\∃O bn FA fc,HA=some ⟨O,bn,none⟩/\O<w.heap.size/\w.cell? ⟨O,bn+t.toNat,none⟩=some (.slice FA 0 fc)):=by
 by_cases h0:s.fault≠0
 .exact .inl h0
 by_cases ac:t<0
 .exact .inr (.inl ac)
 by_cases ax:(hn:Int)<=t
 .exact .inr (.inr (.inl ax))
 refine .inr (.inr (.inr ⟨ad,ad,?_⟩));obtain⟨O,bn,fs,FA,m,fc,rfl,T,bv,hc,hm,J⟩:=h.h.vn (k:=t.toNat) ad;unfold dO at ht;rw[if_neg ad,bv] at ht;have bu:fs=[]:=by simpa using ht
 have bY:=J.1;rw[bu] at bY;simp at bY;subst bY;exact⟨O,bn,FA,fc,rfl,T,hc⟩
theorem zf(s:ai)(GA TA HA:Mk)(gn gc tn tc hn hc:Nat)(t:Int)(w:World)(h:l0 w (av w) s GA gn TA tn HA hn)(ht:dO s t=none) :
  Calls prog 54 #[.agg #[.slice GA gn gc,.slice TA tn tc,.slice HA hn hc,.int .i64 s.fault],.int .i64 t] w λe ab=>e=.returned (.pointer none)/\Ext w ab:=by
 have f:=ss h ht;clear h ht;generalize aG:s.fault=z at *;clear aG;by_cases h0:z=0
 case neg=>
  have hf:(z != 0)=true:=by simpa using h0
  clear f h0;exact tT
 subst h0;rcases f with h|h|h|⟨ac,ax,O,bn,FA,fc,rfl,T,cb⟩
 .exact absurd rfl h
 .have q1:decide (t<0)=true:=by simpa using h
  clear h;exact tT
 .have q1:decide (t<0)=false:=by simp;omega
  have cO:decide (t>=hn)=true:=by simpa using h
  clear h;exact tT
 .have q1:decide (t<0)=false:=by simp;omega
  have cO:decide (t>=hn)=false:=by simp;omega
  exact tT
theorem lD{ch dc:Nat}{bB:Mk}(h:rD w s t f O bn hn ch dc n fc IA i ic bB l lc)(g c:Value)(hc:Nat):
  Calls prog 54 #[.agg #[g,c,.slice (some ⟨O,bn,none⟩) hn hc,.int .i64 s.fault],.int .i64 t] w λe ab=>e=.returned (.pointer (some ⟨ch,dc+n*4,none⟩))/\Ext w ab:=by
 rw[h.fault];exact yg g c O bn hn hc ch dc n fc t w h.t0 h.tn h.lb h.cell h.nb
namespace Cq
theorem nw(h:p:=by
 obtain⟨a0,ak,af⟩:=aS.two;obtain⟨bp,aM,aV⟩:=cB.two;replace cb:=(aF.cell (j:=bn+t.toNat) dr λh=>h).trans cb
 replace c0:=(aF.cell (j:=dc+n*4) cA λh=>h).trans c0
 replace c1:=(aF.cell (j:=dc+n*4+1) cA λh=>h).trans c1
 replace c2:=(aF.cell (j:=dc+n*4+2) cA λh=>h).trans c2
 replace c3:=(aF.cell (j:=dc+n*4+3) cA λh=>h).trans c3
 obtain⟨bj,a2⟩:=aH aF cB;clear bd aF aS cB dr cA;go_wp2_with(fail);generalize hX:World.setCell _ _ _=X;obtain⟨bC,bz,ct⟩:=bs (w:=w) [.int .i64 f.proc,.int .i64 f.pc,.slice IA i ic,.slice bB l lc] (by rfl) a2.o bj.o ad hX;have aR:=ae bz;clear hX bz ct a0 ak af bp aM aV c0 c1 c2 c3 cb;obtain⟨bp,aM,aV⟩:=bC.two;refine Mf (v:=.tuple #[.agg #[.int .i64 f.proc,.int .i64 f.pc,.slice IA i ic,.slice bB l lc],.bool true]) (by simp[results,Tryz.results55,go_sem,bp]) rfl ?_;exact⟨rfl,aR.o⟩
 ):p:=h
end Cq
open Cq in
theorem nX{ch dc:Nat}{bB:Mk}(h:rD w s t f O bn hn ch dc n fc IA i ic bB l lc)(g c:Value)(hc:Nat):
  Calls prog 55 #[.agg #[g,c,.slice (some ⟨O,bn,none⟩) hn hc,.int .i64 s.fault],.int .i64 t] w λe ab=>e=.returned (.tuple #[.agg #[.int .i64 f.proc,.int .i64 f.pc,.slice IA i ic,.slice bB l lc],.bool true])/\Ext w ab:=by
 obtain⟨ac,h0,ap,dr,cA,cb,c0,c1,c2,c3,_,_,_,_,_,_,aj⟩:=h;rw[ac];have q1:decide (t<0)=false:=by simp;omega
 have cO:decide (t>=hn)=false:=by simp;omega
 have da:(((n+1:Nat):Int) == 0)=false:=by simp;omega
 clear ac;go_enter func55,ntmps55;exact nv
namespace Cr
theorem nw(h:p:=by
 obtain⟨a0,ak,af⟩:=aS.two;obtain⟨bp,aM,aV⟩:=cB.two;replace cb:=(aF.cell (j:=bn+t.toNat) T λh=>h).trans cb
 have bj:=ah aF cB;clear bd aF aS cB;by_cases hm:m=0
 .subst hm;clear dw;exact BS
 .have da:((m:Int) == 0)=false:=by simp;omega
  have db:(z != 0)=true:=by simpa using dw.resolve_left hm
  clear dw hm;exact BS
 ):p:=h
end Cr
open Cr in
theorem zs(s:ai)(GA TA HA:Mk)(gn gc tn tc hn hc:Nat)(t:Int)(w:World)(h:l0 w (av w) s GA gn TA tn HA hn)(ht:dO s t=none) :
  Calls prog 55 #[.agg #[.slice GA gn gc,.slice TA tn tc,.slice HA hn hc,.int .i64 s.fault],.int .i64 t] w λe ab=>e=.returned (.tuple #[.agg #[.int .i64 0,.int .i64 0,.slice none 0 0,.slice none 0 0],.bool false])/\Ext w ab:=by
 have f:t<0\/(hn:Int)<=t\/(0<=t/\t<hn/\∃O bn FA m fc,HA=some ⟨O,bn,none⟩/\O<w.heap.size/\w.cell? ⟨O,bn+t.toNat,none⟩=some (.slice FA m fc)/\(m=0\/s.fault≠0)):=by
  by_cases ac:t<0
  .exact .inl ac
  by_cases ax:(hn:Int)<=t
  .exact .inr (.inl ax)
  refine .inr (.inr ⟨ad,ad,?_⟩);obtain⟨O,bn,fs,FA,m,fc,rfl,T,bv,hc,hm,J⟩:=h.h.vn (k:=t.toNat) ad;refine⟨O,bn,FA,m,fc,rfl,T,hc,?_⟩;rcases ss h ht with a1|a1|a1|⟨_,_,a4,bW,c5,cY,he,_,aX⟩
  .exact .inr a1
  .omega
  .omega
  .injection he with he;injection he with ar bL;subst ar bL;rw[hc] at aX;injection aX with aX;injection aX with _ aX _;exact .inl aX
 clear h ht;generalize aG:s.fault=z at *;clear aG;rcases f with h|h|⟨ac,ax,O,bn,FA,m,fc,rfl,T,cb,dw⟩
 .have q1:decide (t<0)=true:=by simpa using h
  exact G3
 .have q1:decide (t<0)=false:=by simp;omega
  have cO:decide (t>=hn)=true:=by simpa using h
  exact G3
 .have q1:decide (t<0)=false:=by simp;omega
  have cO:decide (t>=hn)=false:=by simp;omega
  go_enter func55,ntmps55;exact nv
end Go.Proofs.YtflecliffjbleaaGreat

/- Part 18 of the proof. No condition of its own. -/
import Derived.Test.YtkhnkojkplbioaaGreatQ17
namespace Go.Proofs.YtkhnkojkplbioaaGreat
open Go.RowKit Go.Proofs.Tryz
set_option maxRecDepth 1000000
set_option maxHeartbeats 25600000
set_option linter.unusedVariables false
variable{t:Int}{O bn fc gn hn i ic l lc n tn:Nat}{GA HA IA S TA:L3}{rest:PT}{p:Prop}{w:World}{s:ai}{f:ak}
theorem xY:cj prog 66 72 (.agg #[.int .i64 0,.int .i64 0,.slice none 0 0,.slice none 0 0]) 4 64:=cj.mk' Tryz.underlying66 (by kernel_rfl) rfl ad
theorem s3:cj prog 38 68 (.agg #[.slice none 0 0]) 1 24:=cj.mk' Tryz.underlying38 (by kernel_rfl) rfl ad
theorem Own.aj{ab:World}{e:TypeId}{z c:Nat}{A:L3}{xs:List Value}{F:List Nat}(h:Own w e z A n c xs F)(he:Ext w ab):Own ab e z A n c xs F:=h.al λb O=>he.block b (h.lt b O) λh=>h
abbrev Jy(W:World)(s:ai)(gn tn:Nat)(N:Nat)(bF:L3)(a5:Nat)(a1:L3)(L:Nat)(V:World):Prop:=Ext W V/\aq V N 40 #[.slice none 0 0,.slice none 0 0,.slice none 0 0,.int .i64 0]/\W.heap.size<=N/\Own V 3 1 bF gn a5 (s.globals.map df) (bt bF gn a5)/\Own V 123 2 a1 tn L (s.table.flatMap bK) (bt a1 tn L)/\(∀b∈bt bF gn a5,W.heap.size<=b/\b≠N)/\(∀b∈bt a1 tn L,W.heap.size<=b/\b≠N/\b∉bt bF gn a5)
structure HD(aU wr:World)(fs:List ak)(j:Nat)(FA:L3)(fc:Nat)(b3:List Value)(e6 bE:List Nat):Prop where
 ext:Ext aU wr
 o:Own wr 72 4 FA j fc b3 e6
 f:ki pE wr (fs.take j) b3 bE
 nd:(e6++bE).Nodup
 lo:∀b∈e6++bE,aU.heap.size<=b/\b<wr.heap.size
theorem HD.aj{aU wr ab:World}{fs:List ak}{j:Nat}{FA:L3}{fc:Nat}{b3:List Value}{e6 bE:List Nat}(h:HD aU wr fs j FA fc b3 e6 bE)(he:Ext wr ab):HD aU ab fs j FA fc b3 e6 bE:=
 ⟨h.ext.trans he,h.o.aj he,h.f.al pE.al λb O=>he.block b (h.lo b (by simp[O])).2 λh=>h,h.nd,λb O=>⟨(h.lo b O).1,Ll (h.lo b O).2 he.size⟩⟩
theorem HD.step{aU wr:World}{fs:List ak}{j:Nat}{FA:L3}{b3:List Value}{e6 bE:List Nat}(h:HD aU wr fs j FA fc b3 e6 bE)(bA:fs[j]?=some f){a b c:World}
  (ar:Ext wr a) (hI:Own a 3 1 IA i ic (f.ints.map df) (bt IA i ic)) (d:∀x∈bt IA i ic,wr.heap.size<=x/\x<a.heap.size) (an:i=f.ints.length)
  (bL:Ext a b) (bU:Own b 3 1 S l lc (f.au.map df) (bt S l lc)) (bj:∀x∈bt S l lc,a.heap.size<=x/\x<b.heap.size) (hl:l=f.au.length)
  {cM:L3} {cH:Nat} (bn:Own c 72 4 cM (j+1) cH (b3++[.int .i64 f.proc,.int .i64 f.pc,.slice IA i ic,.slice S l lc]) (bt cM (j+1) cH)) (J:Fr (λx=>x∈e6) b c) (r:∀x∈bt cM (j+1) cH,x∈e6\/(b.heap.size<=x/\x<c.heap.size)) :
  HD aU c fs (j+1) cM cH (b3++[.int .i64 f.proc,.int .i64 f.pc,.slice IA i ic,.slice S l lc]) (bt cM (j+1) cH) (bE++(bt IA i ic++bt S l lc)):=by
 have am:=h.ext.size;have s1:=ar.size;have s2:=bL.size;have T:=J.size;have O:=(h.aj ar).aj bL;have bB:∀x∈e6,x<wr.heap.size:=λx hx=>(h.lo x (by simp[hx])).2;have bf:∀x∈bE,x∉e6:=λx hx ac=>(List.nodup_append.1 h.nd).2.2 x ac x hx rfl;have cd:pE c f [.int .i64 f.proc,.int .i64 f.pc,.slice IA i ic,.slice S l lc] (bt IA i ic++bt S l lc):=
  ⟨IA,i,ic,S,l,lc,_,_,rfl,rfl,an,hl,(hI.aj bL).al λx hx=>J.block x (aD (d x hx)) λac=>by have:=d x hx;have:=bB x ac;omega,bU.al λx hx=>J.block x (bj x hx).2 λac=>by have:=bj x hx;have:=bB x ac;omega⟩
 refine⟨Fr.low (M:=λx=>x∈e6) (Fr.trans (Fr.mono O.ext λ_ h=>h.elim) J) λx hx=>(h.lo x (by simp[hx])).1,bn,?_,?_,λx hx=>?_⟩
 .rw[a1 bA];exact(O.f.al pE.al λx hx=>J.block x (by have:=(h.lo x (by simp[hx])).2;omega) (bf x hx)).snoc cd
 .refine yg (a:=wr.heap.size) (b:=b.heap.size) h.nd (λx hx=>(h.lo x hx).2) (H9 (m:=a.heap.size) (eZ _ _ _) (eZ _ _ _) (λx hx=>(d x hx).2) λx hx=>(bj x hx).1) (λx hx=>?_) (eZ _ _ _) (λx hx=>(r x hx).imp id λh=>h.1) ad;rcases Lt.1 hx with hx|hx
  .have:=d x hx;omega
  .have:=bj x hx;omega
 .simp only[Lt] at hx;rcases hx with hx|hx|hx|hx
  .rcases r x hx with ac|ac
   .have:=h.lo x (by simp[ac]);omega
   .omega
  .have:=h.lo x (by simp[hx]);omega
  .have:=d x hx;omega
  .have:=bj x hx;omega
section
variable {P:Program} {ops:Array Oper} {Q:Exit->Act->World->Prop} {R:World->World->Prop} {tails:List Nat}
theorem xo{α β γ δ ε:Type}{aa:α->β->γ->δ->ε->Act}{C:α->β->γ->δ->ε->World->Prop}{G:Prop}(h:(∀x y z u v V,C x y z u v V->cR P ops Q R tails rest (aa x y z u v) V)->G)(key:∀x y z u v V,C x y z u v V->cR P ops Q R tails rest (aa x y z u v) V):G:=h key
end
theorem Ig{P:Program}{ops:Array Oper}{Q:Exit->Act->World->Prop}{R:World->World->Prop}{tails:List Nat}{a:Act}{W:World}(C:World->Prop)(hC:C W)(h:∀V,C V->cR P ops Q R tails rest a V):cR P ops Q R tails rest a W:=h W hC
def IL(w:World)(s:ai)(gn tn hn:Nat)(e:Ending)(ab:World):Prop:=∃GA gc TA tc HA hc xs F1 F2 bT b2,e=.returned (.agg #[.slice GA gn gc,.slice TA tn tc,.slice HA hn hc,.int .i64 s.fault])/\ri ab s GA gn gc TA tn tc HA hn hc xs F1 F2 bT b2/\(∀b∈F1++(F2++(bT++b2)),w.heap.size<=b/\b<ab.heap.size)/\Ext w ab
namespace CL
theorem eU(h:p:=by
 refine b9 ?_;generalize hX:World.setCell _ _ _=X;obtain⟨br,bs,cz⟩:=bw (w:=W) [.slice bF gn a5,.slice a1 tn L,.slice none 0 0,.int .i64 s.fault] (by rfl) an bm au hX;have aN:=aT.lt;have aR:=g.lt;have n:GB W.heap.size X s bF gn a5 a1 tn L N 0 none 0 [] [] []:=by
  refine⟨⟨bY.1,bY.2.1,rfl,aT.al λb O=>cz.block b (aN b O) (I b O).2,g.al λb O=>cz.block b (aR b O) (z b O).2.1,⟨World.ownsRow_nil _ _ _ _,rfl⟩,⟨rfl,rfl⟩,?_⟩,br,?_,λb O=>?_,au⟩
  .simp only[LM];exact List.nodup_append.2 ⟨eZ _ _ _,eZ _ _ _,λa bz b O ay=>(z b O).2.2 (ay▸bz)⟩
  .simp only[LM,Lt];rintro(O|O)
   .exact(I _ O).2 rfl
   .exact(z _ O).2.1 rfl
  .simp only[LM,Lt] at O;have:=cz.size;rcases O with O|O
   .exact⟨(I b O).1,by have:=aN b O;omega⟩
   .exact⟨(z b O).1,by have:=aR b O;omega⟩
 obtain⟨a0,aj,af⟩:=(ah.2.1.aj bs).two;have aQ:=ag n bs;clear d0 aL aM hX br bs cz aN aR n bm an aT g I z;go_wp2_with(fail);clear a0 aj af;go_loopw [21] (λcy wr=>∃(k:Nat) (bf:L3) (aZ:Nat) (xs:List Value) (bT b2:List Nat),cy=.int .i64 k/\k<=hn/\GB W.heap.size wr s bF gn a5 a1 tn L N k bf aZ xs bT b2/\Ext W wr) (λcy _=>hn - (intOf cy).toNat)
 case atStart=>exact⟨0,none,0,[],[],[],rfl,ad,aQ.1,aQ.2⟩
 case round=>
  obtain⟨k,bf,aZ,xs,bT,b2,rfl,ap,hC,e⟩:=hrel;obtain⟨cK,rfl⟩:∃cK,cK=wr:=⟨wr,rfl⟩
  clear aQ;have bV:=ag hC e;have ci:N<cK.heap.size:=hC.o.lt;by_cases al:k<hn
  .obtain⟨b,o,fs,bb,m,c0,rfl,O,bA,bd,hm,bG⟩:=(ah.2.2.2.on e).h.kp al;have ak:b<cK.heap.size:=O;have cf:m=fs.length:=by have:=bG.1;simpa using this.symm
   have y:=aX.f fs (Ln bA);have cc:m<=1000000:=by have:=y.1;omega
   have bX:=bJ bA bG cf y.2;clear hC e O bA bG cf y;go_upto_region 6 with(fail);generalize hV:World.alloc _ _=V;have bm:=aW hV;have b7:=aI hV;have ce:=ag bm (bX.2.1.on (Fr.ext bm));obtain⟨d0,aL,aM⟩:=b7.two;clear hV bm b7 bd;go_wp2_with(fail);clear d0 aL aM;go_loopw [6,28] (λeQ cO wr=>∃(j:Nat) (FA:L3) (fc:Nat) (b3:List Value) (e6 bE:List Nat),eQ=.slice FA j fc/\cO=.int .i64 j/\j<=m/\HD V wr fs j FA fc b3 e6 bE) (λ_ cO _=>m - (intOf cO).toNat)
   case atStart=>exact⟨0,none,0,[],[],[],rfl,rfl,ad,LW,⟨World.ownsRow_nil _ _ _ _,rfl⟩,⟨rfl,rfl⟩,by simp,λb O=>by simp at O⟩
   case round=>
    obtain⟨j,FA,fc,b3,e6,bE,rfl,rfl,bi,hI⟩:=hrel;have ck:=ae hI;by_cases dt:j<m
    .obtain⟨cj,cY,f,IA,i,ic,S,l,lc,rfl,cx,G,c0,c1,c2,c3,b0,a9,J,cg⟩:=(ce.2.on (Fr.ext hI.ext)).qi dt;have ba:cj<wr.heap.size:=cx;have cF:i=f.ints.length:=by have:=J.1;simpa using this.symm
     have bM:l=f.au.length:=by have:=cg.1;simpa using this.symm
     have a7:=bX.2.2.2 f (Ln G);have bq:i<=100000:=ad;have a8:l<=100000:=ad;have bZ:=aE G cF bM;have aF:=ag J cg;clear hI cx G cF bM a7 J cg b0 a9;go_upto_region 9 with(fail);generalize hU:World.alloc _ _=U;have cw:=aW hU;have c4:=aI hU;have cD:=aE (ck.aj cw) (aF.1.on (Fr.ext cw)) (aF.2.on (Fr.ext cw));obtain⟨d0,aL,aM⟩:=c4.two;clear hU cw c4 c0 c1 c2 c3 aF;refine eC (λ_=>False) [(0,3),(1,3),(2,0),(3,3),(4,0),(5,3),(6,0),(8,3),(9,0),(7,1),(10,1),(11,3),(12,2),(13,2),(14,3)] ?_
     iterate 2 refine pf ?_
     refine ph ?_;refine pf ?_;refine ph ?_;refine pf ?_;refine ph ?_;refine pf ?_;refine ph ?_;refine aG rfl (λK hK=>?_);go_simp;refine(Sl.l3 (Sl.on cD.2.1 (Fr.ext (Fr.refl _ U).drew)) ad).mono ?_;rintro r aS ⟨F,cr,rfl,E,aK,ar⟩;have H1:=aE E aK ar;refine dq hK (ar) ?_;clear hK K;clear E aK ar;refine aG rfl (λK hK=>?_);go_simp;refine(Sl.l3 (Sl.on cD.2.2 (Fr.ext (Fr.aF H1.2.2))) ad).mono ?_;rintro r aU ⟨bH,bP,rfl,cl,az,bL⟩;have bc:=aE cl az bL;refine dq hK (bL) ?_;clear hK K;clear cl az bL;have Z:=((cD.1.o.aj (Fr.aF H1.2.2)).aj bc.2.2)
     refine pf ?_;refine ax rfl (λK hK=>?_);go_simp;refine dP hK ?_;clear hK K;refine ax rfl (λK hK=>?_);rw[if_pos (by rfl)];refine yz xY (.tmp 32) (.tmp 44) rfl Z (cs:=#[.int .i64 f.proc,.int .i64 f.pc,.slice F i cr,.slice bH l bP]) rfl rfl rfl (by simp[Value.oneCell']) ad ad ?_;intro cM cH b6 cb g2 cT;refine dP hK ?_;clear hK K;refine pf ?_;refine aC ?_;have a3:=ae (cD.1.step bZ.1 (Fr.aF H1.2.2) H1.1 (λx hx=>H1.2.1 x hx) bZ.2.1 bc.2.2 bc.1 bc.2.1 bZ.2.2 cb g2 cT);clear cb g2 cT Z d0 aL aM;go_wp2_with(fail);go_roundw
     case rel=>exact⟨j+1,cM,cH,_,_,_,rfl,by go_num,ad,a3.o⟩
     case measure=>exact aH
    .obtain rfl:j=m:=ad;have u:Ext cK wr:=ce.1.trans hI.ext;have H:=ae (bV.1.aj u);have bo:=ae u;obtain⟨d0,aL,aM⟩:=H.o.o.two;have b8:=H.st.h;have dv:N∉bT:=λh=>H.ne (by simp[h]);clear hI u;go_wp2_with(at_builtin;refine oG s3 rfl (.tmp 48) (.tmp 51) rfl b8 (cs:=#[.slice FA j fc]) rfl rfl rfl (by simp[Value.oneCell']) ad ad ?_;intro cn ca b6 cb g2 cT;have bD:=H.o.o.on g2 dv;have cX:=bJ cb g2 cT bD;clear cb g2 cT d0 aL aM;obtain⟨e0,a6,aP⟩:=bD.two;clear bD);go_roundw
     case rel=>
      have ab:=ck.f;rw[Ls (aD bX.2.2.1)] at ab;have bB:=ck.lo;have dm:=ce.1.size;exact⟨k+1,cn,ca,_,_,_,by go_num,ad,bV.1.step bX.1 bo.o ck.o.o ab bX.2.2.1 ck.nd (λb O=>⟨by have:=bB b O;omega,(bB b O).2⟩) cX.1 cX.2.1 cX.2.2.1 rfl,
       Fr.low (M:=λb=>b∈bT\/b=N) (Fr.trans (Fr.mono (bV.2.trans bo.o) λ_ h=>h.elim) (Fr.setCell (Fr.mono cX.2.1 λ_ h=>.inl h) (.inl (.inr rfl)) _)) λb O=>by
        rcases O with O|O
        .exact(bV.1.lo b (by simp[O])).1
        .rw[O];exact bV.1.go⟩
     case measure=>exact aH
  .obtain rfl:k=hn:=ad;obtain⟨d0,aL,aM⟩:=hC.o.two;have aV:=ah.2.2.1.aj e;obtain⟨bl,aA,aO⟩:=aV.two;have bv:=ah.1.trans e;have bO:=ag aV bv;clear hC e aV bv;go_wp2_with(fail);generalize cu:World.setCell _ _ _=Y;obtain⟨bK,bt,bR⟩:=bw (w:=w) [.slice bF gn a5,.slice a1 tn L,.slice bf k aZ,.int .i64 s.fault] (by rfl) bO.1 bO.2 ad cu;have bu:=ag bt bR;clear cu bt bR d0 aL aM bl aA aO;obtain⟨bl,aA,aO⟩:=bK.two;refine LU (v:=.agg #[.slice bF gn a5,.slice a1 tn L,.slice bf k aZ,.int .i64 s.fault]) (by simp[results,Tryz.results51,go_sem,bl]) rfl ?_;have ch:=bV.1.st;rw[Ls (aD bY.2.2)] at ch;have bB:=bV.1.lo;have c5:=aY.o;refine⟨bF,a5,a1,L,bf,aZ,xs,_,_,bT,b2,rfl,ch.al λb O=>bu.2.block b (bB b O).2 (aD (bB b O)),λb O=>?_,bu.1⟩;have:=bB b O;have:=bu.2.size;omega
 ):p:=h
end CL
open CL in
theorem fK(s:ai)(GA TA HA:L3)(gn gc tn tc hn hc:Nat)(w:World)(h:lS w (av w) s GA gn TA tn HA hn)(bI:Small s) :
  Calls prog 51 #[.agg #[.slice GA gn gc,.slice TA tn tc,.slice HA hn hc,.int .i64 s.fault]] w (IL w s gn tn hn):=by
 have r3:gn=s.globals.length:=by have:=h.g.1;simpa using this.symm
 have tW:tn=s.table.length:=by have:=h.t.1;simpa using this.symm
 have pd:hn=s.threads.length:=by have:=h.h.1;simpa using this.symm
 have dR:gn<=100000:=by have:=bI.g;omega
 have cC:tn<=5000:=by have:=bI.t;omega
 have dp:hn<=1000:=by have:=bI.h;omega
 have bY:=aE r3 tW pd;obtain⟨aX,a4⟩:=aJ bI h;clear h bI r3 tW pd;go_enter func51,ntmps51;go_upto_region 1 with(fail);generalize be:World.alloc _ _=W;have aw:=iS be;have cG:=gG be;have bC:=gf be;have c5:W.heap.size=w.heap.size+2:=by rw[<-be];simp
 have ah:=bJ aw cG bC (a4.on aw);obtain⟨a0,aj,af⟩:=cG.two;have aY:=ae c5;clear be aw cG bC c5;refine rC (λ_=>False) [10] (.free 0 (.held 1 (.free 3 (.held 4 (.free 6 (.held 7 (.pick [2,9] (λi=>bif i == 2 then .pick [5,9] (λi=>bif i == 5 then .free 8 (.pick [9] (λ_=>.pick [10] (λ_=>.stop))) else .pick [5] (λ_=>.free 8 (.pick [10] (λ_=>.stop)))) else .pick [2] (λ_=>.pick [5] (λ_=>.free 8 (.pick [10] (λ_=>.stop)))))))))))) ?_;refine tf ?_;refine th ?_;refine tf ?_;refine th ?_;refine tf ?_;refine th ?_;refine xo (P:=?P1) (ops:=?o1) (Q:=?q1) (R:=?r1) (tails:=?t1) (rest:=.pick [10] (λ_=>.stop)) (aa:=?aa) (C:=Jy W s gn tn) (λkey=>?main) ?key
 case main=>
  refine a2 ?_ ?_
  ·
   refine aB rfl (λK hK=>?_) rfl;go_simp;refine(Sl.l3 (ah.2.2.2.on (Fr.refl _ W).drew).g ad).mono ?_;rintro r aS ⟨bF,a5,rfl,E,aK,ar⟩;have s1:=ar.size;have q1:W.drew.heap.size=W.heap.size:=rfl;refine dq hK (ar) ?_;clear hK K;refine a2 ?_ ?_
   ·
    refine aB rfl (λK hK=>?_) rfl;go_simp;refine(Sl.wm (ah.2.2.2.on (Fr.aF ar)).t ad).mono ?_;rintro r aU ⟨a1,L,rfl,cl,az,bL⟩;have s2:=bL.size;refine dq hK (bL) ?_;clear hK K;refine tf ?_;refine ao ?_;refine dT ?_;have hC:Jy W s gn tn (aU.heap.size) bF a5 a1 L (aU.alloc (.cells #[.slice none 0 0,.slice none 0 0,.slice none 0 0,.int .i64 0] 40)):=by
     refine⟨((Fr.aF ar).trans bL).alloc _,LX,ad,(E.aj bL).aj (LW.alloc _),cl.aj (LW.alloc _),λb O=>?_,λb O=>⟨?_,?_,λac=>?_⟩⟩
     .have:=aK b O;omega
     .have:=az b O;omega
     .have:=az b O;omega
     .have:=az b O;have:=aK b ac;omega
    generalize aU.heap.size=c9 at hC ⊢;exact key c9 bF a5 a1 L _ hC
   ·
    refine dT ?_;refine Ig (λV=>Ext aS V/\aq V aS.heap.size 40 #[.slice none 0 0,.slice none 0 0,.slice none 0 0,.int .i64 0]/\aS.heap.size<V.heap.size) ⟨LW.alloc _,LX,(LX).lt⟩ (λV hV=>?_);refine ao ?_;refine aB rfl (λK hK=>?_) rfl;go_simp;refine(Sl.wm ((ah.2.2.2.on (Fr.aF ar)).on hV.1).t ad).mono ?_;rintro r aU ⟨a1,L,rfl,cl,az,bL⟩;have s2:=bL.size;have T:=hV.1.size;refine dq hK (bL) ?_;clear hK K;refine tf ?_;have hC:Jy W s gn tn (aS.heap.size) bF a5 a1 L aU:=by
     refine⟨((Fr.aF ar).trans hV.1).trans bL,hV.2.1.aj bL,ad,(E.aj hV.1).aj bL,cl,λb O=>?_,λb O=>⟨?_,?_,λac=>?_⟩⟩
     .have:=aK b O;omega
     .have:=az b O;omega
     .have:=az b O;have:=hV.2.2;omega
     .have:=az b O;have:=aK b ac;omega
    generalize aS.heap.size=c9 at hC ⊢;exact key c9 bF a5 a1 L _ hC
  ·
   refine dT ?_;refine Ig (λV=>Ext W V/\aq V W.heap.size 40 #[.slice none 0 0,.slice none 0 0,.slice none 0 0,.int .i64 0]/\W.heap.size<V.heap.size) ⟨(LW.drew).alloc _,aq.new W.drew _ _,(aq.new W.drew _ _).lt⟩ (λV hV=>?_);refine ao ?_;refine aB rfl (λK hK=>?_) rfl;go_simp;refine(Sl.l3 (ah.2.2.2.on hV.1).g ad).mono ?_;rintro r aS ⟨bF,a5,rfl,E,aK,ar⟩;have s1:=ar.size;have am:=hV.1.size;refine dq hK (ar) ?_;clear hK K;refine ao ?_;refine aB rfl (λK hK=>?_) rfl;go_simp;refine(Sl.wm ((ah.2.2.2.on hV.1).on ar).t ad).mono ?_;rintro r aU ⟨a1,L,rfl,cl,az,bL⟩;have s2:=bL.size;refine dq hK (bL) ?_;clear hK K;refine tf ?_;have hC:Jy W s gn tn (W.heap.size) bF a5 a1 L aU:=by
    refine⟨(hV.1.trans ar).trans bL,(hV.2.1.aj ar).aj bL,ad,E.aj bL,cl,λb O=>?_,λb O=>⟨?_,?_,λac=>?_⟩⟩
    .have:=aK b O;have:=hV.2.2;omega
    .have:=az b O;omega
    .have:=az b O;have:=hV.2.2;omega
    .have:=az b O;have:=aK b ac;omega
   generalize W.heap.size=c9 at hC ⊢;exact key c9 bF a5 a1 L _ hC
 intro N bF a5 a1 L V ⟨bm,an,au,aT,g,I,z⟩;obtain⟨d0,aL,aM⟩:=an.two;clear a0 aj af;exact fp
def zA(w:World)(op num:Int)(g7:ByteArray)(l:List VE)(e:Ending)(ab:World):Prop:=∃A n c,e=.returned (.agg #[.int .i64 op,.int .i64 num,.string g7,.slice A n c])/\n<=c/\Sl ab (fresh w ab) A n (l.map bp)/\Ext w ab
def xE(x:VE):Prop:=∀(w:World) (A:L3) (n c:Nat),Sl w (av w) A n (x.args.map bp)->Calls prog 72 #[.agg #[.int .i64 x.bg,.int .i64 x.numOf,.string x.bA,.slice A n c]] w (zA w x.bg x.numOf x.bA x.args)
namespace CM
theorem dE(h:p:=by
 generalize hX:World.setCell aU _ _=Y;have bR:=cO hX;have r:=ae (show Ext w Y/\aq Y w.heap.size 53 #[.int .i64 op,.int .i64 num,.string g7,.slice cE (k+1) c3]/\aq Y (w.heap.size+1) 53 #[.int .i64 0,.int .i64 0,.string ⟨#[]⟩,.slice none 0 0]/\Gr (λb=>w.heap.size+2<=b) (w.heap.size+2) 53 4 Y cE (k+1) c3 ((l.take (k+1)).map bp) from
  ⟨Fr.low (M:=λb=>b=w.heap.size) (Fr.trans (Fr.mono bc.1 λ_ h=>h.elim) bR) λb O=>ad,by rw[<-hX];exact bc.2.1.aM 3 _,bc.2.2.1.on bR ad,by
   rw[a1 bu.1,Lr];exact bc.2.2.2.c8 bR λb O _=>⟨ad,ad⟩⟩)
 clear hX bR a0 aj af bD;go_wp2;go_roundw
 case rel=>exact⟨k+1,cE,c3,by go_num,ad,r.o⟩
 case measure=>exact aH
 ):p:=h
theorem sX(h:p:=by
 have bu:=ag bb cV;have bV:=ae (ck.o y (Ln bb));clear bb Q cV Z a8 O aw aR cB hG;go_upto_region 6 with(fail);generalize hU:World.alloc _ _=U;have cw:=aW hU;have c4:=aI hU;have cX:=cw.size;have bC:=aQ.2.1.aj cw;have cD:=cJ (aQ.1.trans cw) bC (aQ.2.2.1.aj cw) (aQ.2.2.2.aj cw) (bu.2.on (Fr.ext cw));obtain⟨d0,aL,aM⟩:=c4.two;obtain⟨a0,aj,af⟩:=bC.two;clear hU cw c4 bC c0 c1 c2 c3 aT;refine eC (λ_=>False) [(0,3),(1,0),(2,0),(3,1),(4,1),(5,2),(6,3),(7,2)] ?_;refine pf ?_
 iterate 2 refine ph ?_
 refine aG rfl (λK hK=>?_);go_simp;refine(bV.o _ _ _ _ (cD.2.2.2.2.on (Fr.ext (Fr.refl _ U).drew))).mono ?_;rintro e aS ⟨b1,cI,zc,rfl,cg,cR,ar⟩;have H1:=aE cR cg ar;refine dq hK (ar) ?_;clear hK K;have aN:Ext U aS:=Fr.aF ar;have cA:=cD.2.2.2.1.aj aN;have cr:=aN.size;have aB:∀b,(Value.slice I k aK).ownBlock=some b->b<U.heap.size:=λb O=>(cD.2.2.2.1.lt O).2;have hd:(bp y).rep aS (lL (λb=>w.heap.size+2<=b) aS (.slice I k aK)) (#[.int .i64 y.bg,.int .i64 y.numOf,.string y.bA,.slice b1 cI zc]:Array Value).toList:=
  a5.2 ⟨b1,cI,zc,rfl,cg,cR.mono λb O=>⟨by have:=O.1;have:U.drew.heap.size=U.heap.size:=rfl;omega,O.2,λh=>by have:=aB b h;have:=O.1;have:U.drew.heap.size=U.heap.size:=rfl;omega⟩⟩
 have a3:=ag cA hd;clear cR cg ar cA hd aB;refine rz ?_;refine ax rfl (λK hK=>?_);rw[if_pos (by rfl)];refine q9 pP (.tmp 16) (.tmp 19) rfl a3.1 a3.2 rfl rfl rfl ad ad ad ?_;intro cE c3 aU cb g2 cT da;have bB:∀b,(Value.slice I k aK).ownBlock=some b->w.heap.size+2<=b:=λb O=>(a3.1.lt O).1;have bD:=(cD.2.1.aj aN).on g2 (λh=>by have:=bB _ h;omega);have cz:=(cD.2.2.1.aj aN).on g2 (λh=>by have:=bB _ h;omega);have a4:Ext w aU:=Fr.low (M:=λb=>(Value.slice I k aK).ownBlock=some b) (Fr.trans (Fr.mono (cD.1.trans aN) λ_ h=>h.elim) g2) λb O=>by have:=bB b O;omega
 have bc:=bJ a4 bD cz cb;clear cb g2 cT da bB cz a4 a0 aj af d0 aL aM;obtain⟨a0,aj,af⟩:=bD.two;exact s0
 ):p:=h
end CM
open CM in
theorem fO(op num:Int)(g7:ByteArray)(l:List VE)(ao:∀y∈l,xE y)(hl:l.length<=2)(w:World)(A:L3)(n c:Nat)(h:Sl w (av w) A n (l.map bp)) :
  Calls prog 72 #[.agg #[.int .i64 op,.int .i64 num,.string g7,.slice A n c]] w (zA w op num g7 l):=by
 have hn:n<=2:=by have:=h.1;simp at this;omega
 have f:=ae (show l.length=n by have:=h.1;simpa using this);obtain⟨H,ck⟩:=aJ h ao;clear h ao hl;go_enter func72,ntmps72;go_upto_region 1 with(fail);generalize be:World.alloc _ _=W;have m:=iS be;have bO:=gG be;have i:=gf be;obtain⟨a0,aj,af⟩:=bO.two;clear be;go_upto_region 3 with(fail);generalize hX:World.setCell _ _ _=X;have J:=cO hX;have aw:Ext w X:=Fr.low (M:=λb=>b=w.heap.size) (Fr.trans (Fr.mono m λ_ h=>h.elim) J) λb O=>ad;have aR:aq X w.heap.size 53 #[.int .i64 op,.int .i64 num,.string g7,.slice none 0 0]:=hX▸bO.aM 3 _;have cB:aq X (w.heap.size+1) 53 #[.int .i64 0,.int .i64 0,.string ⟨#[]⟩,.slice none 0 0]:=i.on J ad;clear J m bO i a0 aj af;have aQ:=aE aw aR cB;clear hX aw aR cB;go_wp2_with(fail);go_loopw [11] (λcy wr=>∃(k:Nat) (I:L3) (aK:Nat),cy=.int .i64 k/\k<=n/\Ext w wr/\aq wr w.heap.size 53 #[.int .i64 op,.int .i64 num,.string g7,.slice I k aK]/\aq wr (w.heap.size+1) 53 #[.int .i64 0,.int .i64 0,.string ⟨#[]⟩,.slice none 0 0]/\Gr (λb=>w.heap.size+2<=b) (w.heap.size+2) 53 4 wr I k aK ((l.take k).map bp)) (λcy _=>n - (intOf cy).toNat)
 case atStart=>exact⟨0,none,0,rfl,ad,aQ.1,aQ.2.1,aQ.2.2,Gr.nil _ _ _ _ _⟩
 case round=>
  obtain⟨k,I,aK,rfl,ap,aw,aR,cB,hG⟩:=hrel;clear aQ;have aQ:=bJ aw aR cB hG;have bo:=cB.lt;by_cases al:k<n
  .obtain⟨b,o,y,cs,rfl,O,bb,Q,a8,Z⟩:=(H.on (Fr.ext aw)).g6 db al;exact sW
  .obtain rfl:k=n:=ad;obtain⟨a0,aj,af⟩:=aR.two;obtain⟨bl,aA,aO⟩:=cB.two;clear aw aR cB hG;go_wp2_with(fail);generalize hX:World.setCell _ _ _=Y;obtain⟨bK,bt,bR⟩:=bw (w:=w) [.int .i64 op,.int .i64 num,.string g7,.slice I k aK] (by rfl) aQ.2.2.1 aQ.1 ad hX;have bu:=ag bt bR;clear hX bt bR a0 aj af bl aA aO;obtain⟨bl,aA,aO⟩:=bK.two;refine LU (v:=.agg #[.int .i64 op,.int .i64 num,.string g7,.slice I k aK]) (by simp[results,Tryz.results72,go_sem,bl]) rfl ?_;have a9:=aQ.2.2.2.c8 bu.2 λb O _=>⟨ad,ad⟩
   rw[Ls (aD f.o)] at a9;exact⟨I,k,aK,rfl,a9.cap.1,a9.sl (λb al O=>⟨ad,al⟩) (λb al O=>⟨ad,al⟩),bu.1⟩
theorem jI:∀x:VE,xE x
 | .num n=>λw A m c h=>fO 1 n ⟨#[]⟩ [] (by simp) (by simp) w A m c h
 | .g7 s=>λw A m c h=>fO 2 0 s [] (by simp) (by simp) w A m c h
 | .loc k=>λw A m c h=>fO 18 k ⟨#[]⟩ [] (by simp) (by simp) w A m c h
 | .iF k=>λw A m c h=>fO 19 k ⟨#[]⟩ [] (by simp) (by simp) w A m c h
 | .un op x=>λw A m c h=>fO op 0 ⟨#[]⟩ [x] (λy bb=>by rw[LO.1 bb];exact jI x) (by simp) w A m c h
 | .bin op x y=>λw A m c h=>fO op 0 ⟨#[]⟩ [x,y] (λz bv=>by
   simp only[LC,List.not_mem_nil,or_false] at bv;rcases bv with bv|bv
   .rw[bv];exact jI x
   .rw[bv];exact jI y) (by simp) w A m c h
theorem y6(o:Option VE)(w:World)(eo en:Int)(es:ByteArray)(A:L3)(n c:Nat)(h:(oO o).rep w (av w) [.int .i64 eo,.int .i64 en,.string es,.slice A n c]) :
  Calls prog 72 #[.agg #[.int .i64 eo,.int .i64 en,.string es,.slice A n c]] w λe ab=>∃I aP aK,e=.returned (.agg #[.int .i64 eo,.int .i64 en,.string es,.slice I aP aK])/\(oO o).rep ab (fresh w ab) [.int .i64 eo,.int .i64 en,.string es,.slice I aP aK]/\Ext w ab:=by
 cases o with
 | none=>
  obtain⟨A2,c2,e⟩:=fj.1 h;simp only[List.cons.injEq,and_true] at e;obtain⟨e1,e2,e3,a6⟩:=e;injection e1 with _ e1;injection e2 with _ e2;injection e3 with e3;injection a6 with a6 cu bB;subst e1 e2 e3 a6 cu bB;refine(fO 0 0 ⟨#[]⟩ [] (by simp) (by simp) w _ 0 c (Sl.bR _)).mono ?_;rintro e ab ⟨I,aP,aK,rfl,ac,au,aY⟩;obtain rfl:aP=0:=au.1.symm
  exact⟨I,0,aK,rfl,fj.2 ⟨I,aK,rfl⟩,aY⟩
 | some x=>
  obtain⟨A2,n2,c2,e,hc,hs⟩:=a5.1 h;simp only[List.cons.injEq,and_true] at e;obtain⟨e1,e2,e3,a6⟩:=e;injection e1 with _ e1;injection e2 with _ e2;injection e3 with e3;injection a6 with a6 cu bB;subst e1 e2 e3 a6 cu bB;refine(jI x w _ _ _ hs).mono ?_;rintro e ab ⟨I,aP,aK,rfl,ac,au,aY⟩;exact⟨I,aP,aK,rfl,a5.2 ⟨I,aP,aK,rfl,ac,au⟩,aY⟩
def HF(w:World)(l:List VE)(e:Ending)(ab:World):Prop:=∃A n c,e=.returned (.slice A n c)/\n<=c/\Sl ab (fresh w ab) A n (l.map bp)/\Ext w ab
namespace CN
theorem sX(h:p:=by
 have bu:=ag bb cV;clear bb Q cV Z a8 O aw hG;go_upto_region 5 with(fail);generalize hU:World.alloc _ _=U;have cw:=aW hU;have c4:=aI hU;have cX:=cw.size;have cD:=aE (aQ.1.trans cw) (aQ.2.aj cw) (bu.2.on (Fr.ext cw));obtain⟨d0,aL,aM⟩:=c4.two;clear hU cw c4 c0 c1 c2 c3 aT;go_wp2_with(fail);refine(jI y _ _ _ _ cD.2.2).mono ?_;rintro e aS ⟨b1,cI,zc,rfl,cg,cR,aN⟩;have cA:=cD.2.1.aj aN;have cr:=aN.size;have aB:∀b,(Value.slice I k aK).ownBlock=some b->b<U.heap.size:=λb O=>(cD.2.1.lt O).2;have hd:(bp y).rep aS (lL (λb=>w.heap.size<=b) aS (.slice I k aK)) (#[.int .i64 y.bg,.int .i64 y.numOf,.string y.bA,.slice b1 cI zc]:Array Value).toList:=
  a5.2 ⟨b1,cI,zc,rfl,cg,cR.mono λb O=>⟨by have:=O.1;omega,O.2,λh=>by have:=aB b h;have:=O.1;omega⟩⟩
 have H1:=aE (cD.1.trans aN) cA hd;clear cR cg aN cA hd aB d0 aL aM;go_wp2_with(at_builtin;refine bT pP rfl (.tmp 12) (.tmp 15) rfl H1.2.1 H1.2.2 rfl rfl rfl ad ad ad ?_;intro cE c3 aU cb g2 cT da;have bY:=ag cb g2;clear cb g2 cT da);have bB:∀b,(Value.slice I k aK).ownBlock=some b->w.heap.size<=b:=λb O=>(H1.2.1.lt O).1;have aZ:Ext w aU:=Fr.low (M:=λb=>(Value.slice I k aK).ownBlock=some b) (Fr.trans (Fr.mono H1.1 λ_ h=>h.elim) bY.2) λb O=>bB b O;have aX:=ae aZ;clear bB aZ;go_roundw
 case rel=>exact⟨k+1,cE,c3,rfl,by go_num,ad,aX.o,by rw[a1 bu.1,Lr];exact bY.1⟩
 case measure=>exact aH
 ):p:=h
end CN
open CN in
theorem qs(l:List VE)(hl:l.length<=100000)(w:World)(A:L3)(n c:Nat)(h:Sl w (av w) A n (l.map bp)) :
  Calls prog 74 #[.slice A n c] w (HF w l):=by
 have ca:l.length=n:=by have:=h.1;simpa using this
 have hn:n<=100000:=ad;obtain⟨f,H⟩:=aJ ca h;clear h hl ca;go_enter func74,ntmps74;go_wp2_with(fail);go_loopw [3,8] (λsv cy wr=>∃(k:Nat) (I:L3) (aK:Nat),sv=.slice I k aK/\cy=.int .i64 k/\k<=n/\Ext w wr/\Gr (λb=>w.heap.size<=b) w.heap.size 53 4 wr I k aK ((l.take k).map bp)) (λ_ cy _=>n - (intOf cy).toNat)
 case atStart=>exact⟨0,none,0,rfl,rfl,ad,LW,Gr.nil _ _ _ _ _⟩
 case round=>
  obtain⟨k,I,aK,rfl,rfl,ap,aw,hG⟩:=hrel;have aQ:=ag aw hG;have nt:=aw.size;by_cases al:k<n
  .obtain⟨b,o,y,cs,rfl,O,bb,Q,a8,Z⟩:=(H.on (Fr.ext aw)).g6 db al;exact sW
  .obtain rfl:k=n:=ad;clear aw hG;go_wp2_with(fail);go_ret;have a9:=aQ.2;rw[Ls (aD f.o)] at a9;exact⟨I,k,aK,rfl,a9.cap.1,a9.sl (λb al O=>⟨O,al⟩) (λb al O=>⟨O,al⟩),aQ.1⟩
theorem qu(p:bN)(w:World)(A:L3)(n c:Nat)(h:(dk p).rep w (av w) [.bool p.param,.int .i64 p.index,.slice A n c]) :
  Calls prog 73 #[.agg #[.bool p.param,.int .i64 p.index,.slice A n c]] w λe ab=>∃I aP aK,e=.returned (.agg #[.bool p.param,.int .i64 p.index,.slice I aP aK])/\(dk p).rep ab (fresh w ab) [.bool p.param,.int .i64 p.index,.slice I aP aK]/\Ext w ab:=by
 obtain⟨A2,n2,c2,e,hc,hs⟩:=dX.1 h;simp only[List.cons.injEq,and_true,true_and] at e;injection e with a6 cu bB;subst a6 cu bB;have H:=ae hs;have hj:p.at_.toList.length<=100000:=by cases p.at_<;>simp
 clear h hs hc;generalize j:p.param=pb;generalize k:p.index=pi;have cq:=ag j k;clear j k;go_enter func73,ntmps73;go_upto_region 1 with(fail);generalize be:World.alloc _ _=W;have m:=iS be;have bO:=gG be;have i:=gf be;have ah:=bJ m bO i (H.on (Fr.ext m));have c5:=i.lt;obtain⟨a0,aj,af⟩:=bO.two;clear be m bO i;go_wp2_with(fail);refine(qs _ hj W _ _ _ ah.2.2.2).mono ?_;rintro e aS ⟨b1,cI,zc,rfl,cg,cR,aN⟩;have cr:=aN.size;have cG:=ah.2.1.aj aN;have f:=ah.2.2.1.aj aN;have H1:=cJ (ah.1.trans aN) cg cR cG f;clear a0 aj af;obtain⟨a0,aj,af⟩:=cG.two;clear cG f aN cg cR;go_upto_region 2 with(fail);generalize hX:World.setCell _ _ _=X;have J:=cO hX;have aw:Ext w X:=Fr.low (M:=λb=>b=w.heap.size) (Fr.trans (Fr.mono H1.1 λ_ h=>h.elim) J) λb O=>ad;have aR:aq X w.heap.size 55 #[.bool pb,.int .i64 pi,.slice b1 cI zc]:=hX▸H1.2.2.2.1.aM 2 _;have cB:aq X (w.heap.size+1) 55 #[.bool false,.int .i64 0,.slice none 0 0]:=H1.2.2.2.2.on J ad;have aQ:=aE aw J cB;clear hX a0 aj af;obtain⟨a0,aj,af⟩:=aR.two;obtain⟨bl,aA,aO⟩:=cB.two;clear J aw aR cB;go_wp2_with(fail);generalize hX:World.setCell _ _ _=Y;obtain⟨bK,bt,bR⟩:=bw (w:=w) [.bool pb,.int .i64 pi,.slice b1 cI zc] (by rfl) aQ.2.2 aQ.1 ad hX;have bu:=ag bt bR;clear hX bt bR a0 aj af bl aA aO;obtain⟨bl,aA,aO⟩:=bK.two;refine LU (v:=.agg #[.bool pb,.int .i64 pi,.slice b1 cI zc]) (by simp[results,Tryz.results73,go_sem,bl]) rfl ?_;have ao:w.heap.size+1<aS.heap.size:=ad;refine⟨b1,cI,zc,rfl,?_,bu.1⟩;rw[<-cq.1,<-cq.2]
 refine dX.2 ⟨b1,cI,zc,rfl,H1.2.1,(H1.2.2.1.al λb O=>(bu.2.block b (lY O.2 aQ.2.1.size) (aD O.1)).trans (aQ.2.1.block b O.2 (aD O.1))).mono λb O=>⟨by have:=O.1;omega,by have:=O.2;have:=aQ.2.1.size;have:=bu.2.size;omega⟩⟩
structure rF(w:World)(s:ai)(t:Int)(f:ak)(O bn hn cj cY n fc:Nat)(IA:L3)(i ic:Nat)(S:L3)(l lc:Nat):Prop where
 fault:s.fault=0
 t0:0<=t
 tn:t<hn
 lb:O<w.heap.size
 lf:cj<w.heap.size
 cell:w.cell? ⟨O,bn+t.toNat,none⟩=some (.slice (some ⟨cj,cY,none⟩) (n+1) fc)
 c0:w.cell? ⟨cj,cY+n*4,none⟩=some (.int .i64 f.proc)
 c1:w.cell? ⟨cj,cY+n*4+1,none⟩=some (.int .i64 f.pc)
 c2:w.cell? ⟨cj,cY+n*4+2,none⟩=some (.slice IA i ic)
 c3:w.cell? ⟨cj,cY+n*4+3,none⟩=some (.slice S l lc)
 KK:i<=ic
 lcs:l<=lc
 ints:Sl w (av w) IA i (f.ints.map D.i)
 au:Sl w (av w) S l (f.au.map D.i)
 th:∃fs,s.threads[t.toNat]?=some (fs++[f])/\fs.length=n
 n1:n+1<=fc
 nb:n<=1000000
theorem rF.on{w ab:World}{s:ai}{t:Int}{f:ak}{O bn hn cj cY n fc:Nat}{IA:L3}{i ic:Nat}{S:L3}{l lc:Nat}(h:rF w s t f O bn hn cj cY n fc IA i ic S l lc)(he:Ext w ab):rF ab s t f O bn hn cj cY n fc IA i ic S l lc:=
 ⟨h.fault,h.t0,h.tn,Ll h.lb he.size,Ll h.lf he.size,(he.cell h.lb λh=>h).trans h.cell,(he.cell h.lf λh=>h).trans h.c0,(he.cell h.lf λh=>h).trans h.c1,(he.cell h.lf λh=>h).trans h.c2,(he.cell h.lf λh=>h).trans h.c3,h.KK,h.lcs,h.ints.on (Fr.ext he),h.au.on (Fr.ext he),h.th,h.n1,h.nb⟩
theorem lS.top(h:lS w (av w) s GA gn TA tn HA hn)(bI:Small s)(ht:de s t=some f):
  ∃O bn cj cY n fc IA i ic S l lc,HA=some ⟨O,bn,none⟩/\rF w s t f O bn hn cj cY n fc IA i ic S l lc:=by
 obtain⟨h0,ac,fs,bA⟩:=gy ht;have hl:=h.h.1;rw[Lo] at hl;have ap:=(List.getElem?_eq_some_iff.1 bA).1;obtain⟨O,bn,c7,FA,m,fc,rfl,T,r,hc,hm,J⟩:=h.h.kp (k:=t.toNat) ad;rw[bA] at r;injection r with r;subst r;have cf:=J.1;simp at cf;obtain⟨cj,cY,a5,IA,i,ic,S,l,lc,rfl,cx,G,c0,c1,c2,c3,au,aY,bR,cI⟩:=J.qi (k:=fs.length) ad;simp at G;subst G;subst cf;exact⟨O,bn,cj,cY,fs.length,fc,IA,i,ic,S,l,lc,rfl,h0,ac,ad,T,cx,hc,c0,c1,c2,c3,au,aY,bR,cI,⟨fs,bA,rfl⟩,hm,by have:=(bI.f _ (Ln bA)).1;simp at this;omega⟩
theorem yf(U z:Value)(O bn hn hc cj cY n fc:Nat)(t:Int)(w:World)(h0:0<=t)(al:t<hn)(dp:O<w.heap.size)(ck:w.cell? ⟨O,bn+t.toNat,none⟩=some (.slice (some ⟨cj,cY,none⟩) (n+1) fc))(ap:n<=1000000) :
  Calls prog 55 #[.agg #[U,z,.slice (some ⟨O,bn,none⟩) hn hc,.int .i64 0],.int .i64 t] w λe ab=>e=.returned (.pointer (some ⟨cj,cY+n*4,none⟩))/\Ext w ab:=by
 have q1:decide (t<0)=false:=by simp;omega
 have cN:decide (t>=hn)=false:=by simp;omega
 have df:(((n+1:Nat):Int) == 0)=false:=by simp;omega
 exact uc
theorem sr(h:lS w (av w) s GA gn TA tn HA hn)(ht:de s t=none):
  s.fault≠0\/t<0\/(hn:Int)<=t\/(0<=t/\t<hn/\∃O bn FA fc,HA=some ⟨O,bn,none⟩/\O<w.heap.size/\w.cell? ⟨O,bn+t.toNat,none⟩=some (.slice FA 0 fc)):=by
 by_cases h0:s.fault≠0
 .exact .inl h0
 by_cases ac:t<0
 .exact .inr (.inl ac)
 by_cases au:(hn:Int)<=t
 .exact .inr (.inr (.inl au))
 refine .inr (.inr (.inr ⟨ad,ad,?_⟩));obtain⟨O,bn,fs,FA,m,fc,rfl,T,bA,hc,hm,J⟩:=h.h.kp (k:=t.toNat) ad;unfold de at ht;rw[if_neg ad,bA] at ht;have bG:fs=[]:=by simpa using ht
 have cf:=J.1;rw[bG] at cf;simp at cf;subst cf;exact⟨O,bn,FA,fc,rfl,T,hc⟩
theorem y7(s:ai)(GA TA HA:L3)(gn gc tn tc hn hc:Nat)(t:Int)(w:World)(h:lS w (av w) s GA gn TA tn HA hn)(ht:de s t=none) :
  Calls prog 55 #[.agg #[.slice GA gn gc,.slice TA tn tc,.slice HA hn hc,.int .i64 s.fault],.int .i64 t] w λe ab=>e=.returned (.pointer none)/\Ext w ab:=by
 have f:=sr h ht;clear h ht;generalize bv:s.fault=z at *;clear bv;by_cases h0:z=0
 case neg=>
  have gM:(z != 0)=true:=by simpa using h0
  clear f h0;exact uc
 subst h0;rcases f with h|h|h|⟨ac,au,O,bn,FA,fc,rfl,T,ck⟩
 .exact absurd rfl h
 .have q1:decide (t<0)=true:=by simpa using h
  clear h;exact uc
 .have q1:decide (t<0)=false:=by simp;omega
  have cN:decide (t>=hn)=true:=by simpa using h
  clear h;exact uc
 .have q1:decide (t<0)=false:=by simp;omega
  have cN:decide (t>=hn)=false:=by simp;omega
  exact uc
theorem lj{cj cY:Nat}(h:rF w s t f O bn hn cj cY n fc IA i ic S l lc)(U z:Value)(hc:Nat):
  Calls prog 55 #[.agg #[U,z,.slice (some ⟨O,bn,none⟩) hn hc,.int .i64 s.fault],.int .i64 t] w λe ab=>e=.returned (.pointer (some ⟨cj,cY+n*4,none⟩))/\Ext w ab:=by
 rw[h.fault];exact yf U z O bn hn hc cj cY n fc t w h.t0 h.tn h.lb h.cell h.nb
namespace CO
theorem lX(h:p:=by
 obtain⟨a0,aj,af⟩:=aR.two;obtain⟨bl,aA,aO⟩:=cB.two;replace ck:=(aw.cell (j:=bn+t.toNat) dp λh=>h).trans ck
 replace c0:=(aw.cell (j:=cY+n*4) cx λh=>h).trans c0
 replace c1:=(aw.cell (j:=cY+n*4+1) cx λh=>h).trans c1
 replace c2:=(aw.cell (j:=cY+n*4+2) cx λh=>h).trans c2
 replace c3:=(aw.cell (j:=cY+n*4+3) cx λh=>h).trans c3
 obtain⟨bo,a3⟩:=aJ aw cB;clear be aw aR cB dp cx;go_wp2_with(fail);generalize hX:World.setCell _ _ _=X;obtain⟨br,bs,cz⟩:=bw (w:=w) [.int .i64 f.proc,.int .i64 f.pc,.slice IA i ic,.slice S l lc] (by rfl) a3.o bo.o ad hX;have aQ:=ae bs;clear hX bs cz a0 aj af bl aA aO c0 c1 c2 c3 ck;obtain⟨bl,aA,aO⟩:=br.two;refine LU (v:=.tuple #[.agg #[.int .i64 f.proc,.int .i64 f.pc,.slice IA i ic,.slice S l lc],.bool true]) (by simp[results,Tryz.results75,go_sem,bl]) rfl ?_;exact⟨rfl,aQ.o⟩
 ):p:=h
end CO
open CO in
theorem nP{cj cY:Nat}(h:rF w s t f O bn hn cj cY n fc IA i ic S l lc)(U z:Value)(hc:Nat):
  Calls prog 75 #[.agg #[U,z,.slice (some ⟨O,bn,none⟩) hn hc,.int .i64 s.fault],.int .i64 t] w λe ab=>e=.returned (.tuple #[.agg #[.int .i64 f.proc,.int .i64 f.pc,.slice IA i ic,.slice S l lc],.bool true])/\Ext w ab:=by
 obtain⟨ac,h0,al,dp,cx,ck,c0,c1,c2,c3,_,_,_,_,_,_,ap⟩:=h;rw[ac];have q1:decide (t<0)=false:=by simp;omega
 have cN:decide (t>=hn)=false:=by simp;omega
 have df:(((n+1:Nat):Int) == 0)=false:=by simp;omega
 clear ac;go_enter func75,ntmps75;exact lW
namespace CP
theorem lX(h:p:=by
 obtain⟨a0,aj,af⟩:=aR.two;obtain⟨bl,aA,aO⟩:=cB.two;replace ck:=(aw.cell (j:=bn+t.toNat) T λh=>h).trans ck
 have bo:=ag aw cB;clear be aw aR cB;by_cases hm:m=0
 .subst hm;clear dD;exact BG
 .have df:((m:Int) == 0)=false:=by simp;omega
  have dd:(z != 0)=true:=by simpa using dD.resolve_left hm
  clear dD hm;exact BG
 ):p:=h
end CP
open CP in
theorem zi(s:ai)(GA TA HA:L3)(gn gc tn tc hn hc:Nat)(t:Int)(w:World)(h:lS w (av w) s GA gn TA tn HA hn)(ht:de s t=none) :
  Calls prog 75 #[.agg #[.slice GA gn gc,.slice TA tn tc,.slice HA hn hc,.int .i64 s.fault],.int .i64 t] w λe ab=>e=.returned (.tuple #[.agg #[.int .i64 0,.int .i64 0,.slice none 0 0,.slice none 0 0],.bool false])/\Ext w ab:=by
 have f:t<0\/(hn:Int)<=t\/(0<=t/\t<hn/\∃O bn FA m fc,HA=some ⟨O,bn,none⟩/\O<w.heap.size/\w.cell? ⟨O,bn+t.toNat,none⟩=some (.slice FA m fc)/\(m=0\/s.fault≠0)):=by
  by_cases ac:t<0
  .exact .inl ac
  by_cases au:(hn:Int)<=t
  .exact .inr (.inl au)
  refine .inr (.inr ⟨ad,ad,?_⟩);obtain⟨O,bn,fs,FA,m,fc,rfl,T,bA,hc,hm,J⟩:=h.h.kp (k:=t.toNat) ad;refine⟨O,bn,FA,m,fc,rfl,T,hc,?_⟩;rcases sr h ht with aY|aY|aY|⟨_,_,aT,cK,cM,cH,he,_,aZ⟩
  .exact .inr aY
  .omega
  .omega
  .injection he with he;injection he with ar bL;subst ar bL;rw[hc] at aZ;injection aZ with aZ;injection aZ with _ aZ _;exact .inl aZ
 clear h ht;generalize bv:s.fault=z at *;clear bv;rcases f with h|h|⟨ac,au,O,bn,FA,m,fc,rfl,T,ck,dD⟩
 .have q1:decide (t<0)=true:=by simpa using h
  exact GX
 .have q1:decide (t<0)=false:=by simp;omega
  have cN:decide (t>=hn)=true:=by simpa using h
  exact GX
 .have q1:decide (t<0)=false:=by simp;omega
  have cN:decide (t>=hn)=false:=by simp;omega
  go_enter func75,ntmps75;exact lW
end Go.Proofs.YtkhnkojkplbioaaGreat

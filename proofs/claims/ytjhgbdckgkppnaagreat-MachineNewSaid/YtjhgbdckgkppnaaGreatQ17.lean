/- Part 17 of the proof (McC McD McE McF McG), without conditions of its own. -/
import Derived.Test.YtjhgbdckgkppnaaGreatQ16
namespace Go.Proofs.YtjhgbdckgkppnaaGreat
open Go.RowKit Go.Proofs.Tryz
set_option maxRecDepth 1000000
set_option maxHeartbeats 25600000
set_option linter.unusedVariables false
variable{t:Int}{fc hn l lc n tn:Nat}{HA TA bj:GR}{rest:PT}{p:Prop}
theorem Dv:b0 prog 78 76 (.agg #[.int .i64 0,.int .i64 0,.slice none 0 0,.slice none 0 0]) 4 64:=b0.mk' Tryz.underlying78 (by kernel_rfl) rfl ad
theorem z0:b0 prog 38 80 (.agg #[.slice none 0 0]) 1 24:=b0.mk' Tryz.underlying38 (by kernel_rfl) rfl ad
theorem Own.al{w ab:World}{e:TypeId}{z c:Nat}{A:GR}{xs:List Value}{F:List Nat}(h:Own w e z A n c xs F)(he:Ext w ab):Own ab e z A n c xs F:=h.ao fun b O=>he.block b (h.lt b O) fun h=>h
abbrev Fm(W:World)(s:an)(gn tn:Nat)(G:Nat)(bc:GR)(aN:Nat)(a3:GR)(L:Nat)(V:World):Prop:=Ext W V∧ag V G 40 #[.slice none 0 0,.slice none 0 0,.slice none 0 0,.int .i64 0]∧W.heap.size≤G∧Own V 3 1 bc gn aN (s.globals.map dV) (bB bc gn aN)∧Own V 87 2 a3 tn L (s.table.flatMap bZ) (bB a3 tn L)∧(∀b∈bB bc gn aN,W.heap.size≤b∧b≠G)∧(∀b∈bB a3 tn L,W.heap.size≤b∧b≠G∧b∉bB bc gn aN)
structure DM(aQ wr:World)(fs:List aq)(j:Nat)(FA:GR)(fc:Nat)(cd:List Value)(bI bq:List Nat):Prop where
 ext:Ext aQ wr
 o:Own wr 76 4 FA j fc cd bI
 f:jg nt wr (fs.take j) cd bq
 nd:(bI++bq).Nodup
 lo:∀b∈bI++bq,aQ.heap.size≤b∧b<wr.heap.size
theorem DM.al{aQ wr ab:World}{fs:List aq}{j:Nat}{FA:GR}{fc:Nat}{cd:List Value}{bI bq:List Nat}(h:DM aQ wr fs j FA fc cd bI bq)(he:Ext wr ab):DM aQ ab fs j FA fc cd bI bq:=
 ⟨h.ext.trans he,h.o.al he,h.f.ao nt.ao fun b O=>he.block b (h.lo b (by simp[O])).2 fun h=>h,h.nd,fun b O=>⟨(h.lo b O).1,Gc (h.lo b O).2 he.size⟩⟩
theorem DM.step{aQ wr:World}{fs:List aq}{j:Nat}{FA:GR}{cd:List Value}{bI bq:List Nat}(h:DM aQ wr fs j FA fc cd bI bq){f:aq}(bu:fs[j]?=some f){a b c:World}{IA:GR}{i ic:Nat}
  (ar:Ext wr a) (hI:Own a 3 1 IA i ic (f.ints.map dV) (bB IA i ic)) (g:∀x∈bB IA i ic,wr.heap.size≤x∧x<a.heap.size) (aJ:i=f.ints.length)
  (bE:Ext a b) (ca:Own b 3 1 bj l lc (f.av.map dV) (bB bj l lc)) (bv:∀x∈bB bj l lc,a.heap.size≤x∧x<b.heap.size) (hl:l=f.av.length)
  {cj:GR} {b6:Nat} (bi:Own c 76 4 cj (j+1) b6 (cd++[.int .i64 f.proc,.int .i64 f.pc,.slice IA i ic,.slice bj l lc]) (bB cj (j+1) b6)) (aw:Fr (fun x=>x∈bI) b c) (d:∀x∈bB cj (j+1) b6,x∈bI∨(b.heap.size≤x∧x<c.heap.size)) :
  DM aQ c fs (j+1) cj b6 (cd++[.int .i64 f.proc,.int .i64 f.pc,.slice IA i ic,.slice bj l lc]) (bB cj (j+1) b6) (bq++(bB IA i ic++bB bj l lc)):=by
 have u:=h.ext.size;have s1:=ar.size;have s2:=bE.size;have aW:=aw.size;have O:=(h.al ar).al bE;have bN:∀x∈bI,x<wr.heap.size:=fun x hx=>(h.lo x (by simp[hx])).2;have a2:∀x∈bq,x∉bI:=fun x hx ac=>(List.nodup_append.1 h.nd).2.2 x ac x hx rfl;have bL:nt c f [.int .i64 f.proc,.int .i64 f.pc,.slice IA i ic,.slice bj l lc] (bB IA i ic++bB bj l lc):=
  ⟨IA,i,ic,bj,l,lc,_,_,rfl,rfl,aJ,hl,(hI.al bE).ao fun x hx=>aw.block x (aB (g x hx)) fun ac=>by have:=g x hx;have:=bN x ac;omega,ca.ao fun x hx=>aw.block x (bv x hx).2 fun ac=>by have:=bv x hx;have:=bN x ac;omega⟩
 refine⟨Fr.low (M:=fun x=>x∈bI) (Fr.trans (Fr.mono O.ext fun _ h=>h.elim) aw) fun x hx=>(h.lo x (by simp[hx])).1,bi,?_,?_,fun x hx=>?_⟩
 ·rw[bo bu];exact(O.f.ao nt.ao fun x hx=>aw.block x (by have:=(h.lo x (by simp[hx])).2;omega) (a2 x hx)).snoc bL
 ·refine uM (a:=wr.heap.size) (b:=b.heap.size) h.nd (fun x hx=>(h.lo x hx).2) (Ee (m:=a.heap.size) (eX _ _ _) (eX _ _ _) (fun x hx=>(g x hx).2) fun x hx=>(bv x hx).1) (fun x hx=>?_) (eX _ _ _) (fun x hx=>(d x hx).imp id fun h=>h.1) ad;rcases Gk.1 hx with hx|hx
  ·have:=g x hx;omega
  ·have:=bv x hx;omega
 ·simp only[Gk] at hx;rcases hx with hx|hx|hx|hx
  ·rcases d x hx with ac|ac
   ·have:=h.lo x (by simp[ac]);omega
   ·omega
  ·have:=h.lo x (by simp[hx]);omega
  ·have:=g x hx;omega
  ·have:=bv x hx;omega
section
variable {P:Program} {ops:Array Oper} {Q:Exit→Act→World→Prop} {R:World→World→Prop} {tails:List Nat}
theorem tO{α β γ δ ε:Type}{aa:α→β→γ→δ→ε→Act}{C:α→β→γ→δ→ε→World→Prop}{G:Prop}(h:(∀x y z u v V,C x y z u v V→cN P ops Q R tails rest (aa x y z u v) V)→G)(key:∀x y z u v V,C x y z u v V→cN P ops Q R tails rest (aa x y z u v) V):G:=h key
end
theorem Ej{P:Program}{ops:Array Oper}{Q:Exit→Act→World→Prop}{R:World→World→Prop}{tails:List Nat}{a:Act}{W:World}(C:World→Prop)(hC:C W)(h:∀V,C V→cN P ops Q R tails rest a V):cN P ops Q R tails rest a W:=h W hC
def EC(w:World)(s:an)(gn tn hn:Nat)(e:Ending)(ab:World):Prop:=∃GA gc TA tc HA hc xs ak ar bS bX,e=.returned (.agg #[.slice GA gn gc,.slice TA tn tc,.slice HA hn hc,.int .i64 s.fault])∧oR ab s GA gn gc TA tn tc HA hn hc xs ak ar bS bX∧(∀b∈ak++(ar++(bS++bX)),w.heap.size≤b∧b<ab.heap.size)∧Ext w ab
namespace ze
theorem h6(h:p:=by
 refine ax rfl (fun K hK=>?_);rw[if_pos (by rfl)];refine u0 Dv (.tmp 32) (.tmp 44) rfl aG (cs:=#[.int .i64 f.proc,.int .i64 f.pc,.slice E i I,.slice bn l cr]) rfl rfl rfl (by simp[Value.oneCell']) ad ad ?_;intro cj b6 bJ b4 g2 cD;refine hK _ _ ?_;clear hK K
 try simp only[PU]
 refine pf ?_;refine aD ?_;have aZ:=ae (cn.1.step bT.1 (Fr.aE H1.2.2) H1.1 (fun x hx=>H1.2.1 x hx) bT.2.1 bk.2.2 bk.1 bk.2.1 bT.2.2 b4 g2 cD);clear b4 g2 cD aG a6 aL aP;go_wp2_with (fail);go_roundw
 case rel=>exact⟨j+1,cj,b6,_,_,_,rfl,by go_num,ad,aZ.o⟩
 case measure=>simp[intOf];omega
 ):p:=h
theorem gz(h:p:=by
 refine bU ?_;generalize ah:World.setCell _ _ _=X;obtain⟨bz,br,cz⟩:=cx (w:=W) [.slice bc gn aN,.slice a3 tn L,.slice none 0 0,.int .i64 s.fault] (by rfl) bt S bv ah;have a7:=a1.lt;have bm:=n.lt;have aE:CL W.heap.size X s bc gn aN a3 tn L G 0 none 0 [] [] []:=by
  refine⟨⟨bB.1,bB.2.1,rfl,a1.ao fun b O=>cz.block b (a7 b O) (aJ b O).2,n.ao fun b O=>cz.block b (bm b O) (J b O).2.1,⟨World.ownsRow_nil _ _ _ _,rfl⟩,⟨rfl,rfl⟩,?_⟩,bz,?_,fun b O=>?_,bv⟩
  ·simp only[GF];exact List.nodup_append.2 ⟨eX _ _ _,eX _ _ _,fun a aV b O a9=>(J b O).2.2 (a9▸aV)⟩
  ·simp only[GF,Gk];rintro(O|O)
   ·exact(aJ _ O).2 rfl
   ·exact(J _ O).2.1 rfl
  ·simp only[GF,Gk] at O;have:=cz.size;rcases O with O|O
   ·exact⟨(aJ b O).1,by have:=a7 b O;omega⟩
   ·exact⟨(J b O).1,by have:=bm b O;omega⟩
 obtain⟨a0,al,af⟩:=(aj.2.1.al br).two;have aU:=ai aE br;clear a6 aL aP ah bz br cz a7 bm aE S bt a1 n aJ J;go_wp2_with (fail);clear a0 al af;go_loopw [21] (fun cp wr=>∃(k:Nat) (bF:GR) (a2:Nat) (xs:List Value) (bS bX:List Nat),cp=.int .i64 k∧k≤hn∧CL W.heap.size wr s bc gn aN a3 tn L G k bF a2 xs bS bX∧Ext W wr) (fun cp _=>hn - (intOf cp).toNat)
 case atStart=>exact⟨0,none,0,[],[],[],rfl,ad,aU.1,aU.2⟩
 case round=>
  obtain⟨k,bF,a2,xs,bS,bX,rfl,ap,hC,e⟩:=hrel;obtain⟨cu,rfl⟩:∃cu,cu=wr:=⟨wr,rfl⟩
  clear aU;have bs:=ai hC e;have cc:G<cu.heap.size:=hC.o.lt;by_cases ao:k<hn
  ·obtain⟨b,o,fs,bH,m,c0,rfl,O,bu,bZ,hm,bp⟩:=(aj.2.2.2.on e).h.mF ao;have cf:b<cu.heap.size:=O;have aC:m=fs.length:=by have:=bp.1;simpa using this.symm
   have g:=aX.f fs (Ge bu);have b9:m≤1000000:=by have:=g.1;omega
   have bW:=bO bu bp aC g.2;clear hC e O bu bp aC g;go_upto_region 6 with(fail);generalize hV:World.alloc _ _=V;have S:Ext cu V:=hV▸GN.alloc _;have bP:ag V cu.heap.size 80 #[.slice bH m c0]:=hV▸GO;have cg:=ai S (bW.2.1.on (Fr.ext S));obtain⟨a6,aL,aP⟩:=bP.two;clear hV S bP bZ;go_wp2_with (fail);clear a6 aL aP;go_loopw [6,28] (fun d8 bf wr=>∃(j:Nat) (FA:GR) (fc:Nat) (cd:List Value) (bI bq:List Nat),d8=.slice FA j fc∧bf=.int .i64 j∧j≤m∧DM V wr fs j FA fc cd bI bq) (fun _ bf _=>m - (intOf bf).toNat)
   case atStart=>exact⟨0,none,0,[],[],[],rfl,rfl,ad,GN,⟨World.ownsRow_nil _ _ _ _,rfl⟩,⟨rfl,rfl⟩,by simp,fun b O=>by simp at O⟩
   case round=>
    obtain⟨j,FA,fc,cd,bI,bq,rfl,rfl,ba,hI⟩:=hrel;have cW:=ae hI;by_cases T:j<m
    ·obtain⟨bY,cI,f,IA,i,ic,bj,l,lc,rfl,ci,ay,c0,c1,c2,c3,Z,aM,t,b2⟩:=(cg.2.on (Fr.ext hI.ext)).n3 T;have bV:bY<wr.heap.size:=ci;have cq:i=f.ints.length:=by have:=t.1;simpa using this.symm
     have bG:l=f.av.length:=by have:=b2.1;simpa using this.symm
     have bR:=bW.2.2.2 f (Ge ay);have ck:i≤100000:=ad;have bQ:l≤100000:=ad;have bT:=aK ay cq bG;have aT:=ai t b2;clear hI ci ay cq bG bR t b2 Z aM;go_upto_region 9 with(fail);generalize hU:World.alloc _ _=U;have ab:Ext wr U:=hU▸GN.alloc _;have a8:ag U wr.heap.size 76 #[.int .i64 f.proc,.int .i64 f.pc,.slice IA i ic,.slice bj l lc]:=hU▸GO;have cn:=aK (cW.al ab) (aT.1.on (Fr.ext ab)) (aT.2.on (Fr.ext ab));obtain⟨a6,aL,aP⟩:=a8.two;clear hU ab a8 c0 c1 c2 c3 aT;refine eh (fun _=>False) [(0,3),(1,3),(2,0),(3,3),(4,0),(5,3),(6,0),(8,3),(9,0),(7,1),(10,1),(11,3),(12,2),(13,2),(14,3)] ?_
     iterate 2 refine pf ?_
     refine ph ?_;refine pf ?_;refine ph ?_;refine pf ?_;refine ph ?_;refine pf ?_;refine ph ?_;refine aA rfl (fun K hK=>?_);go_simp;refine(Sl.kA (Sl.on cn.2.1 (Fr.ext (Fr.refl _ U).drew)) ad).mono ?_;rintro r aH ⟨E,I,rfl,y,N,ar⟩;have H1:=aK y N ar;refine hK _ _ (ar) ?_;clear hK K
     try simp only[PU]
     clear y N ar;refine aA rfl (fun K hK=>?_);go_simp;refine(Sl.kA (Sl.on cn.2.2 (Fr.ext (Fr.aE H1.2.2))) ad).mono ?_;rintro r aQ ⟨bn,cr,rfl,b3,aq,bE⟩;have bk:=aK b3 aq bE;refine hK _ _ (bE) ?_;clear hK K
     try simp only[PU]
     clear b3 aq bE;have aG:=((cn.1.o.al (Fr.aE H1.2.2)).al bk.2.2)
     refine pf ?_;exact h5
    ·obtain rfl:j=m:=ad;have F:Ext cu wr:=cg.1.trans hI.ext;have aw:=ae (bs.1.al F);have bh:=ae F;obtain⟨a6,aL,aP⟩:=aw.o.o.two;have aO:=aw.st.h;have bo:G∉bS:=fun h=>aw.ne (by simp[h]);clear hI F;go_wp2_with (at_builtin;refine mK z0 rfl (.tmp 48) (.tmp 51) rfl aO (cs:=#[.slice FA j fc]) rfl rfl rfl (by simp[Value.oneCell']) ad ad ?_;intro ct ce bJ b4 g2 cD;have bL:=aw.o.o.on g2 bo;have cK:=bO b4 g2 cD bL;clear b4 g2 cD a6 aL aP;obtain⟨e0,bl,a5⟩:=bL.two;clear bL);go_roundw
     case rel=>
      have aS:=cW.f;rw[Gj (aB bW.2.2.1)] at aS;have bN:=cW.lo;have cv:=cg.1.size;exact⟨k+1,ct,ce,_,_,_,by go_num,ad,bs.1.step bW.1 bh.o cW.o.o aS bW.2.2.1 cW.nd (fun b O=>⟨by have:=bN b O;omega,(bN b O).2⟩) cK.1 cK.2.1 cK.2.2.1 rfl,
       Fr.low (M:=fun b=>b∈bS∨b=G) (Fr.trans (Fr.mono (bs.2.trans bh.o) fun _ h=>h.elim) (Fr.setCell (Fr.mono cK.2.1 fun _ h=>.inl h) (.inl (.inr rfl)) _)) fun b O=>by
        rcases O with O|O
        ·exact(bs.1.lo b (by simp[O])).1
        ·rw[O];exact bs.1.go⟩
     case measure=>simp[intOf];omega
  ·obtain rfl:k=hn:=ad;obtain⟨a6,aL,aP⟩:=hC.o.two;have aI:=aj.2.2.1.al e;obtain⟨bx,bd,be⟩:=aI.two;have am:=aj.1.trans e;have a4:=ai aI am;clear hC e aI am;go_wp2_with (fail);generalize cb:World.setCell _ _ _=Y;obtain⟨bA,bw,bb⟩:=cx (w:=w) [.slice bc gn aN,.slice a3 tn L,.slice bF k a2,.int .i64 s.fault] (by rfl) a4.1 a4.2 ad cb;have bM:=ai bw bb;clear cb bw bb a6 aL aP bx bd be;obtain⟨bx,bd,be⟩:=bA.two;refine GM (v:=.agg #[.slice bc gn aN,.slice a3 tn L,.slice bF k a2,.int .i64 s.fault]) (by simp[results,Tryz.results50,go_sem,bx]) rfl ?_;have b8:=bs.1.st;rw[Gj (aB bB.2.2)] at b8;have bN:=bs.1.lo;have cH:=bK.o;refine⟨bc,aN,a3,L,bF,a2,xs,_,_,bS,bX,rfl,b8.ao fun b O=>bM.2.block b (bN b O).2 (aB (bN b O)),fun b O=>?_,bM.1⟩;have:=bN b O;have:=bM.2.size;omega
 ):p:=h
theorem fN(h:p:=by
 have cw:ag W w.heap.size 40 #[.slice GA gn gc,.slice TA tn tc,.slice HA hn hc,.int .i64 s.fault]:=bg▸(GO).alloc _;have bD:ag W (w.heap.size+1) 40 #[.slice none 0 0,.slice none 0 0,.slice none 0 0,.int .i64 0]:=bg▸ag.bR _ _ _ (by simp);have cH:W.heap.size=w.heap.size+2:=by rw[←bg];simp
 have aj:=bO av cw bD (aF.on av);obtain⟨a0,al,af⟩:=cw.two;have bK:=ae cH;clear bg av cw bD cH;refine o2 (fun _=>False) [10] (.free 0 (.held 1 (.free 3 (.held 4 (.free 6 (.held 7 (.pick [2,9] (fun i=>bif i == 2 then .pick [5,9] (fun i=>bif i == 5 then .free 8 (.pick [9] (fun _=>.pick [10] (fun _=>.stop))) else .pick [5] (fun _=>.free 8 (.pick [10] (fun _=>.stop)))) else .pick [2] (fun _=>.pick [5] (fun _=>.free 8 (.pick [10] (fun _=>.stop)))))))))))) ?_;refine tf ?_;refine th ?_;refine tf ?_;refine th ?_;refine tf ?_;refine th ?_;refine tO (P:=?dn) (ops:=?dS) (Q:=?co) (R:=?fg) (tails:=?dc) (rest:=.pick [10] (fun _=>.stop)) (aa:=?aa) (C:=Fm W s gn tn) (fun key=>?main) ?key
 case main=>
  refine aR ?_ ?_
  ·
   refine az rfl (fun K hK=>?_) rfl;go_simp;refine(Sl.kA (aj.2.2.2.on (Fr.refl _ W).drew).g ad).mono ?_;rintro r aH ⟨bc,aN,rfl,y,N,ar⟩;have s1:=ar.size;have co:W.drew.heap.size=W.heap.size:=rfl;refine hK _ _ (ar) ?_;clear hK K
   try simp only[PU]
   refine aR ?_ ?_
   ·
    refine az rfl (fun K hK=>?_) rfl;go_simp;refine(Sl.sS (aj.2.2.2.on (Fr.aE ar)).t ad).mono ?_;rintro r aQ ⟨a3,L,rfl,b3,aq,bE⟩;have s2:=bE.size;refine hK _ _ (bE) ?_;clear hK K
    try simp only[PU]
    refine tf ?_;refine ak ?_;refine dU ?_;have hC:Fm W s gn tn (aQ.heap.size) bc aN a3 L (aQ.alloc (.cells #[.slice none 0 0,.slice none 0 0,.slice none 0 0,.int .i64 0] 40)):=by
     refine⟨((Fr.aE ar).trans bE).alloc _,GO,ad,(y.al bE).al (GN.alloc _),b3.al (GN.alloc _),fun b O=>?_,fun b O=>⟨?_,?_,fun ac=>?_⟩⟩
     ·have:=N b O;omega
     ·have:=aq b O;omega
     ·have:=aq b O;omega
     ·have:=aq b O;have:=N b ac;omega
    generalize aQ.heap.size=cG at hC ⊢;exact key cG bc aN a3 L _ hC
   ·
    refine dU ?_;refine Ej (fun V=>Ext aH V∧ag V aH.heap.size 40 #[.slice none 0 0,.slice none 0 0,.slice none 0 0,.int .i64 0]∧aH.heap.size<V.heap.size) ⟨GN.alloc _,GO,(GO).lt⟩ (fun V hV=>?_);refine ak ?_;refine az rfl (fun K hK=>?_) rfl;go_simp;refine(Sl.sS ((aj.2.2.2.on (Fr.aE ar)).on hV.1).t ad).mono ?_;rintro r aQ ⟨a3,L,rfl,b3,aq,bE⟩;have s2:=bE.size;have aW:=hV.1.size;refine hK _ _ (bE) ?_;clear hK K
    try simp only[PU]
    refine tf ?_;have hC:Fm W s gn tn (aH.heap.size) bc aN a3 L aQ:=by
     refine⟨((Fr.aE ar).trans hV.1).trans bE,hV.2.1.al bE,ad,(y.al hV.1).al bE,b3,fun b O=>?_,fun b O=>⟨?_,?_,fun ac=>?_⟩⟩
     ·have:=N b O;omega
     ·have:=aq b O;omega
     ·have:=aq b O;have:=hV.2.2;omega
     ·have:=aq b O;have:=N b ac;omega
    generalize aH.heap.size=cG at hC ⊢;exact key cG bc aN a3 L _ hC
  ·
   refine dU ?_;refine Ej (fun V=>Ext W V∧ag V W.heap.size 40 #[.slice none 0 0,.slice none 0 0,.slice none 0 0,.int .i64 0]∧W.heap.size<V.heap.size) ⟨(GN.drew).alloc _,ag.new W.drew _ _,(ag.new W.drew _ _).lt⟩ (fun V hV=>?_);refine ak ?_;refine az rfl (fun K hK=>?_) rfl;go_simp;refine(Sl.kA (aj.2.2.2.on hV.1).g ad).mono ?_;rintro r aH ⟨bc,aN,rfl,y,N,ar⟩;have s1:=ar.size;have u:=hV.1.size;refine hK _ _ (ar) ?_;clear hK K
   try simp only[PU]
   refine ak ?_;refine az rfl (fun K hK=>?_) rfl;go_simp;refine(Sl.sS ((aj.2.2.2.on hV.1).on ar).t ad).mono ?_;rintro r aQ ⟨a3,L,rfl,b3,aq,bE⟩;have s2:=bE.size;refine hK _ _ (bE) ?_;clear hK K
   try simp only[PU]
   refine tf ?_;have hC:Fm W s gn tn (W.heap.size) bc aN a3 L aQ:=by
    refine⟨(hV.1.trans ar).trans bE,(hV.2.1.al ar).al bE,ad,y.al bE,b3,fun b O=>?_,fun b O=>⟨?_,?_,fun ac=>?_⟩⟩
    ·have:=N b O;have:=hV.2.2;omega
    ·have:=aq b O;omega
    ·have:=aq b O;have:=hV.2.2;omega
    ·have:=aq b O;have:=N b ac;omega
   generalize W.heap.size=cG at hC ⊢;exact key cG bc aN a3 L _ hC
 intro G bc aN a3 L V ⟨S,bt,bv,a1,n,aJ,J⟩;obtain⟨a6,aL,aP⟩:=bt.two;clear a0 al af;exact gy
 ):p:=h
end ze
open ze in
theorem eS(s:an)(GA TA HA:GR)(gn gc tn tc hn hc:Nat)(w:World)(h:kW w (au w) s GA gn TA tn HA hn)(H:Small s) :
  Calls prog 50 #[.agg #[.slice GA gn gc,.slice TA tn tc,.slice HA hn hc,.int .i64 s.fault]] w (EC w s gn tn hn):=by
 have bC:gn=s.globals.length:=by have:=h.g.1;simpa using this.symm
 have bi:tn=s.table.length:=by have:=h.t.1;simpa using this.symm
 have z:hn=s.threads.length:=by have:=h.h.1;simpa using this.symm
 have cl:gn≤100000:=by have:=H.g;omega
 have b0:tn≤5000:=by have:=H.t;omega
 have dB:hn≤1000:=by have:=H.h;omega
 have bB:=aK bC bi z;have aX:=ae H;have aF:=ae h;clear h H bC bi z;go_enter func50,ntmps50;exact fM
def v7(w:World)(op num:Int)(ga:ByteArray)(l:List VE)(e:Ending)(ab:World):Prop:=∃A n c,e=.returned (.agg #[.int .i64 op,.int .i64 num,.string ga,.slice A n c])∧n≤c∧Sl ab (fresh w ab) A n (l.map a4)∧Ext w ab
def t5(x:VE):Prop:=∀(w:World) (A:GR) (n c:Nat),Sl w (au w) A n (x.args.map a4)→Calls prog 61 #[.agg #[.int .i64 x.aU,.int .i64 x.numOf,.string x.aZ,.slice A n c]] w (v7 w x.aU x.numOf x.aZ x.args)
namespace zf
theorem di(h:p:=by
 generalize ah:World.setCell aQ _ _=Y;have bb:Fr (fun b=>b=w.heap.size) aQ Y:=ah▸(Fr.refl (fun b=>b=w.heap.size) aQ).setCell (.inl rfl) _;have L:=ae (show Ext w Y∧ag Y w.heap.size 55 #[.int .i64 op,.int .i64 num,.string ga,.slice cl (k+1) c3]∧ag Y (w.heap.size+1) 55 #[.int .i64 0,.int .i64 0,.string ⟨#[]⟩,.slice none 0 0]∧Gr (fun b=>w.heap.size+2≤b) (w.heap.size+2) 55 4 Y cl (k+1) c3 ((l.take (k+1)).map a4) from
  ⟨Fr.low (M:=fun b=>b=w.heap.size) (Fr.trans (Fr.mono bk.1 fun _ h=>h.elim) bb) fun b O=>ad,by rw[←ah];exact bk.2.1.aH 3 _,bk.2.2.1.on bb ad,by
   rw[bo bM.1,Gi];exact bk.2.2.2.cZ bb fun b O _=>⟨ad,ad⟩⟩)
 clear ah bb a0 al af bL;go_wp2;go_roundw
 case rel=>exact⟨k+1,cl,c3,by go_num,ad,L.o⟩
 case measure=>simp[intOf];omega
 ):p:=h
theorem ss(h:p:=by
 have bM:=ai a3 cF;have bs:=ae (cW.o y (Ge a3));clear a3 Q cF Z a1 O av aT b6 bR;go_upto_region 6 with(fail);generalize hU:World.alloc _ _=U;have ab:Ext wr U:=hU▸GN.alloc _;have a8:ag U wr.heap.size 55 #[.int .i64 y.aU,.int .i64 y.numOf,.string y.aZ,.slice aS dl cE]:=hU▸GO;have cu:=ab.size;have bD:=aU.2.1.al ab;have cn:=cA (aU.1.trans ab) bD (aU.2.2.1.al ab) (aU.2.2.2.al ab) (bM.2.on (Fr.ext ab));obtain⟨a6,aL,aP⟩:=a8.two;obtain⟨a0,al,af⟩:=bD.two;clear hU ab a8 bD c0 c1 c2 c3 aN;refine eh (fun _=>False) [(0,3),(1,0),(2,0),(3,1),(4,1),(5,2),(6,3),(7,2)] ?_;refine pf ?_
 iterate 2 refine ph ?_
 refine aA rfl (fun K hK=>?_);go_simp;refine(bs.o _ _ _ _ (cn.2.2.2.2.on (Fr.ext (Fr.refl _ U).drew))).mono ?_;rintro e aH ⟨bQ,aJ,zc,rfl,bV,cG,ar⟩;have H1:=aK cG bV ar;refine hK _ _ (ar) ?_;clear hK K
 try simp only[PU]
 have aI:Ext U aH:=Fr.aE ar;have bl:=cn.2.2.2.1.al aI;have b7:=aI.size;have I:∀b,(Value.slice az k aG).ownBlock=some b→b<U.heap.size:=fun b O=>(cn.2.2.2.1.lt O).2;have hd:(a4 y).rep aH (j2 (fun b=>w.heap.size+2≤b) aH (.slice az k aG)) (#[.int .i64 y.aU,.int .i64 y.numOf,.string y.aZ,.slice bQ aJ zc]:Array Value).toList:=
  aV.2 ⟨bQ,aJ,zc,rfl,bV,cG.mono fun b O=>⟨by have:=O.1;have:U.drew.heap.size=U.heap.size:=rfl;omega,O.2,fun h=>by have:=I b h;have:=O.1;have:U.drew.heap.size=U.heap.size:=rfl;omega⟩⟩
 have bv:=ai bl hd;clear cG bV ar bl hd I;refine uQ ?_;refine ax rfl (fun K hK=>?_);rw[if_pos (by rfl)];refine lI lQ (.tmp 16) (.tmp 19) rfl bv.1 bv.2 rfl rfl rfl ad ad ad ?_;intro cl c3 aQ b4 g2 cD cP;have bN:∀b,(Value.slice az k aG).ownBlock=some b→w.heap.size+2≤b:=fun b O=>(bv.1.lt O).1;have bL:=(cn.2.1.al aI).on g2 (fun h=>by have:=bN _ h;omega);have b5:=(cn.2.2.1.al aI).on g2 (fun h=>by have:=bN _ h;omega);have ay:Ext w aQ:=Fr.low (M:=fun b=>(Value.slice az k aG).ownBlock=some b) (Fr.trans (Fr.mono (cn.1.trans aI) fun _ h=>h.elim) g2) fun b O=>by have:=bN b O;omega
 have bk:=bO ay bL b5 b4;clear b4 g2 cD cP bN b5 ay a0 al af a6 aL aP;obtain⟨a0,al,af⟩:=bL.two;exact pZ
 ):p:=h
end zf
open zf in
theorem eW(op num:Int)(ga:ByteArray)(l:List VE)(aa:∀y∈l,t5 y)(hl:l.length≤2)(w:World)(A:GR)(n c:Nat)(h:Sl w (au w) A n (l.map a4)) :
  Calls prog 61 #[.agg #[.int .i64 op,.int .i64 num,.string ga,.slice A n c]] w (v7 w op num ga l):=by
 have hn:n≤2:=by have:=h.1;simp at this;omega
 have g:=ae (show l.length=n by have:=h.1;simpa using this);have H:=ae h;have cW:=ae aa;clear h aa hl;go_enter func61,ntmps61;go_upto_region 1 with(fail);generalize bg:World.alloc _ _=W;have t:Ext w W:=bg▸(GN.alloc _).alloc _;have bt:ag W w.heap.size 55 #[.int .i64 op,.int .i64 num,.string ga,.slice A n c]:=bg▸(GO).alloc _;have f:ag W (w.heap.size+1) 55 #[.int .i64 0,.int .i64 0,.string ⟨#[]⟩,.slice none 0 0]:=bg▸ag.bR _ _ _ (by simp);obtain⟨a0,al,af⟩:=bt.two;clear bg;go_upto_region 3 with(fail);generalize ah:World.setCell _ _ _=X;have aw:Fr (fun b=>b=w.heap.size) W X:=ah▸(Fr.refl (fun b=>b=w.heap.size) W).setCell (.inl rfl) _;have av:Ext w X:=Fr.low (M:=fun b=>b=w.heap.size) (Fr.trans (Fr.mono t fun _ h=>h.elim) aw) fun b O=>ad;have aT:ag X w.heap.size 55 #[.int .i64 op,.int .i64 num,.string ga,.slice none 0 0]:=ah▸bt.aH 3 _;have b6:ag X (w.heap.size+1) 55 #[.int .i64 0,.int .i64 0,.string ⟨#[]⟩,.slice none 0 0]:=f.on aw ad;clear aw t bt f a0 al af;have aU:=aK av aT b6;clear ah av aT b6;go_wp2_with (fail);go_loopw [11] (fun cp wr=>∃(k:Nat) (az:GR) (aG:Nat),cp=.int .i64 k∧k≤n∧Ext w wr∧ag wr w.heap.size 55 #[.int .i64 op,.int .i64 num,.string ga,.slice az k aG]∧ag wr (w.heap.size+1) 55 #[.int .i64 0,.int .i64 0,.string ⟨#[]⟩,.slice none 0 0]∧Gr (fun b=>w.heap.size+2≤b) (w.heap.size+2) 55 4 wr az k aG ((l.take k).map a4)) (fun cp _=>n - (intOf cp).toNat)
 case atStart=>exact⟨0,none,0,rfl,ad,aU.1,aU.2.1,aU.2.2,Gr.nil _ _ _ _ _⟩
 case round=>
  obtain⟨k,az,aG,rfl,ap,av,aT,b6,bR⟩:=hrel;clear aU;have aU:=bO av aT b6 bR;have b3:=b6.lt;by_cases ao:k<n
  ·obtain⟨b,o,y,cs,rfl,O,a3,Q,a1,Z⟩:=(H.on (Fr.ext av)).fJ cS ao;exact sr
  ·obtain rfl:k=n:=ad;obtain⟨a0,al,af⟩:=aT.two;obtain⟨bx,bd,be⟩:=b6.two;clear av aT b6 bR;go_wp2_with (fail);generalize ah:World.setCell _ _ _=Y;obtain⟨bA,bw,bb⟩:=cx (w:=w) [.int .i64 op,.int .i64 num,.string ga,.slice az k aG] (by rfl) aU.2.2.1 aU.1 ad ah;have bM:=ai bw bb;clear ah bw bb a0 al af bx bd be;obtain⟨bx,bd,be⟩:=bA.two;refine GM (v:=.agg #[.int .i64 op,.int .i64 num,.string ga,.slice az k aG]) (by simp[results,Tryz.results61,go_sem,bx]) rfl ?_;have aM:=aU.2.2.2.cZ bM.2 fun b O _=>⟨ad,ad⟩
   rw[Gj (aB g.o)] at aM;exact⟨az,k,aG,rfl,aM.cap.1,aM.sl (fun b ao O=>⟨ad,ao⟩) (fun b ao O=>⟨ad,ao⟩),bM.1⟩
theorem iC:∀x:VE,t5 x
 | .num n=>fun w A m c h=>eW 1 n ⟨#[]⟩ [] (by simp) (by simp) w A m c h
 | .ga s=>fun w A m c h=>eW 2 0 s [] (by simp) (by simp) w A m c h
 | .loc k=>fun w A m c h=>eW 18 k ⟨#[]⟩ [] (by simp) (by simp) w A m c h
 | .hR k=>fun w A m c h=>eW 19 k ⟨#[]⟩ [] (by simp) (by simp) w A m c h
 | .un op x=>fun w A m c h=>eW op 0 ⟨#[]⟩ [x] (fun y a3=>by rw[GH.1 a3];exact iC x) (by simp) w A m c h
 | .bin op x y=>fun w A m c h=>eW op 0 ⟨#[]⟩ [x,y] (fun z bv=>by
   simp only[Gt,List.not_mem_nil,or_false] at bv;rcases bv with bv|bv
   ·rw[bv];exact iC x
   ·rw[bv];exact iC y) (by simp) w A m c h
theorem vw(o:Option VE)(w:World)(eo en:Int)(es:ByteArray)(A:GR)(n c:Nat)(h:(mR o).rep w (au w) [.int .i64 eo,.int .i64 en,.string es,.slice A n c]) :
  Calls prog 61 #[.agg #[.int .i64 eo,.int .i64 en,.string es,.slice A n c]] w fun e ab=>∃az L aG,e=.returned (.agg #[.int .i64 eo,.int .i64 en,.string es,.slice az L aG])∧(mR o).rep ab (fresh w ab) [.int .i64 eo,.int .i64 en,.string es,.slice az L aG]∧Ext w ab:=by
 cases o with
 | none=>
  obtain⟨A2,c2,e⟩:=eA.1 h;simp only[List.cons.injEq,and_true] at e;obtain⟨e1,e2,e3,ch⟩:=e;injection e1 with _ e1;injection e2 with _ e2;injection e3 with e3;injection ch with ch bT a4;subst e1 e2 e3 ch bT a4;refine(eW 0 0 ⟨#[]⟩ [] (by simp) (by simp) w _ 0 c (Sl.bu _)).mono ?_;rintro e ab ⟨az,L,aG,rfl,ac,J,aS⟩;obtain rfl:L=0:=J.1.symm
  exact⟨az,0,aG,rfl,eA.2 ⟨az,aG,rfl⟩,aS⟩
 | some x=>
  obtain⟨A2,bl,c2,e,hc,hs⟩:=aV.1 h;simp only[List.cons.injEq,and_true] at e;obtain⟨e1,e2,e3,ch⟩:=e;injection e1 with _ e1;injection e2 with _ e2;injection e3 with e3;injection ch with ch bT a4;subst e1 e2 e3 ch bT a4;refine(iC x w _ _ _ hs).mono ?_;rintro e ab ⟨az,L,aG,rfl,ac,J,aS⟩;exact⟨az,L,aG,rfl,aV.2 ⟨az,L,aG,rfl,ac,J⟩,aS⟩
def DN(w:World)(l:List VE)(e:Ending)(ab:World):Prop:=∃A n c,e=.returned (.slice A n c)∧n≤c∧Sl ab (fresh w ab) A n (l.map a4)∧Ext w ab
namespace zg
theorem ss(h:p:=by
 have bM:=ai a3 cF;clear a3 Q cF Z a1 O av bR;go_upto_region 5 with(fail);generalize hU:World.alloc _ _=U;have ab:Ext wr U:=hU▸GN.alloc _;have a8:ag U wr.heap.size 55 #[.int .i64 y.aU,.int .i64 y.numOf,.string y.aZ,.slice aS dl cE]:=hU▸GO;have cu:=ab.size;have cn:=aK (aU.1.trans ab) (aU.2.al ab) (bM.2.on (Fr.ext ab));obtain⟨a6,aL,aP⟩:=a8.two;clear hU ab a8 c0 c1 c2 c3 aN;go_wp2_with (fail);refine(iC y _ _ _ _ cn.2.2).mono ?_;rintro e aH ⟨bQ,aJ,zc,rfl,bV,cG,aI⟩;have bl:=cn.2.1.al aI;have b7:=aI.size;have I:∀b,(Value.slice az k aG).ownBlock=some b→b<U.heap.size:=fun b O=>(cn.2.1.lt O).2;have hd:(a4 y).rep aH (j2 (fun b=>w.heap.size≤b) aH (.slice az k aG)) (#[.int .i64 y.aU,.int .i64 y.numOf,.string y.aZ,.slice bQ aJ zc]:Array Value).toList:=
  aV.2 ⟨bQ,aJ,zc,rfl,bV,cG.mono fun b O=>⟨by have:=O.1;omega,O.2,fun h=>by have:=I b h;have:=O.1;omega⟩⟩
 have H1:=aK (cn.1.trans aI) bl hd;clear cG bV aI bl hd I a6 aL aP;go_wp2_with (at_builtin;refine bS lQ rfl (.tmp 12) (.tmp 15) rfl H1.2.1 H1.2.2 rfl rfl rfl ad ad ad ?_;intro cl c3 aQ b4 g2 cD cP;have bB:=ai b4 g2;clear b4 g2 cD cP);have bN:∀b,(Value.slice az k aG).ownBlock=some b→w.heap.size≤b:=fun b O=>(H1.2.1.lt O).1;have aO:Ext w aQ:=Fr.low (M:=fun b=>(Value.slice az k aG).ownBlock=some b) (Fr.trans (Fr.mono H1.1 fun _ h=>h.elim) bB.2) fun b O=>bN b O;have aW:=ae aO;clear bN aO;go_roundw
 case rel=>exact⟨k+1,cl,c3,rfl,by go_num,ad,aW.o,by rw[bo bM.1,Gi];exact bB.1⟩
 case measure=>simp[intOf];omega
 ):p:=h
end zg
open zg in
theorem oc(l:List VE)(hl:l.length≤100000)(w:World)(A:GR)(n c:Nat)(h:Sl w (au w) A n (l.map a4)) :
  Calls prog 63 #[.slice A n c] w (DN w l):=by
 have ce:l.length=n:=by have:=h.1;simpa using this
 have hn:n≤100000:=ad;have g:=ae ce;have H:=ae h;clear h hl ce;go_enter func63,ntmps63;go_wp2_with (fail);go_loopw [3,8] (fun sv cp wr=>∃(k:Nat) (az:GR) (aG:Nat),sv=.slice az k aG∧cp=.int .i64 k∧k≤n∧Ext w wr∧Gr (fun b=>w.heap.size≤b) w.heap.size 55 4 wr az k aG ((l.take k).map a4)) (fun _ cp _=>n - (intOf cp).toNat)
 case atStart=>exact⟨0,none,0,rfl,rfl,ad,GN,Gr.nil _ _ _ _ _⟩
 case round=>
  obtain⟨k,az,aG,rfl,rfl,ap,av,bR⟩:=hrel;have aU:=ai av bR;have b9:=av.size;by_cases ao:k<n
  ·obtain⟨b,o,y,cs,rfl,O,a3,Q,a1,Z⟩:=(H.on (Fr.ext av)).fJ cS ao;exact sr
  ·obtain rfl:k=n:=ad;clear av bR;go_wp2_with (fail);go_ret;have aM:=aU.2;rw[Gj (aB g.o)] at aM;exact⟨az,k,aG,rfl,aM.cap.1,aM.sl (fun b ao O=>⟨O,ao⟩) (fun b ao O=>⟨O,ao⟩),aU.1⟩
theorem oe(p:bK)(w:World)(A:GR)(n c:Nat)(h:(cV p).rep w (au w) [.bool p.param,.int .i64 p.index,.slice A n c]) :
  Calls prog 62 #[.agg #[.bool p.param,.int .i64 p.index,.slice A n c]] w fun e ab=>∃az L aG,e=.returned (.agg #[.bool p.param,.int .i64 p.index,.slice az L aG])∧(cV p).rep ab (fresh w ab) [.bool p.param,.int .i64 p.index,.slice az L aG]∧Ext w ab:=by
 obtain⟨A2,bl,c2,e,hc,hs⟩:=dY.1 h;simp only[List.cons.injEq,and_true,true_and] at e;injection e with ch bT a4;subst ch bT a4;have H:=ae hs;have hJ:p.at_.toList.length≤100000:=by cases p.at_<;>simp
 clear h hs hc;generalize i:p.param=eN;generalize j:p.index=pi;have b9:=ai i j;clear i j;go_enter func62,ntmps62;go_upto_region 1 with(fail);generalize bg:World.alloc _ _=W;have t:Ext w W:=bg▸(GN.alloc _).alloc _;have bt:ag W w.heap.size 57 #[.bool eN,.int .i64 pi,.slice A n c]:=bg▸(GO).alloc _;have f:ag W (w.heap.size+1) 57 #[.bool false,.int .i64 0,.slice none 0 0]:=bg▸ag.bR _ _ _ (by simp);have aj:=bO t bt f (H.on (Fr.ext t));have cH:=f.lt;obtain⟨a0,al,af⟩:=bt.two;clear bg t bt f;go_wp2_with (fail);refine(oc _ hJ W _ _ _ aj.2.2.2).mono ?_;rintro e aH ⟨bQ,aJ,zc,rfl,bV,cG,aI⟩;have b7:=aI.size;have cw:=aj.2.1.al aI;have g:=aj.2.2.1.al aI;have H1:=cA (aj.1.trans aI) bV cG cw g;clear a0 al af;obtain⟨a0,al,af⟩:=cw.two;clear cw g aI bV cG;go_upto_region 2 with(fail);generalize ah:World.setCell _ _ _=X;have aw:Fr (fun b=>b=w.heap.size) aH X:=ah▸(Fr.refl (fun b=>b=w.heap.size) aH).setCell (.inl rfl) _;have av:Ext w X:=Fr.low (M:=fun b=>b=w.heap.size) (Fr.trans (Fr.mono H1.1 fun _ h=>h.elim) aw) fun b O=>ad;have aT:ag X w.heap.size 57 #[.bool eN,.int .i64 pi,.slice bQ aJ zc]:=ah▸H1.2.2.2.1.aH 2 _;have b6:ag X (w.heap.size+1) 57 #[.bool false,.int .i64 0,.slice none 0 0]:=H1.2.2.2.2.on aw ad;have aU:=aK av aw b6;clear ah a0 al af;obtain⟨a0,al,af⟩:=aT.two;obtain⟨bx,bd,be⟩:=b6.two;clear aw av aT b6;go_wp2_with (fail);generalize ah:World.setCell _ _ _=Y;obtain⟨bA,bw,bb⟩:=cx (w:=w) [.bool eN,.int .i64 pi,.slice bQ aJ zc] (by rfl) aU.2.2 aU.1 ad ah;have bM:=ai bw bb
 clear ah bw bb a0 al af bx bd be;obtain⟨bx,bd,be⟩:=bA.two;refine GM (v:=.agg #[.bool eN,.int .i64 pi,.slice bQ aJ zc]) (by simp[results,Tryz.results62,go_sem,bx]) rfl ?_;have cd:w.heap.size+1<aH.heap.size:=ad;refine⟨bQ,aJ,zc,rfl,?_,bM.1⟩;rw[←b9.1,←b9.2];refine dY.2 ⟨bQ,aJ,zc,rfl,H1.2.1,(H1.2.2.1.ao fun b O=>(bM.2.block b (kk O.2 aU.2.1.size) (aB O.1)).trans (aU.2.1.block b O.2 (aB O.1))).mono fun b O=>⟨by have:=O.1;omega,by have:=O.2;have:=aU.2.1.size;have:=bM.2.size;omega⟩⟩
structure qR(w:World)(s:an)(t:Int)(f:aq)(O bi hn bY cI n fc:Nat)(IA:GR)(i ic:Nat)(bj:GR)(l lc:Nat):Prop where
 fault:s.fault=0
 t0:0≤t
 tn:t<hn
 lb:O<w.heap.size
 lf:bY<w.heap.size
 cell:w.cell? ⟨O,bi+t.toNat,none⟩=some (.slice (some ⟨bY,cI,none⟩) (n+1) fc)
 c0:w.cell? ⟨bY,cI+n*4,none⟩=some (.int .i64 f.proc)
 c1:w.cell? ⟨bY,cI+n*4+1,none⟩=some (.int .i64 f.pc)
 c2:w.cell? ⟨bY,cI+n*4+2,none⟩=some (.slice IA i ic)
 c3:w.cell? ⟨bY,cI+n*4+3,none⟩=some (.slice bj l lc)
 F6:i≤ic
 lcs:l≤lc
 ints:Sl w (au w) IA i (f.ints.map D.i)
 av:Sl w (au w) bj l (f.av.map D.i)
 th:∃fs,s.threads[t.toNat]?=some (fs++[f])∧fs.length=n
 n1:n+1≤fc
 nb:n≤1000000
theorem qR.on{w ab:World}{s:an}{t:Int}{f:aq}{O bi hn bY cI n fc:Nat}{IA:GR}{i ic:Nat}{bj:GR}{l lc:Nat}(h:qR w s t f O bi hn bY cI n fc IA i ic bj l lc)(he:Ext w ab):qR ab s t f O bi hn bY cI n fc IA i ic bj l lc:=
 ⟨h.fault,h.t0,h.tn,Gc h.lb he.size,Gc h.lf he.size,(he.cell h.lb fun h=>h).trans h.cell,(he.cell h.lf fun h=>h).trans h.c0,(he.cell h.lf fun h=>h).trans h.c1,(he.cell h.lf fun h=>h).trans h.c2,(he.cell h.lf fun h=>h).trans h.c3,h.F6,h.lcs,h.ints.on (Fr.ext he),h.av.on (Fr.ext he),h.th,h.n1,h.nb⟩
theorem kW.top{w:World}{s:an}{GA:GR}{gn:Nat}(h:kW w (au w) s GA gn TA tn HA hn)(H:Small s){f:aq}(ht:ei s t=some f):
  ∃O bi bY cI n fc IA i ic bj l lc,HA=some ⟨O,bi,none⟩∧qR w s t f O bi hn bY cI n fc IA i ic bj l lc:=by
 obtain⟨h0,ac,fs,bu⟩:=iK ht;have hl:=h.h.1;rw[Gf] at hl;have ap:=(List.getElem?_eq_some_iff.1 bu).1;obtain⟨O,bi,a,FA,m,fc,rfl,R,g,hc,hm,aw⟩:=h.h.mF (k:=t.toNat) ad;rw[bu] at g;injection g with g;subst g;have aC:=aw.1;simp at aC;obtain⟨bY,cI,cz,IA,i,ic,bj,l,lc,rfl,ci,ay,c0,c1,c2,c3,J,aS,bo,cr⟩:=aw.n3 (k:=fs.length) ad;simp at ay;subst ay;subst aC;exact⟨O,bi,bY,cI,fs.length,fc,IA,i,ic,bj,l,lc,rfl,h0,ac,ad,R,ci,hc,c0,c1,c2,c3,J,aS,bo,cr,⟨fs,bu,rfl⟩,hm,by have:=(H.f _ (Ge bu)).1;simp at this;omega⟩
theorem uL(N a:Value)(O bi hn hc bY cI n fc:Nat)(t:Int)(w:World)(h0:0≤t)(ao:t<hn)(dB:O<w.heap.size)(aW:w.cell? ⟨O,bi+t.toNat,none⟩=some (.slice (some ⟨bY,cI,none⟩) (n+1) fc))(m:n≤1000000) :
  Calls prog 54 #[.agg #[N,a,.slice (some ⟨O,bi,none⟩) hn hc,.int .i64 0],.int .i64 t] w fun e ab=>e=.returned (.pointer (some ⟨bY,cI+n*4,none⟩))∧Ext w ab:=by
 have co:decide (t<0)=false:=by simp;omega
 have ej:decide (t≥hn)=false:=by simp;omega
 have cT:(((n+1:Nat):Int) == 0)=false:=by simp;omega
 exact qT
theorem vO{w:World}{s:an}{GA:GR}{gn:Nat}(h:kW w (au w) s GA gn TA tn HA hn)(ht:ei s t=none):
  s.fault≠0∨t<0∨(hn:Int)≤t∨(0≤t∧t<hn∧∃O bi FA fc,HA=some ⟨O,bi,none⟩∧O<w.heap.size∧w.cell? ⟨O,bi+t.toNat,none⟩=some (.slice FA 0 fc)):=by
 by_cases h0:s.fault≠0
 ·exact .inl h0
 by_cases ac:t<0
 ·exact .inr (.inl ac)
 by_cases J:(hn:Int)≤t
 ·exact .inr (.inr (.inl J))
 refine .inr (.inr (.inr ⟨ad,ad,?_⟩));obtain⟨O,bi,fs,FA,m,fc,rfl,R,bu,hc,hm,aw⟩:=h.h.mF (k:=t.toNat) ad;unfold ei at ht;rw[if_neg ad,bu] at ht;have bp:fs=[]:=by simpa using ht
 have aC:=aw.1;rw[bp] at aC;simp at aC;subst aC;exact⟨O,bi,FA,fc,rfl,R,hc⟩
theorem vx(s:an)(GA TA HA:GR)(gn gc tn tc hn hc:Nat)(t:Int)(w:World)(h:kW w (au w) s GA gn TA tn HA hn)(ht:ei s t=none) :
  Calls prog 54 #[.agg #[.slice GA gn gc,.slice TA tn tc,.slice HA hn hc,.int .i64 s.fault],.int .i64 t] w fun e ab=>e=.returned (.pointer none)∧Ext w ab:=by
 have j:=vO h ht;clear h ht;generalize bv:s.fault=z at *;clear bv;by_cases h0:z=0
 case neg=>
  have dN:(z != 0)=true:=by simpa using h0
  clear j h0;exact qT
 subst h0;rcases j with h|h|h|⟨ac,J,O,bi,FA,fc,rfl,R,aW⟩
 ·exact absurd rfl h
 ·have co:decide (t<0)=true:=by simpa using h
  clear h;exact qT
 ·have co:decide (t<0)=false:=by simp;omega
  have ej:decide (t≥hn)=true:=by simpa using h
  clear h;exact qT
 ·have co:decide (t<0)=false:=by simp;omega
  have ej:decide (t≥hn)=false:=by simp;omega
  exact qT
theorem j7{w:World}{s:an}{f:aq}{O bi bY cI:Nat}{IA:GR}{i ic:Nat}(h:qR w s t f O bi hn bY cI n fc IA i ic bj l lc)(N a:Value)(hc:Nat):
  Calls prog 54 #[.agg #[N,a,.slice (some ⟨O,bi,none⟩) hn hc,.int .i64 s.fault],.int .i64 t] w fun e ab=>e=.returned (.pointer (some ⟨bY,cI+n*4,none⟩))∧Ext w ab:=by
 rw[h.fault];exact uL N a O bi hn hc bY cI n fc t w h.t0 h.tn h.lb h.cell h.nb
structure UV where
 GA:Option Addr
 gn:Nat
 gc:Nat
 MA:Option Addr
 mn:Nat
 mc:Nat
 PA:Option Addr
 pn:Nat
 pc:Nat
structure SV where
 GA:Option Addr
 gn:Nat
 gc:Nat
 TA:Option Addr
 tn:Nat
 tc:Nat
 HA:Option Addr
 hn:Nat
 hc:Nat
abbrev UV.val(p:UV)(u:aF):Array Value:=#[.slice p.GA p.gn p.gc,.slice p.MA p.mn p.mc,.slice p.PA p.pn p.pc,.int .i64 u.main]
abbrev SV.val(q:SV)(s:an):Array Value:=#[.slice q.GA q.gn q.gc,.slice q.TA q.tn q.tc,.slice q.HA q.hn q.hc,.int .i64 s.fault]
structure UV.Ok(p:UV)(w:World)(u:aF):Prop where
 at_:gv w (au w) u p.GA p.gn p.MA p.mn p.PA p.pn
 gc:p.gn≤p.gc
 mc:p.mn≤p.mc
 pc:p.pn≤p.pc
structure SV.Ok(q:SV)(w:World)(s:an):Prop where
 at_:kW w (au w) s q.GA q.gn q.TA q.tn q.HA q.hn
 gc:q.gn≤q.gc
 tc:q.tn≤q.tc
 hc:q.hn≤q.hc
theorem UV.Ok.on{p:UV}{w ab:World}{u:aF}(h:p.Ok w u)(he:Ext w ab):p.Ok ab u:=⟨h.at_.on he,h.gc,h.mc,h.pc⟩
theorem SV.Ok.on{q:SV}{w ab:World}{s:an}(h:q.Ok w s)(he:Ext w ab):q.Ok ab s:=⟨h.at_.on he,h.gc,h.tc,h.hc⟩
theorem nP{u:aF}(hU:cU u):elems u.af≤5000:=by
 have ac:=eY u.af;have J:=dy hU.BB;omega
theorem a1.small{u:aF}{N:Nat}{s:an}(hU:cU u)(h:a1 u N s)(hD:N≤100000):Small s:=by
 refine⟨by have:=h.da;have:=hU.mB;omega,by have:=h.table;have:=dy hU.BB;omega,by have:=h.Bs;omega,fun t ht=>⟨by have:=(h.eC t ht).1;omega,fun f aw=>?_⟩⟩;obtain⟨p,hp,_,ac,J⟩:=((h.eC t ht).2 f aw).ex;have:=hU.procs p (Ge hp);have:=this.ints;have:=(hU.procs p (Ge hp)).av;omega
section
variable {u:aF} {N:Nat} {s:an} {f:aq} {bh:c5} {pl:bK} {w:World} {GA MA IA QA:GR} {gn gc mn mc i ic qm qc:Nat}
theorem D9(hU:cU u)(hS:a1 u N s)(hF:bW u f)(hp:u.procs[f.proc.toNat]?=some bh)(hx:cT (bs u) bh.locals bh.av pl)(j:pl.param=false)
  (hm:Sl w (au w) MA mn (u.af.map d4)) (aM:Sl w (au w) GA gn (s.globals.map D.i)) (aJ:Sl w (au w) IA i (f.ints.map D.i)) (bu:(cV pl).rep w (au w) [.bool pl.param,.int .i64 pl.index,.slice QA qm qc]) :
  (qm=0∧cC u s f pl=(0,0))∨∃(e:VE) (k:Nat) (m:bF) (b o:Nat) (c0 c1 c2 c3:Value),QA=some ⟨b,o,none⟩∧qm=1∧pl.index=(k:Nat)∧CM w MA mn u.af GA IA gn i s.globals f.ints e k m b o c0 c1 c2 c3∧vZ s.globals f.ints e∧cC u s f pl=idx m.size (ev s.globals f.ints e):=by
 rcases hx with⟨ac,_⟩|⟨_,m,J,aS,bo,cr⟩
 ·rw[j] at ac;cases ac
 obtain⟨A2,bl,c2,e,_,hs⟩:=dY.1 bu;simp only[List.cons.injEq,and_true,true_and] at e;injection e with ch bT a4;subst ch bT a4;have aU:u.af[pl.index.toNat]?=some m:=aS;by_cases bv:0<m.size
 ·obtain⟨x,hx,v⟩:=bo bv;right;rw[hx] at hs;simp only[Option.toList_some,Gh,GC] at hs;obtain rfl:qm=1:=hs.1.symm;obtain⟨b,o,bD,Z,ay,E,rfl,O,aX,c0,c1,c2,c3⟩:=hs.AV (cS x);obtain⟨bi,g,_⟩:=uF hS hF hp v;have bC:=aM.1;have aA:=aJ.1;have bX:=hm.1;rw[Gf] at bC aA bX;have ap:=(List.getElem?_eq_some_iff.1 aU).1;refine⟨x,pl.index.toNat,m,b,o,bD,Z,ay,E,rfl,rfl,ad,⟨⟨aM.ints,aJ.ints,by rw[←bC,←aA];exact bi,jx x _ aX⟩,hm.ql,ad,aU,O,c0,c1,c2,c3⟩,g,?_⟩;unfold cC;rw[hx,aU];rfl
 ·left;rw[cr bv] at hs;refine⟨hs.1.symm,?_⟩;unfold cC;rw[cr bv]
theorem Ec(hU:cU u)(hS:a1 u N s)(hF:bW u f)(hp:u.procs[f.proc.toNat]?=some bh)(hx:cT (bs u) bh.locals bh.av pl)(j:pl.param=false)
  (hm:Sl w (au w) MA mn (u.af.map d4)) (aM:Sl w (au w) GA gn (s.globals.map D.i)) (aJ:Sl w (au w) IA i (f.ints.map D.i)) (bu:(cV pl).rep w (au w) [.bool pl.param,.int .i64 pl.index,.slice QA qm qc]) :
  Calls prog 68 #[.agg #[.bool false,.int .i64 pl.index,.slice QA qm qc],.slice MA mn mc,.slice GA gn gc,.slice IA i ic] w (jn w (cC u s f pl)):=by
 rcases D9 hU hS hF hp hx j hm aM aJ bu with⟨rfl,h⟩|⟨e,k,m,b,o,c0,c1,c2,c3,rfl,rfl,ap,hI,_,h⟩
 ·rw[h];exact r5 _ _ _ _ _ _ _ _
 ·rw[h,ap];exact u2 _ _ _ _ _ _ _ _ _ _ _ _ _ _ _ _ _ _ _ _ _ _ _ hI
end
end Go.Proofs.YtjhgbdckgkppnaaGreat

/- Part 17 of the proof. No condition of its own. -/
import Derived.Test.YtnhhdaggkiomoaaGreatQ16
namespace Go.Proofs.YtnhhdaggkiomoaaGreat
open Go.RowKit Go.Proofs.Tryz
set_option maxRecDepth 1000000
set_option maxHeartbeats 25600000
set_option linter.unusedVariables false
variable{t:Int}{O b1 bn c6 fc hn l lc n tn:Nat}{HA S TA:Ls}{rest:PT}{p:Prop}
theorem xr:ch prog 67 73 (.agg #[.int .i64 0,.int .i64 0,.slice none 0 0,.slice none 0 0]) 4 64:=ch.mk' Tryz.underlying67 (by kernel_rfl) rfl ad
theorem sx:ch prog 38 69 (.agg #[.slice none 0 0]) 1 24:=ch.mk' Tryz.underlying38 (by kernel_rfl) rfl ad
theorem Own.ai{w ab:World}{e:TypeId}{z c:Nat}{A:Ls}{xs:List Value}{F:List Nat}(h:Own w e z A n c xs F)(he:Ext w ab):Own ab e z A n c xs F:=h.ak fun b O=>he.block b (h.lt b O) fun h=>h
abbrev IT(W:World)(s:aj)(gn tn:Nat)(N:Nat)(aZ:Ls)(bc:Nat)(aX:Ls)(L:Nat)(V:World):Prop:=Ext W V∧aq V N 40 #[.slice none 0 0,.slice none 0 0,.slice none 0 0,.int .i64 0]∧W.heap.size≤N∧Own V 3 1 aZ gn bc (s.globals.map dc) (bq aZ gn bc)∧Own V 102 2 aX tn L (s.table.flatMap bJ) (bq aX tn L)∧(∀b∈bq aZ gn bc,W.heap.size≤b∧b≠N)∧(∀b∈bq aX tn L,W.heap.size≤b∧b≠N∧b∉bq aZ gn bc)
structure GV(aT wr:World)(fs:List al)(j:Nat)(FA:Ls)(fc:Nat)(cK:List Value)(bJ bD:List Nat):Prop where
 ext:Ext aT wr
 o:Own wr 73 4 FA j fc cK bJ
 f:ka o9 wr (fs.take j) cK bD
 nd:(bJ++bD).Nodup
 lo:∀b∈bJ++bD,aT.heap.size≤b∧b<wr.heap.size
theorem GV.ai{aT wr ab:World}{fs:List al}{j:Nat}{FA:Ls}{fc:Nat}{cK:List Value}{bJ bD:List Nat}(h:GV aT wr fs j FA fc cK bJ bD)(he:Ext wr ab):GV aT ab fs j FA fc cK bJ bD:=
 ⟨h.ext.trans he,h.o.ai he,h.f.ak o9.ak fun b O=>he.block b (h.lo b (by simp[O])).2 fun h=>h,h.nd,fun b O=>⟨(h.lo b O).1,KH (h.lo b O).2 he.size⟩⟩
theorem GV.step{aT wr:World}{fs:List al}{j:Nat}{FA:Ls}{cK:List Value}{bJ bD:List Nat}(h:GV aT wr fs j FA fc cK bJ bD){f:al}(bK:fs[j]?=some f){a b c:World}{IA:Ls}{i ic:Nat}
  (ar:Ext wr a) (hI:Own a 3 1 IA i ic (f.ints.map dc) (bq IA i ic)) (d:∀x∈bq IA i ic,wr.heap.size≤x∧x<a.heap.size) (an:i=f.ints.length)
  (bw:Ext a b) (bS:Own b 3 1 S l lc (f.av.map dc) (bq S l lc)) (bt:∀x∈bq S l lc,a.heap.size≤x∧x<b.heap.size) (hl:l=f.av.length)
  {cT:Ls} {cy:Nat} (bn:Own c 73 4 cT (j+1) cy (cK++[.int .i64 f.proc,.int .i64 f.pc,.slice IA i ic,.slice S l lc]) (bq cT (j+1) cy)) (J:Fr (fun x=>x∈bJ) b c) (r:∀x∈bq cT (j+1) cy,x∈bJ∨(b.heap.size≤x∧x<c.heap.size)) :
  GV aT c fs (j+1) cT cy (cK++[.int .i64 f.proc,.int .i64 f.pc,.slice IA i ic,.slice S l lc]) (bq cT (j+1) cy) (bD++(bq IA i ic++bq S l lc)):=by
 have am:=h.ext.size;have s1:=ar.size;have s2:=bw.size;have T:=J.size;have O:=(h.ai ar).ai bw;have bv:∀x∈bJ,x<wr.heap.size:=fun x hx=>(h.lo x (by simp[hx])).2;have bf:∀x∈bD,x∉bJ:=fun x hx ac=>(List.nodup_append.1 h.nd).2.2 x ac x hx rfl;have bE:o9 c f [.int .i64 f.proc,.int .i64 f.pc,.slice IA i ic,.slice S l lc] (bq IA i ic++bq S l lc):=
  ⟨IA,i,ic,S,l,lc,_,_,rfl,rfl,an,hl,(hI.ai bw).ak fun x hx=>J.block x (aD (d x hx)) fun ac=>by have:=d x hx;have:=bv x ac;omega,bS.ak fun x hx=>J.block x (bt x hx).2 fun ac=>by have:=bt x hx;have:=bv x ac;omega⟩
 refine⟨Fr.low (M:=fun x=>x∈bJ) (Fr.trans (Fr.mono O.ext fun _ h=>h.elim) J) fun x hx=>(h.lo x (by simp[hx])).1,bn,?_,?_,fun x hx=>?_⟩
 ·rw[aZ bK];exact(O.f.ak o9.ak fun x hx=>J.block x (by have:=(h.lo x (by simp[hx])).2;omega) (bf x hx)).snoc bE
 ·refine xJ (a:=wr.heap.size) (b:=b.heap.size) h.nd (fun x hx=>(h.lo x hx).2) (Hq (m:=a.heap.size) (eW _ _ _) (eW _ _ _) (fun x hx=>(d x hx).2) fun x hx=>(bt x hx).1) (fun x hx=>?_) (eW _ _ _) (fun x hx=>(r x hx).imp id fun h=>h.1) ad;rcases KP.1 hx with hx|hx
  ·have:=d x hx;omega
  ·have:=bt x hx;omega
 ·simp only[KP] at hx;rcases hx with hx|hx|hx|hx
  ·rcases r x hx with ac|ac
   ·have:=h.lo x (by simp[ac]);omega
   ·omega
  ·have:=h.lo x (by simp[hx]);omega
  ·have:=d x hx;omega
  ·have:=bt x hx;omega
section
variable {P:Program} {ops:Array Oper} {Q:Exit→Act→World→Prop} {R:World→World→Prop} {tails:List Nat}
theorem wS{α β γ δ ε:Type}{aa:α→β→γ→δ→ε→Act}{C:α→β→γ→δ→ε→World→Prop}{G:Prop}(h:(∀x y z u v V,C x y z u v V→cP P ops Q R tails rest (aa x y z u v) V)→G)(key:∀x y z u v V,C x y z u v V→cP P ops Q R tails rest (aa x y z u v) V):G:=h key
end
theorem Hv{P:Program}{ops:Array Oper}{Q:Exit→Act→World→Prop}{R:World→World→Prop}{tails:List Nat}{a:Act}{W:World}(C:World→Prop)(hC:C W)(h:∀V,C V→cP P ops Q R tails rest a V):cP P ops Q R tails rest a W:=h W hC
def HW(w:World)(s:aj)(gn tn hn:Nat)(e:Ending)(ab:World):Prop:=∃GA gc TA tc HA hc xs F1 F2 bQ cb,e=.returned (.agg #[.slice GA gn gc,.slice TA tn tc,.slice HA hn hc,.int .i64 s.fault])∧qO ab s GA gn gc TA tn tc HA hn hc xs F1 F2 bQ cb∧(∀b∈F1++(F2++(bQ++cb)),w.heap.size≤b∧b<ab.heap.size)∧Ext w ab
namespace Cb
theorem eQ(h:p:=by
 refine b3 ?_;generalize hX:World.setCell _ _ _=X;obtain⟨bo,br,cg⟩:=bA (w:=W) [.slice aZ gn bc,.slice aX tn L,.slice none 0 0,.int .i64 s.fault] (by rfl) an bj Z hX;have aR:=a5.lt;have a4:=g.lt;have n:FU W.heap.size X s aZ gn bc aX tn L N 0 none 0 [] [] []:=by
  refine⟨⟨b4.1,b4.2.1,rfl,a5.ak fun b O=>cg.block b (aR b O) (I b O).2,g.ak fun b O=>cg.block b (a4 b O) (u b O).2.1,⟨World.ownsRow_nil _ _ _ _,rfl⟩,⟨rfl,rfl⟩,?_⟩,bo,?_,fun b O=>?_,Z⟩
  ·simp only[Lg];exact List.nodup_append.2 ⟨eW _ _ _,eW _ _ _,fun a bx b O ay=>(u b O).2.2 (ay▸bx)⟩
  ·simp only[Lg,KP];rintro(O|O)
   ·exact(I _ O).2 rfl
   ·exact(u _ O).2.1 rfl
  ·simp only[Lg,KP] at O;have:=cg.size;rcases O with O|O
   ·exact⟨(I b O).1,by have:=aR b O;omega⟩
   ·exact⟨(u b O).1,by have:=a4 b O;omega⟩
 obtain⟨a0,ai,af⟩:=(ah.2.1.ai br).two;have aQ:=ag n br;clear d0 aL aM hX bo br cg aR a4 n bj an a5 g I u;go_wp2_with(fail);clear a0 ai af;go_loopw [21] (fun cu wr=>∃(k:Nat) (bf:Ls) (a3:Nat) (xs:List Value) (bQ cb:List Nat),cu=.int .i64 k∧k≤hn∧FU W.heap.size wr s aZ gn bc aX tn L N k bf a3 xs bQ cb∧Ext W wr) (fun cu _=>hn - (intOf cu).toNat)
 case atStart=>exact⟨0,none,0,[],[],[],rfl,ad,aQ.1,aQ.2⟩
 case round=>
  obtain⟨k,bf,a3,xs,bQ,cb,rfl,ap,hC,y⟩:=hrel;obtain⟨cN,rfl⟩:∃cN,cN=wr:=⟨wr,rfl⟩
  clear aQ;have bR:=ag hC y;have ci:N<cN.heap.size:=hC.o.lt;by_cases ak:k<hn
  ·obtain⟨b,o,fs,bk,m,c0,rfl,O,bK,bn,hm,cj⟩:=(ah.2.2.2.on y).h.lA ak;have b0:b<cN.heap.size:=O;have ce:m=fs.length:=by have:=cj.1;simpa using this.symm
   have z:=a8.f fs (KJ bK);have aV:m≤1000000:=by have:=z.1;omega
   have bV:=bH bK cj ce z.2;clear hC y O bK cj ce z;go_upto_region 6 with(fail);generalize hV:World.alloc _ _=V;have bj:=aU hV;have b5:=aG hV;have cc:=ag bj (bV.2.1.on (Fr.ext bj));obtain⟨d0,aL,aM⟩:=b5.two;clear hV bj b5 bn;go_wp2_with(fail);clear d0 aL aM;go_loopw [6,28] (fun bP cI wr=>∃(j:Nat) (FA:Ls) (fc:Nat) (cK:List Value) (bJ bD:List Nat),bP=.slice FA j fc∧cI=.int .i64 j∧j≤m∧GV V wr fs j FA fc cK bJ bD) (fun _ cI _=>m - (intOf cI).toNat)
   case atStart=>exact⟨0,none,0,[],[],[],rfl,rfl,ad,Lo,⟨World.ownsRow_nil _ _ _ _,rfl⟩,⟨rfl,rfl⟩,by simp,fun b O=>by simp at O⟩
   case round=>
    obtain⟨j,FA,fc,cK,bJ,bD,rfl,rfl,bi,hI⟩:=hrel;have cp:=ae hI;by_cases dq:j<m
    ·obtain⟨b1,c6,f,IA,i,ic,S,l,lc,rfl,cx,G,c0,c1,c2,c3,aN,a2,J,cf⟩:=(cc.2.on (Fr.ext hI.ext)).pQ dq;have bh:b1<wr.heap.size:=cx;have cD:i=f.ints.length:=by have:=J.1;simpa using this.symm
     have bO:l=f.av.length:=by have:=cf.1;simpa using this.symm
     have be:=bV.2.2.2 f (KJ G);have b7:i≤100000:=ad;have bp:l≤100000:=ad;have bY:=aB G cD bO;have aF:=ag J cf;clear hI cx G cD bO be J cf aN a2;go_upto_region 9 with(fail);generalize hU:World.alloc _ _=U;have cl:=aU hU;have cX:=aG hU;have cz:=aB (cp.ai cl) (aF.1.on (Fr.ext cl)) (aF.2.on (Fr.ext cl));obtain⟨d0,aL,aM⟩:=cX.two;clear hU cl cX c0 c1 c2 c3 aF;refine eK (fun _=>False) [(0,3),(1,3),(2,0),(3,3),(4,0),(5,3),(6,0),(8,3),(9,0),(7,1),(10,1),(11,3),(12,2),(13,2),(14,3)] ?_
     iterate 2 refine pf ?_
     refine ph ?_;refine pf ?_;refine ph ?_;refine pf ?_;refine ph ?_;refine pf ?_;refine ph ?_;refine aJ rfl (fun K hK=>?_);go_simp;refine(Sl.lQ (Sl.on cz.2.1 (Fr.ext (Fr.refl _ U).drew)) ad).mono ?_;rintro r aS ⟨F,c8,rfl,E,aK,ar⟩;have H1:=aB E aK ar;refine dz hK (ar) ?_;clear hK K;clear E aK ar;refine aJ rfl (fun K hK=>?_);go_simp;refine(Sl.lQ (Sl.on cz.2.2 (Fr.ext (Fr.aF H1.2.2))) ad).mono ?_;rintro r aT ⟨a9,cq,rfl,al,az,bw⟩;have bG:=aB al az bw;refine dz hK (bw) ?_;clear hK K;clear al az bw;have ab:=((cz.1.o.ai (Fr.aF H1.2.2)).ai bG.2.2)
     refine pf ?_;refine ax rfl (fun K hK=>?_);go_simp;refine dO hK ?_;clear hK K;refine ax rfl (fun K hK=>?_);rw[if_pos (by rfl)];refine x4 xr (.tmp 32) (.tmp 44) rfl ab (cs:=#[.int .i64 f.proc,.int .i64 f.pc,.slice F i c8,.slice a9 l cq]) rfl rfl rfl (by simp[Value.oneCell']) ad ad ?_;intro cT cy b6 cd g2 cS;refine dO hK ?_;clear hK K;refine pf ?_;refine aE ?_;have aW:=ae (cz.1.step bY.1 (Fr.aF H1.2.2) H1.1 (fun x hx=>H1.2.1 x hx) bY.2.1 bG.2.2 bG.1 bG.2.1 bY.2.2 cd g2 cS);clear cd g2 cS ab d0 aL aM;go_wp2_with(fail);go_roundw
     case rel=>exact⟨j+1,cT,cy,_,_,_,rfl,by go_num,ad,aW.o⟩
     case measure=>exact aH
    ·obtain rfl:j=m:=ad;have e:Ext cN wr:=cc.1.trans hI.ext;have H:=ae (bR.1.ai e);have bq:=ae e;obtain⟨d0,aL,aM⟩:=H.o.o.two;have bm:=H.st.h;have ds:N∉bQ:=fun h=>H.ne (by simp[h]);clear hI e;go_wp2_with(at_builtin;refine oe sx rfl (.tmp 48) (.tmp 51) rfl bm (cs:=#[.slice FA j fc]) rfl rfl rfl (by simp[Value.oneCell']) ad ad ?_;intro bW b9 b6 cd g2 cS;have bF:=H.o.o.on g2 ds;have cC:=bH cd g2 cS bF;clear cd g2 cS d0 aL aM;obtain⟨e0,a6,aP⟩:=bF.two;clear bF);go_roundw
     case rel=>
      have av:=cp.f;rw[KO (aD bV.2.2.1)] at av;have bv:=cp.lo;have dm:=cc.1.size;exact⟨k+1,bW,b9,_,_,_,by go_num,ad,bR.1.step bV.1 bq.o cp.o.o av bV.2.2.1 cp.nd (fun b O=>⟨by have:=bv b O;omega,(bv b O).2⟩) cC.1 cC.2.1 cC.2.2.1 rfl,
       Fr.low (M:=fun b=>b∈bQ∨b=N) (Fr.trans (Fr.mono (bR.2.trans bq.o) fun _ h=>h.elim) (Fr.setCell (Fr.mono cC.2.1 fun _ h=>.inl h) (.inl (.inr rfl)) _)) fun b O=>by
        rcases O with O|O
        ·exact(bR.1.lo b (by simp[O])).1
        ·rw[O];exact bR.1.go⟩
     case measure=>exact aH
  ·obtain rfl:k=hn:=ad;obtain⟨d0,aL,aM⟩:=hC.o.two;have bg:=ah.2.2.1.ai y;obtain⟨bl,aA,aO⟩:=bg.two;have bb:=ah.1.trans y;have b2:=ag bg bb;clear hC y bg bb;go_wp2_with(fail);generalize cr:World.setCell _ _ _=Y;obtain⟨bI,bE,bz⟩:=bA (w:=w) [.slice aZ gn bc,.slice aX tn L,.slice bf k a3,.int .i64 s.fault] (by rfl) b2.1 b2.2 ad cr;have bC:=ag bE bz;clear cr bE bz d0 aL aM bl aA aO;obtain⟨bl,aA,aO⟩:=bI.two;refine Ln (v:=.agg #[.slice aZ gn bc,.slice aX tn L,.slice bf k a3,.int .i64 s.fault]) (by simp[results,Tryz.results35,go_sem,bl]) rfl ?_;have co:=bR.1.st;rw[KO (aD b4.2.2)] at co;have bv:=bR.1.lo;have cY:=bd.o;refine⟨aZ,bc,aX,L,bf,a3,xs,_,_,bQ,cb,rfl,co.ak fun b O=>bC.2.block b (bv b O).2 (aD (bv b O)),fun b O=>?_,bC.1⟩;have:=bv b O;have:=bC.2.size;omega
 ):p:=h
end Cb
open Cb in
theorem fG(s:aj)(GA TA HA:Ls)(gn gc tn tc hn hc:Nat)(w:World)(h:lE w (au w) s GA gn TA tn HA hn)(a1:Small s) :
  Calls prog 35 #[.agg #[.slice GA gn gc,.slice TA tn tc,.slice HA hn hc,.int .i64 s.fault]] w (HW w s gn tn hn):=by
 have rD:gn=s.globals.length:=by have:=h.g.1;simpa using this.symm
 have tq:tn=s.table.length:=by have:=h.t.1;simpa using this.symm
 have ot:hn=s.threads.length:=by have:=h.h.1;simpa using this.symm
 have bX:gn≤100000:=by have:=a1.g;omega
 have cM:tn≤5000:=by have:=a1.t;omega
 have dc:hn≤1000:=by have:=a1.h;omega
 have b4:=aB rD tq ot;obtain⟨a8,a7⟩:=aI a1 h;clear h a1 rD tq ot;go_enter func35,ntmps35;go_upto_region 1 with(fail);generalize ba:World.alloc _ _=W;have aw:=iO ba;have cE:=gB ba;have bs:=fZ ba;have cY:W.heap.size=w.heap.size+2:=by rw[←ba];simp
 have ah:=bH aw cE bs (a7.on aw);obtain⟨a0,ai,af⟩:=cE.two;have bd:=ae cY;clear ba aw cE bs cY;refine q4 (fun _=>False) [10] (.free 0 (.held 1 (.free 3 (.held 4 (.free 6 (.held 7 (.pick [2,9] (fun i=>bif i == 2 then .pick [5,9] (fun i=>bif i == 5 then .free 8 (.pick [9] (fun _=>.pick [10] (fun _=>.stop))) else .pick [5] (fun _=>.free 8 (.pick [10] (fun _=>.stop)))) else .pick [2] (fun _=>.pick [5] (fun _=>.free 8 (.pick [10] (fun _=>.stop)))))))))))) ?_;refine tf ?_;refine th ?_;refine tf ?_;refine th ?_;refine tf ?_;refine th ?_;refine wS (P:=?P1) (ops:=?o1) (Q:=?q1) (R:=?r1) (tails:=?t1) (rest:=.pick [10] (fun _=>.stop)) (aa:=?aa) (C:=IT W s gn tn) (fun key=>?main) ?key
 case main=>
  refine aY ?_ ?_
  ·
   refine aC rfl (fun K hK=>?_) rfl;go_simp;refine(Sl.lQ (ah.2.2.2.on (Fr.refl _ W).drew).g ad).mono ?_;rintro r aS ⟨aZ,bc,rfl,E,aK,ar⟩;have s1:=ar.size;have q1:W.drew.heap.size=W.heap.size:=rfl;refine dz hK (ar) ?_;clear hK K;refine aY ?_ ?_
   ·
    refine aC rfl (fun K hK=>?_) rfl;go_simp;refine(Sl.vJ (ah.2.2.2.on (Fr.aF ar)).t ad).mono ?_;rintro r aT ⟨aX,L,rfl,al,az,bw⟩;have s2:=bw.size;refine dz hK (bw) ?_;clear hK K;refine tf ?_;refine ao ?_;refine dP ?_;have hC:IT W s gn tn (aT.heap.size) aZ bc aX L (aT.alloc (.cells #[.slice none 0 0,.slice none 0 0,.slice none 0 0,.int .i64 0] 40)):=by
     refine⟨((Fr.aF ar).trans bw).alloc _,Lp,ad,(E.ai bw).ai (Lo.alloc _),al.ai (Lo.alloc _),fun b O=>?_,fun b O=>⟨?_,?_,fun ac=>?_⟩⟩
     ·have:=aK b O;omega
     ·have:=az b O;omega
     ·have:=az b O;omega
     ·have:=az b O;have:=aK b ac;omega
    generalize aT.heap.size=db at hC ⊢;exact key db aZ bc aX L _ hC
   ·
    refine dP ?_;refine Hv (fun V=>Ext aS V∧aq V aS.heap.size 40 #[.slice none 0 0,.slice none 0 0,.slice none 0 0,.int .i64 0]∧aS.heap.size<V.heap.size) ⟨Lo.alloc _,Lp,(Lp).lt⟩ (fun V hV=>?_);refine ao ?_;refine aC rfl (fun K hK=>?_) rfl;go_simp;refine(Sl.vJ ((ah.2.2.2.on (Fr.aF ar)).on hV.1).t ad).mono ?_;rintro r aT ⟨aX,L,rfl,al,az,bw⟩;have s2:=bw.size;have T:=hV.1.size;refine dz hK (bw) ?_;clear hK K;refine tf ?_;have hC:IT W s gn tn (aS.heap.size) aZ bc aX L aT:=by
     refine⟨((Fr.aF ar).trans hV.1).trans bw,hV.2.1.ai bw,ad,(E.ai hV.1).ai bw,al,fun b O=>?_,fun b O=>⟨?_,?_,fun ac=>?_⟩⟩
     ·have:=aK b O;omega
     ·have:=az b O;omega
     ·have:=az b O;have:=hV.2.2;omega
     ·have:=az b O;have:=aK b ac;omega
    generalize aS.heap.size=db at hC ⊢;exact key db aZ bc aX L _ hC
  ·
   refine dP ?_;refine Hv (fun V=>Ext W V∧aq V W.heap.size 40 #[.slice none 0 0,.slice none 0 0,.slice none 0 0,.int .i64 0]∧W.heap.size<V.heap.size) ⟨(Lo.drew).alloc _,aq.new W.drew _ _,(aq.new W.drew _ _).lt⟩ (fun V hV=>?_);refine ao ?_;refine aC rfl (fun K hK=>?_) rfl;go_simp;refine(Sl.lQ (ah.2.2.2.on hV.1).g ad).mono ?_;rintro r aS ⟨aZ,bc,rfl,E,aK,ar⟩;have s1:=ar.size;have am:=hV.1.size;refine dz hK (ar) ?_;clear hK K;refine ao ?_;refine aC rfl (fun K hK=>?_) rfl;go_simp;refine(Sl.vJ ((ah.2.2.2.on hV.1).on ar).t ad).mono ?_;rintro r aT ⟨aX,L,rfl,al,az,bw⟩;have s2:=bw.size;refine dz hK (bw) ?_;clear hK K;refine tf ?_;have hC:IT W s gn tn (W.heap.size) aZ bc aX L aT:=by
    refine⟨(hV.1.trans ar).trans bw,(hV.2.1.ai ar).ai bw,ad,E.ai bw,al,fun b O=>?_,fun b O=>⟨?_,?_,fun ac=>?_⟩⟩
    ·have:=aK b O;have:=hV.2.2;omega
    ·have:=az b O;omega
    ·have:=az b O;have:=hV.2.2;omega
    ·have:=az b O;have:=aK b ac;omega
   generalize W.heap.size=db at hC ⊢;exact key db aZ bc aX L _ hC
 intro N aZ bc aX L V ⟨bj,an,Z,a5,g,I,u⟩;obtain⟨d0,aL,aM⟩:=an.two;clear a0 ai af;exact fj
def y2(w:World)(op num:Int)(g0:ByteArray)(l:List VE)(e:Ending)(ab:World):Prop:=∃A n c,e=.returned (.agg #[.int .i64 op,.int .i64 num,.string g0,.slice A n c])∧n≤c∧Sl ab (fresh w ab) A n (l.map bk)∧Ext w ab
def w7(x:VE):Prop:=∀(w:World) (A:Ls) (n c:Nat),Sl w (au w) A n (x.args.map bk)→Calls prog 61 #[.agg #[.int .i64 x.a9,.int .i64 x.numOf,.string x.bu,.slice A n c]] w (y2 w x.a9 x.numOf x.bu x.args)
namespace Cc
theorem dC(h:p:=by
 generalize hX:World.setCell aT _ _=Y;have bz:=cL hX;have r:=ae (show Ext w Y∧aq Y w.heap.size 54 #[.int .i64 op,.int .i64 num,.string g0,.slice cC (k+1) c3]∧aq Y (w.heap.size+1) 54 #[.int .i64 0,.int .i64 0,.string ⟨#[]⟩,.slice none 0 0]∧Gr (fun b=>w.heap.size+2≤b) (w.heap.size+2) 54 4 Y cC (k+1) c3 ((l.take (k+1)).map bk) from
  ⟨Fr.low (M:=fun b=>b=w.heap.size) (Fr.trans (Fr.mono bG.1 fun _ h=>h.elim) bz) fun b O=>ad,by rw[←hX];exact bG.2.1.aM 3 _,bG.2.2.1.on bz ad,by
   rw[aZ bC.1,KN];exact bG.2.2.2.c4 bz fun b O _=>⟨ad,ad⟩⟩)
 clear hX bz a0 ai af bF;go_wp2;go_roundw
 case rel=>exact⟨k+1,cC,c3,by go_num,ad,r.o⟩
 case measure=>exact aH
 ):p:=h
theorem sr(h:p:=by
 have bC:=ag bb c4;have bR:=ae (cp.o y (KJ bb));clear bb Q c4 Z bp O aw aR cA hG;go_upto_region 6 with(fail);generalize hU:World.alloc _ _=U;have cl:=aU hU;have cX:=aG hU;have cV:=cl.size;have bs:=aQ.2.1.ai cl;have cz:=cI (aQ.1.trans cl) bs (aQ.2.2.1.ai cl) (aQ.2.2.2.ai cl) (bC.2.on (Fr.ext cl));obtain⟨d0,aL,aM⟩:=cX.two;obtain⟨a0,ai,af⟩:=bs.two;clear hU cl cX bs c0 c1 c2 c3 aX;refine eK (fun _=>False) [(0,3),(1,0),(2,0),(3,1),(4,1),(5,2),(6,3),(7,2)] ?_;refine pf ?_
 iterate 2 refine ph ?_
 refine aJ rfl (fun K hK=>?_);go_simp;refine(bR.o _ _ _ _ (cz.2.2.2.2.on (Fr.ext (Fr.refl _ U).drew))).mono ?_;rintro e aS ⟨bU,cQ,zc,rfl,bm,cR,ar⟩;have H1:=aB cR bm ar;refine dz hK (ar) ?_;clear hK K;have aN:Ext U aS:=Fr.aF ar;have cg:=cz.2.2.2.1.ai aN;have cn:=aN.size;have aC:∀b,(Value.slice I k aK).ownBlock=some b→b<U.heap.size:=fun b O=>(cz.2.2.2.1.lt O).2;have hd:(bk y).rep aS (lv (fun b=>w.heap.size+2≤b) aS (.slice I k aK)) (#[.int .i64 y.a9,.int .i64 y.numOf,.string y.bu,.slice bU cQ zc]:Array Value).toList:=
  a1.2 ⟨bU,cQ,zc,rfl,bm,cR.mono fun b O=>⟨by have:=O.1;have:U.drew.heap.size=U.heap.size:=rfl;omega,O.2,fun h=>by have:=aC b h;have:=O.1;have:U.drew.heap.size=U.heap.size:=rfl;omega⟩⟩
 have a5:=ag cg hd;clear cR bm ar cg hd aC;refine q0 ?_;refine ax rfl (fun K hK=>?_);rw[if_pos (by rfl)];refine qJ pv (.tmp 16) (.tmp 19) rfl a5.1 a5.2 rfl rfl rfl ad ad ad ?_;intro cC c3 aT cd g2 cS c9;have bv:∀b,(Value.slice I k aK).ownBlock=some b→w.heap.size+2≤b:=fun b O=>(a5.1.lt O).1;have bF:=(cz.2.1.ai aN).on g2 (fun h=>by have:=bv _ h;omega);have cF:=(cz.2.2.1.ai aN).on g2 (fun h=>by have:=bv _ h;omega);have a7:Ext w aT:=Fr.low (M:=fun b=>(Value.slice I k aK).ownBlock=some b) (Fr.trans (Fr.mono (cz.1.trans aN) fun _ h=>h.elim) g2) fun b O=>by have:=bv b O;omega
 have bG:=bH a7 bF cF cd;clear cd g2 cS c9 bv cF a7 a0 ai af d0 aL aM;obtain⟨a0,ai,af⟩:=bF.two;exact sw
 ):p:=h
end Cc
open Cc in
theorem fK(op num:Int)(g0:ByteArray)(l:List VE)(ao:∀y∈l,w7 y)(hl:l.length≤2)(w:World)(A:Ls)(n c:Nat)(h:Sl w (au w) A n (l.map bk)) :
  Calls prog 61 #[.agg #[.int .i64 op,.int .i64 num,.string g0,.slice A n c]] w (y2 w op num g0 l):=by
 have hn:n≤2:=by have:=h.1;simp at this;omega
 have f:=ae (show l.length=n by have:=h.1;simpa using this);obtain⟨H,cp⟩:=aI h ao;clear h ao hl;go_enter func61,ntmps61;go_upto_region 1 with(fail);generalize ba:World.alloc _ _=W;have m:=iO ba;have cy:=gB ba;have i:=fZ ba;obtain⟨a0,ai,af⟩:=cy.two;clear ba;go_upto_region 3 with(fail);generalize hX:World.setCell _ _ _=X;have J:=cL hX;have aw:Ext w X:=Fr.low (M:=fun b=>b=w.heap.size) (Fr.trans (Fr.mono m fun _ h=>h.elim) J) fun b O=>ad;have aR:aq X w.heap.size 54 #[.int .i64 op,.int .i64 num,.string g0,.slice none 0 0]:=hX▸cy.aM 3 _;have cA:aq X (w.heap.size+1) 54 #[.int .i64 0,.int .i64 0,.string ⟨#[]⟩,.slice none 0 0]:=i.on J ad;clear J m cy i a0 ai af;have aQ:=aB aw aR cA;clear hX aw aR cA;go_wp2_with(fail);go_loopw [11] (fun cu wr=>∃(k:Nat) (I:Ls) (aK:Nat),cu=.int .i64 k∧k≤n∧Ext w wr∧aq wr w.heap.size 54 #[.int .i64 op,.int .i64 num,.string g0,.slice I k aK]∧aq wr (w.heap.size+1) 54 #[.int .i64 0,.int .i64 0,.string ⟨#[]⟩,.slice none 0 0]∧Gr (fun b=>w.heap.size+2≤b) (w.heap.size+2) 54 4 wr I k aK ((l.take k).map bk)) (fun cu _=>n - (intOf cu).toNat)
 case atStart=>exact⟨0,none,0,rfl,ad,aQ.1,aQ.2.1,aQ.2.2,Gr.nil _ _ _ _ _⟩
 case round=>
  obtain⟨k,I,aK,rfl,ap,aw,aR,cA,hG⟩:=hrel;clear aQ;have aQ:=bH aw aR cA hG;have bM:=cA.lt;by_cases ak:k<n
  ·obtain⟨b,o,y,cs,rfl,O,bb,Q,bp,Z⟩:=(H.on (Fr.ext aw)).gZ c8 ak;exact sq
  ·obtain rfl:k=n:=ad;obtain⟨a0,ai,af⟩:=aR.two;obtain⟨bl,aA,aO⟩:=cA.two;clear aw aR cA hG;go_wp2_with(fail);generalize hX:World.setCell _ _ _=Y;obtain⟨bI,bE,bz⟩:=bA (w:=w) [.int .i64 op,.int .i64 num,.string g0,.slice I k aK] (by rfl) aQ.2.2.1 aQ.1 ad hX;have bC:=ag bE bz;clear hX bE bz a0 ai af bl aA aO;obtain⟨bl,aA,aO⟩:=bI.two;refine Ln (v:=.agg #[.int .i64 op,.int .i64 num,.string g0,.slice I k aK]) (by simp[results,Tryz.results61,go_sem,bl]) rfl ?_;have a2:=aQ.2.2.2.c4 bC.2 fun b O _=>⟨ad,ad⟩
   rw[KO (aD f.o)] at a2;exact⟨I,k,aK,rfl,a2.cap.1,a2.sl (fun b ak O=>⟨ad,ak⟩) (fun b ak O=>⟨ad,ak⟩),bC.1⟩
theorem jB:∀x:VE,w7 x
 | .num n=>fun w A m c h=>fK 1 n ⟨#[]⟩ [] (by simp) (by simp) w A m c h
 | .g0 s=>fun w A m c h=>fK 2 0 s [] (by simp) (by simp) w A m c h
 | .loc k=>fun w A m c h=>fK 18 k ⟨#[]⟩ [] (by simp) (by simp) w A m c h
 | .iC k=>fun w A m c h=>fK 19 k ⟨#[]⟩ [] (by simp) (by simp) w A m c h
 | .un op x=>fun w A m c h=>fK op 0 ⟨#[]⟩ [x] (fun y bb=>by rw[Li.1 bb];exact jB x) (by simp) w A m c h
 | .bin op x y=>fun w A m c h=>fK op 0 ⟨#[]⟩ [x,y] (fun z bt=>by
   simp only[KW,List.not_mem_nil,or_false] at bt;rcases bt with bt|bt
   ·rw[bt];exact jB x
   ·rw[bt];exact jB y) (by simp) w A m c h
theorem yx(o:Option VE)(w:World)(eo en:Int)(es:ByteArray)(A:Ls)(n c:Nat)(h:(oq o).rep w (au w) [.int .i64 eo,.int .i64 en,.string es,.slice A n c]) :
  Calls prog 61 #[.agg #[.int .i64 eo,.int .i64 en,.string es,.slice A n c]] w fun e ab=>∃I aP aK,e=.returned (.agg #[.int .i64 eo,.int .i64 en,.string es,.slice I aP aK])∧(oq o).rep ab (fresh w ab) [.int .i64 eo,.int .i64 en,.string es,.slice I aP aK]∧Ext w ab:=by
 cases o with
 | none=>
  obtain⟨A2,c2,e⟩:=fh.1 h;simp only[List.cons.injEq,and_true] at e;obtain⟨e1,e2,e3,cH⟩:=e;injection e1 with _ e1;injection e2 with _ e2;injection e3 with e3;injection cH with cH cr a7;subst e1 e2 e3 cH cr a7;refine(fK 0 0 ⟨#[]⟩ [] (by simp) (by simp) w _ 0 c (Sl.bO _)).mono ?_;rintro e ab ⟨I,aP,aK,rfl,ac,av,aV⟩;obtain rfl:aP=0:=av.1.symm
  exact⟨I,0,aK,rfl,fh.2 ⟨I,aK,rfl⟩,aV⟩
 | some x=>
  obtain⟨A2,n2,c2,e,hc,hs⟩:=a1.1 h;simp only[List.cons.injEq,and_true] at e;obtain⟨e1,e2,e3,cH⟩:=e;injection e1 with _ e1;injection e2 with _ e2;injection e3 with e3;injection cH with cH cr a7;subst e1 e2 e3 cH cr a7;refine(jB x w _ _ _ hs).mono ?_;rintro e ab ⟨I,aP,aK,rfl,ac,av,aV⟩;exact⟨I,aP,aK,rfl,a1.2 ⟨I,aP,aK,rfl,ac,av⟩,aV⟩
def GW(w:World)(l:List VE)(e:Ending)(ab:World):Prop:=∃A n c,e=.returned (.slice A n c)∧n≤c∧Sl ab (fresh w ab) A n (l.map bk)∧Ext w ab
namespace Cd
theorem sr(h:p:=by
 have bC:=ag bb c4;clear bb Q c4 Z bp O aw hG;go_upto_region 5 with(fail);generalize hU:World.alloc _ _=U;have cl:=aU hU;have cX:=aG hU;have cV:=cl.size;have cz:=aB (aQ.1.trans cl) (aQ.2.ai cl) (bC.2.on (Fr.ext cl));obtain⟨d0,aL,aM⟩:=cX.two;clear hU cl cX c0 c1 c2 c3 aX;go_wp2_with(fail);refine(jB y _ _ _ _ cz.2.2).mono ?_;rintro e aS ⟨bU,cQ,zc,rfl,bm,cR,aN⟩;have cg:=cz.2.1.ai aN;have cn:=aN.size;have aC:∀b,(Value.slice I k aK).ownBlock=some b→b<U.heap.size:=fun b O=>(cz.2.1.lt O).2;have hd:(bk y).rep aS (lv (fun b=>w.heap.size≤b) aS (.slice I k aK)) (#[.int .i64 y.a9,.int .i64 y.numOf,.string y.bu,.slice bU cQ zc]:Array Value).toList:=
  a1.2 ⟨bU,cQ,zc,rfl,bm,cR.mono fun b O=>⟨by have:=O.1;omega,O.2,fun h=>by have:=aC b h;have:=O.1;omega⟩⟩
 have H1:=aB (cz.1.trans aN) cg hd;clear cR bm aN cg hd aC d0 aL aM;go_wp2_with(at_builtin;refine bQ pv rfl (.tmp 12) (.tmp 15) rfl H1.2.1 H1.2.2 rfl rfl rfl ad ad ad ?_;intro cC c3 aT cd g2 cS c9;have b4:=ag cd g2;clear cd g2 cS c9);have bv:∀b,(Value.slice I k aK).ownBlock=some b→w.heap.size≤b:=fun b O=>(H1.2.1.lt O).1;have a3:Ext w aT:=Fr.low (M:=fun b=>(Value.slice I k aK).ownBlock=some b) (Fr.trans (Fr.mono H1.1 fun _ h=>h.elim) b4.2) fun b O=>bv b O;have a4:=ae a3;clear bv a3;go_roundw
 case rel=>exact⟨k+1,cC,c3,rfl,by go_num,ad,a4.o,by rw[aZ bC.1,KN];exact b4.1⟩
 case measure=>exact aH
 ):p:=h
end Cd
open Cd in
theorem pY(l:List VE)(hl:l.length≤100000)(w:World)(A:Ls)(n c:Nat)(h:Sl w (au w) A n (l.map bk)) :
  Calls prog 63 #[.slice A n c] w (GW w l):=by
 have b9:l.length=n:=by have:=h.1;simpa using this
 have hn:n≤100000:=ad;obtain⟨f,H⟩:=aI b9 h;clear h hl b9;go_enter func63,ntmps63;go_wp2_with(fail);go_loopw [3,8] (fun sv cu wr=>∃(k:Nat) (I:Ls) (aK:Nat),sv=.slice I k aK∧cu=.int .i64 k∧k≤n∧Ext w wr∧Gr (fun b=>w.heap.size≤b) w.heap.size 54 4 wr I k aK ((l.take k).map bk)) (fun _ cu _=>n - (intOf cu).toNat)
 case atStart=>exact⟨0,none,0,rfl,rfl,ad,Lo,Gr.nil _ _ _ _ _⟩
 case round=>
  obtain⟨k,I,aK,rfl,rfl,ap,aw,hG⟩:=hrel;have aQ:=ag aw hG;have m1:=aw.size;by_cases ak:k<n
  ·obtain⟨b,o,y,cs,rfl,O,bb,Q,bp,Z⟩:=(H.on (Fr.ext aw)).gZ c8 ak;exact sq
  ·obtain rfl:k=n:=ad;clear aw hG;go_wp2_with(fail);go_ret;have a2:=aQ.2;rw[KO (aD f.o)] at a2;exact⟨I,k,aK,rfl,a2.cap.1,a2.sl (fun b ak O=>⟨O,ak⟩) (fun b ak O=>⟨O,ak⟩),aQ.1⟩
theorem p1(p:bR)(w:World)(A:Ls)(n c:Nat)(h:(di p).rep w (au w) [.bool p.param,.int .i64 p.index,.slice A n c]) :
  Calls prog 62 #[.agg #[.bool p.param,.int .i64 p.index,.slice A n c]] w fun e ab=>∃I aP aK,e=.returned (.agg #[.bool p.param,.int .i64 p.index,.slice I aP aK])∧(di p).rep ab (fresh w ab) [.bool p.param,.int .i64 p.index,.slice I aP aK]∧Ext w ab:=by
 obtain⟨A2,n2,c2,e,hc,hs⟩:=dT.1 h;simp only[List.cons.injEq,and_true,true_and] at e;injection e with cH cr a7;subst cH cr a7;have H:=ae hs;have hj:p.at_.toList.length≤100000:=by cases p.at_<;>simp
 clear h hs hc;generalize j:p.param=pb;generalize k:p.index=pi;have ck:=ag j k;clear j k;go_enter func62,ntmps62;go_upto_region 1 with(fail);generalize ba:World.alloc _ _=W;have m:=iO ba;have cy:=gB ba;have i:=fZ ba;have ah:=bH m cy i (H.on (Fr.ext m));have cY:=i.lt;obtain⟨a0,ai,af⟩:=cy.two;clear ba m cy i;go_wp2_with(fail);refine(pY _ hj W _ _ _ ah.2.2.2).mono ?_;rintro e aS ⟨bU,cQ,zc,rfl,bm,cR,aN⟩;have cn:=aN.size;have cE:=ah.2.1.ai aN;have f:=ah.2.2.1.ai aN;have H1:=cI (ah.1.trans aN) bm cR cE f;clear a0 ai af;obtain⟨a0,ai,af⟩:=cE.two;clear cE f aN bm cR;go_upto_region 2 with(fail);generalize hX:World.setCell _ _ _=X;have J:=cL hX;have aw:Ext w X:=Fr.low (M:=fun b=>b=w.heap.size) (Fr.trans (Fr.mono H1.1 fun _ h=>h.elim) J) fun b O=>ad;have aR:aq X w.heap.size 56 #[.bool pb,.int .i64 pi,.slice bU cQ zc]:=hX▸H1.2.2.2.1.aM 2 _;have cA:aq X (w.heap.size+1) 56 #[.bool false,.int .i64 0,.slice none 0 0]:=H1.2.2.2.2.on J ad;have aQ:=aB aw J cA;clear hX a0 ai af;obtain⟨a0,ai,af⟩:=aR.two;obtain⟨bl,aA,aO⟩:=cA.two;clear J aw aR cA;go_wp2_with(fail);generalize hX:World.setCell _ _ _=Y;obtain⟨bI,bE,bz⟩:=bA (w:=w) [.bool pb,.int .i64 pi,.slice bU cQ zc] (by rfl) aQ.2.2 aQ.1 ad hX;have bC:=ag bE bz;clear hX bE bz a0 ai af bl aA aO;obtain⟨bl,aA,aO⟩:=bI.two;refine Ln (v:=.agg #[.bool pb,.int .i64 pi,.slice bU cQ zc]) (by simp[results,Tryz.results62,go_sem,bl]) rfl ?_;have ao:w.heap.size+1<aS.heap.size:=ad;refine⟨bU,cQ,zc,rfl,?_,bC.1⟩;rw[←ck.1,←ck.2]
 refine dT.2 ⟨bU,cQ,zc,rfl,H1.2.1,(H1.2.2.1.ak fun b O=>(bC.2.block b (lK O.2 aQ.2.1.size) (aD O.1)).trans (aQ.2.1.block b O.2 (aD O.1))).mono fun b O=>⟨by have:=O.1;omega,by have:=O.2;have:=aQ.2.1.size;have:=bC.2.size;omega⟩⟩
structure q8(w:World)(s:aj)(t:Int)(f:al)(O bn hn b1 c6 n fc:Nat)(IA:Ls)(i ic:Nat)(S:Ls)(l lc:Nat):Prop where
 fault:s.fault=0
 t0:0≤t
 tn:t<hn
 lb:O<w.heap.size
 lf:b1<w.heap.size
 cell:w.cell? ⟨O,bn+t.toNat,none⟩=some (.slice (some ⟨b1,c6,none⟩) (n+1) fc)
 c0:w.cell? ⟨b1,c6+n*4,none⟩=some (.int .i64 f.proc)
 c1:w.cell? ⟨b1,c6+n*4+1,none⟩=some (.int .i64 f.pc)
 c2:w.cell? ⟨b1,c6+n*4+2,none⟩=some (.slice IA i ic)
 c3:w.cell? ⟨b1,c6+n*4+3,none⟩=some (.slice S l lc)
 J5:i≤ic
 lcs:l≤lc
 ints:Sl w (au w) IA i (f.ints.map D.i)
 av:Sl w (au w) S l (f.av.map D.i)
 th:∃fs,s.threads[t.toNat]?=some (fs++[f])∧fs.length=n
 n1:n+1≤fc
 nb:n≤1000000
theorem q8.on{w ab:World}{s:aj}{t:Int}{f:al}{O bn hn b1 c6 n fc:Nat}{IA:Ls}{i ic:Nat}{S:Ls}{l lc:Nat}(h:q8 w s t f O bn hn b1 c6 n fc IA i ic S l lc)(he:Ext w ab):q8 ab s t f O bn hn b1 c6 n fc IA i ic S l lc:=
 ⟨h.fault,h.t0,h.tn,KH h.lb he.size,KH h.lf he.size,(he.cell h.lb fun h=>h).trans h.cell,(he.cell h.lf fun h=>h).trans h.c0,(he.cell h.lf fun h=>h).trans h.c1,(he.cell h.lf fun h=>h).trans h.c2,(he.cell h.lf fun h=>h).trans h.c3,h.J5,h.lcs,h.ints.on (Fr.ext he),h.av.on (Fr.ext he),h.th,h.n1,h.nb⟩
theorem lE.top{w:World}{s:aj}{GA:Ls}{gn:Nat}(h:lE w (au w) s GA gn TA tn HA hn)(a1:Small s){f:al}(ht:ef s t=some f):
  ∃O bn b1 c6 n fc IA i ic S l lc,HA=some ⟨O,bn,none⟩∧q8 w s t f O bn hn b1 c6 n fc IA i ic S l lc:=by
 obtain⟨h0,ac,fs,bK⟩:=jI ht;have hl:=h.h.1;rw[KK] at hl;have ap:=(List.getElem?_eq_some_iff.1 bK).1;obtain⟨O,bn,cU,FA,m,fc,rfl,T,r,hc,hm,J⟩:=h.h.lA (k:=t.toNat) ad;rw[bK] at r;injection r with r;subst r;have ce:=J.1;simp at ce;obtain⟨b1,c6,a6,IA,i,ic,S,l,lc,rfl,cx,G,c0,c1,c2,c3,av,aV,bz,cm⟩:=J.pQ (k:=fs.length) ad;simp at G;subst G;subst ce;exact⟨O,bn,b1,c6,fs.length,fc,IA,i,ic,S,l,lc,rfl,h0,ac,ad,T,cx,hc,c0,c1,c2,c3,av,aV,bz,cm,⟨fs,bK,rfl⟩,hm,by have:=(a1.f _ (KJ bK)).1;simp at this;omega⟩
theorem xI(o c:Value)(O bn hn hc b1 c6 n fc:Nat)(t:Int)(w:World)(h0:0≤t)(ak:t<hn)(dc:O<w.heap.size)(cm:w.cell? ⟨O,bn+t.toNat,none⟩=some (.slice (some ⟨b1,c6,none⟩) (n+1) fc))(ap:n≤1000000) :
  Calls prog 39 #[.agg #[o,c,.slice (some ⟨O,bn,none⟩) hn hc,.int .i64 0],.int .i64 t] w fun e ab=>e=.returned (.pointer (some ⟨b1,c6+n*4,none⟩))∧Ext w ab:=by
 have q1:decide (t<0)=false:=by simp;omega
 have cB:decide (t≥hn)=false:=by simp;omega
 have dd:(((n+1:Nat):Int) == 0)=false:=by simp;omega
 exact tw
theorem rW{w:World}{s:aj}{GA:Ls}{gn:Nat}(h:lE w (au w) s GA gn TA tn HA hn)(ht:ef s t=none):
  s.fault≠0∨t<0∨(hn:Int)≤t∨(0≤t∧t<hn∧∃O bn FA fc,HA=some ⟨O,bn,none⟩∧O<w.heap.size∧w.cell? ⟨O,bn+t.toNat,none⟩=some (.slice FA 0 fc)):=by
 by_cases h0:s.fault≠0
 ·exact .inl h0
 by_cases ac:t<0
 ·exact .inr (.inl ac)
 by_cases av:(hn:Int)≤t
 ·exact .inr (.inr (.inl av))
 refine .inr (.inr (.inr ⟨ad,ad,?_⟩));obtain⟨O,bn,fs,FA,m,fc,rfl,T,bK,hc,hm,J⟩:=h.h.lA (k:=t.toNat) ad;unfold ef at ht;rw[if_neg ad,bK] at ht;have cj:fs=[]:=by simpa using ht
 have ce:=J.1;rw[cj] at ce;simp at ce;subst ce;exact⟨O,bn,FA,fc,rfl,T,hc⟩
theorem yy(s:aj)(GA TA HA:Ls)(gn gc tn tc hn hc:Nat)(t:Int)(w:World)(h:lE w (au w) s GA gn TA tn HA hn)(ht:ef s t=none) :
  Calls prog 39 #[.agg #[.slice GA gn gc,.slice TA tn tc,.slice HA hn hc,.int .i64 s.fault],.int .i64 t] w fun e ab=>e=.returned (.pointer none)∧Ext w ab:=by
 have f:=rW h ht;clear h ht;generalize bt:s.fault=z at *;clear bt;by_cases h0:z=0
 case neg=>
  have ci:(z != 0)=true:=by simpa using h0
  clear f h0;exact tw
 subst h0;rcases f with h|h|h|⟨ac,av,O,bn,FA,fc,rfl,T,cm⟩
 ·exact absurd rfl h
 ·have q1:decide (t<0)=true:=by simpa using h
  clear h;exact tw
 ·have q1:decide (t<0)=false:=by simp;omega
  have cB:decide (t≥hn)=true:=by simpa using h
  clear h;exact tw
 ·have q1:decide (t<0)=false:=by simp;omega
  have cB:decide (t≥hn)=false:=by simp;omega
  exact tw
theorem k3{w:World}{s:aj}{f:al}{IA:Ls}{i ic:Nat}(h:q8 w s t f O bn hn b1 c6 n fc IA i ic S l lc)(o c:Value)(hc:Nat):
  Calls prog 39 #[.agg #[o,c,.slice (some ⟨O,bn,none⟩) hn hc,.int .i64 s.fault],.int .i64 t] w fun e ab=>e=.returned (.pointer (some ⟨b1,c6+n*4,none⟩))∧Ext w ab:=by
 rw[h.fault];exact xI o c O bn hn hc b1 c6 n fc t w h.t0 h.tn h.lb h.cell h.nb
namespace Ce
theorem lJ(h:p:=by
 obtain⟨a0,ai,af⟩:=aR.two;obtain⟨bl,aA,aO⟩:=cA.two;replace cm:=(aw.cell (j:=bn+t.toNat) dc fun h=>h).trans cm
 replace c0:=(aw.cell (j:=c6+n*4) cx fun h=>h).trans c0
 replace c1:=(aw.cell (j:=c6+n*4+1) cx fun h=>h).trans c1
 replace c2:=(aw.cell (j:=c6+n*4+2) cx fun h=>h).trans c2
 replace c3:=(aw.cell (j:=c6+n*4+3) cx fun h=>h).trans c3
 obtain⟨bq,aW⟩:=aI aw cA;clear ba aw aR cA dc cx;go_wp2_with(fail);generalize hX:World.setCell _ _ _=X;obtain⟨bo,br,cg⟩:=bA (w:=w) [.int .i64 f.proc,.int .i64 f.pc,.slice IA i ic,.slice S l lc] (by rfl) aW.o bq.o ad hX;have aQ:=ae br;clear hX br cg a0 ai af bl aA aO c0 c1 c2 c3 cm;obtain⟨bl,aA,aO⟩:=bo.two;refine Ln (v:=.tuple #[.agg #[.int .i64 f.proc,.int .i64 f.pc,.slice IA i ic,.slice S l lc],.bool true]) (by simp[results,Tryz.results64,go_sem,bl]) rfl ?_;exact⟨rfl,aQ.o⟩
 ):p:=h
end Ce
open Ce in
theorem nz{w:World}{s:aj}{f:al}{IA:Ls}{i ic:Nat}(h:q8 w s t f O bn hn b1 c6 n fc IA i ic S l lc)(o c:Value)(hc:Nat):
  Calls prog 64 #[.agg #[o,c,.slice (some ⟨O,bn,none⟩) hn hc,.int .i64 s.fault],.int .i64 t] w fun e ab=>e=.returned (.tuple #[.agg #[.int .i64 f.proc,.int .i64 f.pc,.slice IA i ic,.slice S l lc],.bool true])∧Ext w ab:=by
 obtain⟨ac,h0,ak,dc,cx,cm,c0,c1,c2,c3,_,_,_,_,_,_,ap⟩:=h;rw[ac];have q1:decide (t<0)=false:=by simp;omega
 have cB:decide (t≥hn)=false:=by simp;omega
 have dd:(((n+1:Nat):Int) == 0)=false:=by simp;omega
 clear ac;go_enter func64,ntmps64;exact lI
namespace Cf
theorem lJ(h:p:=by
 obtain⟨a0,ai,af⟩:=aR.two;obtain⟨bl,aA,aO⟩:=cA.two;replace cm:=(aw.cell (j:=bn+t.toNat) T fun h=>h).trans cm
 have bq:=ag aw cA;clear ba aw aR cA;by_cases hm:m=0
 ·subst hm;clear dG;exact A6
 ·have dd:((m:Int) == 0)=false:=by simp;omega
  have df:(z != 0)=true:=by simpa using dG.resolve_left hm
  clear dG hm;exact A6
 ):p:=h
end Cf
open Cf in
theorem yI(s:aj)(GA TA HA:Ls)(gn gc tn tc hn hc:Nat)(t:Int)(w:World)(h:lE w (au w) s GA gn TA tn HA hn)(ht:ef s t=none) :
  Calls prog 64 #[.agg #[.slice GA gn gc,.slice TA tn tc,.slice HA hn hc,.int .i64 s.fault],.int .i64 t] w fun e ab=>e=.returned (.tuple #[.agg #[.int .i64 0,.int .i64 0,.slice none 0 0,.slice none 0 0],.bool false])∧Ext w ab:=by
 have f:t<0∨(hn:Int)≤t∨(0≤t∧t<hn∧∃O bn FA m fc,HA=some ⟨O,bn,none⟩∧O<w.heap.size∧w.cell? ⟨O,bn+t.toNat,none⟩=some (.slice FA m fc)∧(m=0∨s.fault≠0)):=by
  by_cases ac:t<0
  ·exact .inl ac
  by_cases av:(hn:Int)≤t
  ·exact .inr (.inl av)
  refine .inr (.inr ⟨ad,ad,?_⟩);obtain⟨O,bn,fs,FA,m,fc,rfl,T,bK,hc,hm,J⟩:=h.h.lA (k:=t.toNat) ad;refine⟨O,bn,FA,m,fc,rfl,T,hc,?_⟩;rcases rW h ht with aV|aV|aV|⟨_,_,aX,ca,cT,cy,he,_,a3⟩
  ·exact .inr aV
  ·omega
  ·omega
  ·injection he with he;injection he with ar bw;subst ar bw;rw[hc] at a3;injection a3 with a3;injection a3 with _ a3 _;exact .inl a3
 clear h ht;generalize bt:s.fault=z at *;clear bt;rcases f with h|h|⟨ac,av,O,bn,FA,m,fc,rfl,T,cm,dG⟩
 ·have q1:decide (t<0)=true:=by simpa using h
  exact Gc
 ·have q1:decide (t<0)=false:=by simp;omega
  have cB:decide (t≥hn)=true:=by simpa using h
  exact Gc
 ·have q1:decide (t<0)=false:=by simp;omega
  have cB:decide (t≥hn)=false:=by simp;omega
  go_enter func64,ntmps64;exact lI
structure UV where
 GA:Option Addr
 gn:Nat
 gc:Nat
 MA:Option Addr
 mn:Nat
 mc:Nat
 PA:Option Addr
 pn:Nat
 pc:Nat
structure SV where
 GA:Option Addr
 gn:Nat
 gc:Nat
 TA:Option Addr
 tn:Nat
 tc:Nat
 HA:Option Addr
 hn:Nat
 hc:Nat
abbrev UV.val(p:UV)(u:ay):Array Value:=#[.slice p.GA p.gn p.gc,.slice p.MA p.mn p.mc,.slice p.PA p.pn p.pc,.int .i64 u.main]
abbrev SV.val(q:SV)(s:aj):Array Value:=#[.slice q.GA q.gn q.gc,.slice q.TA q.tn q.tc,.slice q.HA q.hn q.hc,.int .i64 s.fault]
structure UV.Ok(p:UV)(w:World)(u:ay):Prop where
 at_:hq w (au w) u p.GA p.gn p.MA p.mn p.PA p.pn
 gc:p.gn≤p.gc
 mc:p.mn≤p.mc
 pc:p.pn≤p.pc
structure SV.Ok(q:SV)(w:World)(s:aj):Prop where
 at_:lE w (au w) s q.GA q.gn q.TA q.tn q.HA q.hn
 gc:q.gn≤q.gc
 tc:q.tn≤q.tc
 hc:q.hn≤q.hc
theorem UV.Ok.on{p:UV}{w ab:World}{u:ay}(h:p.Ok w u)(he:Ext w ab):p.Ok ab u:=⟨h.at_.on he,h.gc,h.mc,h.pc⟩
theorem SV.Ok.on{q:SV}{w ab:World}{s:aj}(h:q.Ok w s)(he:Ext w ab):q.Ok ab s:=⟨h.at_.on he,h.gc,h.tc,h.hc⟩
theorem lR{u:ay}(hU:cZ u):elems u.af≤5000:=by
 have ac:=eu u.af;have av:=cA hU.yW;omega
theorem aX.small{u:ay}{N:Nat}{s:aj}(hU:cZ u)(h:aX u N s)(hD:N≤100000):Small s:=by
 refine⟨by have:=h.dg;have:=hU.n7;omega,by have:=h.table;have:=cA hU.yW;omega,by have:=h.x0;omega,fun t ht=>⟨by have:=(h.fm t ht).1;omega,fun f J=>?_⟩⟩;obtain⟨p,hp,_,ac,av⟩:=((h.fm t ht).2 f J).ex;have:=hU.procs p (KJ hp);have:=this.ints;have:=(hU.procs p (KJ hp)).av;omega
section
variable {u:ay} {N:Nat} {s:aj} {f:al} {cq:cJ} {pl:bR} {w:World} {GA MA IA QA:Ls} {gn gc mn mc i ic qm qc:Nat}
theorem DL(hU:cZ u)(hS:aX u N s)(hF:cb u f)(hp:u.procs[f.proc.toNat]?=some cq)(hx:cU (bx u) cq.locals cq.av pl)(j:pl.param=false)
  (hm:Sl w (au w) MA mn (u.af.map ey)) (a2:Sl w (au w) GA gn (s.globals.map D.i)) (an:Sl w (au w) IA i (f.ints.map D.i)) (bK:(di pl).rep w (au w) [.bool pl.param,.int .i64 pl.index,.slice QA qm qc]) :
  (qm=0∧cS u s f pl=(0,0))∨∃(e:VE) (k:Nat) (m:bI) (b o:Nat) (c0 c1 c2 c3:Value),QA=some ⟨b,o,none⟩∧qm=1∧pl.index=(k:Nat)∧yZ w MA mn u.af GA IA gn i s.globals f.ints e k m b o c0 c1 c2 c3∧nL s.globals f.ints e∧cS u s f pl=idx m.size (ev s.globals f.ints e):=by
 rcases hx with⟨ac,_⟩|⟨_,m,av,aV,bz,cm⟩
 ·rw[j] at ac;cases ac
 obtain⟨A2,n2,c2,e,_,hs⟩:=dT.1 bK;simp only[List.cons.injEq,and_true,true_and] at e;injection e with cH cr a7;subst cH cr a7;have aQ:u.af[pl.index.toNat]?=some m:=aV;by_cases bt:0<m.size
 ·obtain⟨x,hx,qQ⟩:=bz bt;right;rw[hx] at hs;simp only[Option.toList_some,KM,Le] at hs;obtain rfl:qm=1:=hs.1.symm;obtain⟨b,o,bs,Z,bv,E,rfl,O,a5,c0,c1,c2,c3⟩:=hs.D2 (c8 x);obtain⟨bn,n,_⟩:=xB hS hF hp qQ;have rD:=a2.1;have aJ:=an.1;have cK:=hm.1;rw[KK] at rD aJ cK;have ap:=(List.getElem?_eq_some_iff.1 aQ).1;refine⟨x,pl.index.toNat,m,b,o,bs,Z,bv,E,rfl,rfl,ad,⟨⟨a2.ints,an.ints,by rw[←rD,←aJ];exact bn,ku x _ a5⟩,hm.ou,ad,aQ,O,c0,c1,c2,c3⟩,n,?_⟩;unfold cS;rw[hx,aQ];rfl
 ·left;rw[cm bt] at hs;refine⟨hs.1.symm,?_⟩;unfold cS;rw[cm bt]
theorem Ho(hU:cZ u)(hS:aX u N s)(hF:cb u f)(hp:u.procs[f.proc.toNat]?=some cq)(hx:cU (bx u) cq.locals cq.av pl)(j:pl.param=false)
  (hm:Sl w (au w) MA mn (u.af.map ey)) (a2:Sl w (au w) GA gn (s.globals.map D.i)) (an:Sl w (au w) IA i (f.ints.map D.i)) (bK:(di pl).rep w (au w) [.bool pl.param,.int .i64 pl.index,.slice QA qm qc]) :
  Calls prog 68 #[.agg #[.bool false,.int .i64 pl.index,.slice QA qm qc],.slice MA mn mc,.slice GA gn gc,.slice IA i ic] w (fX w (cS u s f pl)):=by
 rcases DL hU hS hF hp hx j hm a2 an bK with⟨rfl,h⟩|⟨e,k,m,b,o,c0,c1,c2,c3,rfl,rfl,ap,hI,_,h⟩
 ·rw[h];exact uZ _ _ _ _ _ _ _ _
 ·rw[h,ap];exact x6 _ _ _ _ _ _ _ _ _ _ _ _ _ _ _ _ _ _ _ _ _ _ _ hI
theorem Hz(hU:cZ u)(hS:aX u N s)(hF:cb u f)(hp:u.procs[f.proc.toNat]?=some cq)(hx:cU (bx u) cq.locals cq.av pl)(j:pl.param=false)
  (hm:Sl w (au w) MA mn (u.af.map ey)) (a2:Sl w (au w) GA gn (s.globals.map D.i)) (an:Sl w (au w) IA i (f.ints.map D.i)) (bK:(di pl).rep w (au w) [.bool pl.param,.int .i64 pl.index,.slice QA qm qc]) :
  Calls prog 70 #[.agg #[.bool false,.int .i64 pl.index,.slice QA qm qc],.slice MA mn mc,.slice GA gn gc,.slice IA i ic] w (fX w (cS u s f pl)):=by
 rcases DL hU hS hF hp hx j hm a2 an bK with⟨rfl,h⟩|⟨e,k,m,b,o,c0,c1,c2,c3,rfl,rfl,ap,hI,n,h⟩
 ·rw[h];exact q2 _ _ _ _ _ _ _ _
 ·rw[h,ap];exact sZ _ _ _ _ _ _ _ _ _ _ _ _ _ _ _ _ _ _ _ _ _ _ _ hI n
end
end Go.Proofs.YtnhhdaggkiomoaaGreat

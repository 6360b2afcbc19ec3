/- Part 45 of the proof. No condition of its own. -/
import Derived.Test.YtnigabjngpnbiaaGreatQ29
import Derived.Test.YtnigabjngpnbiaaGreatQ30
import Derived.Test.YtnigabjngpnbiaaGreatQ44
namespace Go.Proofs.YtnigabjngpnbiaaGreat
open Go.RowKit Go.Proofs.Tryz
set_option maxRecDepth 1000000
set_option maxHeartbeats 25600000
set_option linter.unusedVariables false
variable{p:Prop}
theorem F4(u:ay)(s:ah)(t:Int)(N:Nat)(P:Nat->Prop)(w:World)(p:UV)(q:SV)(hU:xX u)(hS:aV u N s)(bo:N<=100000)(hu:p.Ok w u)(hs:q.Is w P s)(S:∀b,P b->b<w.heap.size) :
  Calls prog 29 #[.agg (p.val u),.agg (q.val s),.int .i64 t] w (cH P w (bM u s t).1 (bM u s t).2):=by
 cases htop:dJ s t with
 | none=>rw[pg htop];exact uW u s t P w p q hu hs S htop
 | some f=>
  obtain⟨cc,x,i,J⟩:=je.of hU hS bo htop;rw[pj htop J];have r:x.op=1\/x.op=2\/x.op=3\/x.op=4\/x.op=5\/x.op=6\/x.op=7\/x.op=8:=by
   exact x5
  rcases r with h|h|h|h|h|h|h|h
  .exact oZ u s t f cc x N P w p q i bo (.inl h) hu hs S
  .exact oY u s t f cc x N P w p q i bo (.inl h) hu hs S
  .exact oY u s t f cc x N P w p q i bo (.inr h) hu hs S
  .exact o2 u s t f cc x N P w p q i bo (.inl h) hu hs S
  .exact o2 u s t f cc x N P w p q i bo (.inr h) hu hs S
  .exact oZ u s t f cc x N P w p q i bo (.inr h) hu hs S
  .exact o5 u s t f cc x N P w p q i bo (.inl h) hu hs S
  .exact o5 u s t f cc x N P w p q i bo (.inr h) hu hs S
def xT(w:World)(s:ah)(m:Nat)(e:Ending)(J:World):Prop:=∃q:SV,e=.returned (.tuple #[.agg (q.val s),.int .i64 (m:Int)])/\q.Is J (λk=>w.heap.size<=k/\k<J.heap.size) s/\Ext w J
theorem xx(u:ay)(l:List Int)(t:Int)(s:ah):ju u s (l++[t])=(bM u (ju u s l) t).1:=by rw[o9];rfl
namespace Cf
theorem gO(h:p:=by
 refine tf ?_;refine cY ?_;generalize hX:World.setCell _ _ _=X;obtain⟨a6,bf,y⟩:=bk (w:=wr) [.slice aZ aW aS,.slice bI aG z,.slice bK ah r,.int .i64 (bM u S t).1.fault] (by rfl) j aA dA hX;have aP:(⟨aZ,aW,aS,bI,aG,z,bK,ah,r⟩:SV).Is X (λb=>W.heap.size<=b/\b<X.heap.size/\b≠aL.heap.size) (bM u S t).1:=(aN.al λb O=>y.block b O.2.1 O.2.2.2).mono λb O=>⟨O.1,by have:=y.size;have:=O.2.1;omega,O.2.2.1⟩
 have bS:=a2.2.1.aj bf;have H:=av bf aP bS;obtain⟨bl,U,aE⟩:=a6.two;obtain⟨b0,am,aw⟩:=bS.two;have bp:=bf.size;clear hX j aA aN y bf aP bS a6
 cases bv:(bM u S t).2 with
 | true=>
  have bt:=ae bv;clear bv;go_wp2_with(fail);generalize aI:World.setCell _ _ _=Z;obtain⟨bq,a4⟩:=ej 0 [.slice aZ aW aS,.slice bI aG z,.slice bK ah r,.int .i64 (bM u S t).1.fault] H.2.2 aI;have bn:=ak bq a4;clear aI bq a4 bl U aE b0 am aw;go_roundw
  case rel=>
   have ax:Fr (λb=>b=aL.heap.size) V Z:=Fr.trans (Fr.trans a2.1 (Fr.mono H.1 λ_ h=>h.elim)) bn.2;have hs:=a2.2.2.2.2.2.1 t aJ.o;have ac:(iC u S [t]).length=1:=by
    show ((if (bM u S t).2 then [t] else [])++[]).length=1
    rw[bt.o];rfl
   refine⟨k+1,⟨aZ,aW,aS,bI,aG,z,bK,ah,r⟩,?_,by go_num,ad,ax,?_,?_⟩
   .rw[hs.1,JK,ac];go_num
   .rw[hs.2];exact bn.1
   .rw[hs.2];have bH:=bn.2.size;exact(H.2.1.al λb O=>bn.2.block b O.2.1 O.2.2).mono λb O=>⟨O.1,by have:=O.2.1;omega,O.2.2⟩
  case measure=>exact aU
 | false=>
  have bt:=ae bv;clear bv;go_wp2_with(fail);clear bl U aE b0 am aw;go_roundw
  case rel=>
   have ax:Fr (λb=>b=aL.heap.size) V X:=Fr.trans a2.1 (Fr.mono H.1 λ_ h=>h.elim);have hs:=a2.2.2.2.2.2.1 t aJ.o;have ac:(iC u S [t]).length=0:=by
    show ((if (bM u S t).2 then [t] else [])++[]).length=0
    rw[bt.o];rfl
   refine⟨k+1,⟨bm,sm,a1,bW,bc,a8,bL,hm,hd⟩,?_,by go_num,ad,ax,?_,?_⟩
   .rw[hs.1,JK,ac,JS]
   .rw[hs.2,jx bt.o];exact H.2.2
   .rw[hs.2,jx bt.o];exact(a2.2.2.1.FZ (λb O=>O.2.1) H.1).mono λb O=>⟨O.1,by have:=O.2.1;omega,O.2.2⟩
  case measure=>exact aU
 ):p:=h
theorem kT(h:p:=by
 have ab:=dT ar cq (bR.1.on ar) (bR.2.eQ (Fr.ext ar) ar.size) aK;have cP:=ar.size;have dv:=cq.lt;obtain⟨a0,al,af⟩:=aK.two;clear ba ar aK cq bR;go_wp2_with(fail);refine(Iz u W ⟨GA,gn,gc,MA,mn,mc,PA,pn,pc⟩ cx.o ab.2.2.1).mono ?_;rintro e aL ⟨⟨bP,cg,bQ,TA,tn,tc,HA,cd,hc⟩,rfl,aD,ag⟩;have H1:=ak aD ag;have ct:=ag.size;clear aD ag a0 al af;dsimp only[SV.val];go_upto_region 2 with(fail);generalize hV:World.alloc _ _=V;have a9:=aY hV;have b8:=aF hV;have cT:=b8.lt;have aR:(⟨bP,cg,bQ,TA,tn,tc,HA,cd,hc⟩:SV).Is V (λb=>W.heap.size<=b/\b<V.heap.size/\b≠aL.heap.size) (dI u):=(H1.1.al λb O=>a9.block b (O.resolve_left λh=>h).2 λh=>h).mono λb O=>by have:=O.resolve_left λh=>h;omega
 have s:=av aR b8 (H1.2.trans a9);clear hV a9 b8 aR;go_wp2_with(fail);go_loopw [7,8] (λbi cr wr=>∃(k:Nat) (q:SV),bi=.int .i64 ((iC u (dI u) (l.take k)).length:Int)/\cr=.int .i64 k/\k<=n/\Fr (λb=>b=aL.heap.size) V wr/\au wr aL.heap.size 31 (q.val (ju u (dI u) (l.take k)))/\q.Is wr (λb=>W.heap.size<=b/\b<wr.heap.size/\b≠aL.heap.size) (ju u (dI u) (l.take k))) (λ_ cr _=>n - (intOf cr).toNat)
 case atStart=>exact⟨0,_,rfl,rfl,ad,Kf,s.2.1,s.1⟩
 case round=>
  obtain⟨k,⟨bm,sm,a1,bW,bc,a8,bL,hm,hd⟩,rfl,rfl,aj,hF,J,N⟩:=hrel;have T:Ext W wr:=Fr.low (M:=λb=>b=aL.heap.size) (Fr.trans (Fr.mono s.2.2 λ_ h=>h.elim) hF) λb O=>ad;have b2:=uX cx.ok (l.take k) 0 (dI u) (nw cx.ok);have bb:=GX (u:=u) (l.take k) (dI u);rw[List.length_take] at bb;have bg:(iC u (dI u) (l.take k)).length<=100000:=ad;have bF:∀t,l[k]?=some t->iC u (dI u) (l.take (k+1))=iC u (dI u) (l.take k)++iC u (ju u (dI u) (l.take k)) [t]/\ju u (dI u) (l.take (k+1))=(bM u (ju u (dI u) (l.take k)) t).1:=λt ht=>by
   rw[aX ht,s7,o9];exact⟨rfl,rfl⟩
  have I:k=n->ju u (dI u) (l.take k)=ju u (dI u) l/\iC u (dI u) (l.take k)=iC u (dI u) l:=λh=>by
   rw[JQ (aC ab.2.2.2.1.1)];exact⟨rfl,rfl⟩
  generalize hS:ju u (dI u) (l.take k)=S at *;generalize ah:(iC u (dI u) (l.take k))=M at *;have a2:=jE hF J N T b2 bF I;have cS:=hF.size;have ap:=ae (show W.heap.size<=aL.heap.size/\aL.heap.size<V.heap.size/\V.heap.size<=wr.heap.size from ⟨ct,cT,hF.size⟩);have bd:=J.lt;clear b2 bF I hS ah bb;by_cases aq:k<n
  .have a7:=ab.2.2.2.1.eQ (Fr.ext T) T.size;obtain⟨b,o,t,bu,O,hx,hc⟩:=a7.int aq;subst bu;obtain⟨a0,al,af⟩:=(ab.2.2.2.2.aj T).two;obtain⟨b0,am,aw⟩:=J.two;have aJ:=ae hx;clear hF J N T a7 hx;go_upto_region 5 with(fail);refine uU (λ_=>False) [11] (.held 0 (.held 1 (.free 2 (.free 3 (.free 4 (.held 5 (.pick [6,10] (λi=>bif i == 6 then .free 7 (.free 8 (.free 9 (.pick [10] (λ_=>.pick [11] (λ_=>.free 12 (.stop)))))) else .pick [6] (λ_=>.free 7 (.free 8 (.free 9 (.pick [11] (λ_=>.free 12 (.stop)))))))))))))) ?_
   iterate 2 refine th ?_
   iterate 3 refine tf ?_
   refine th ?_;refine pk (P:=?rZ) (ops:=?HZ) (Q:=?H3) (R:=?H4) (tails:=?H6) (rest:=.pick [11] (λ_=>.free 12 (.stop))) (aa:=?HW)
    (C:=λ(L:Nat) (Y:Value) ai=>Ext wr ai/\au ai L 31 #[.slice none 0 0,.slice none 0 0,.slice none 0 0,.int .i64 0]/\wr.heap.size<=L/\∃ao:SV,Y=.agg (ao.val (bM u S t).1)/\ao.Is ai (λb=>W.heap.size<=b/\b<ai.heap.size/\b≠aL.heap.size/\b≠L) (bM u S t).1) (λkey=>?Ev) ?Es
   case Ev=>
    refine b1 ?_ ?_
    ·
     refine bD rfl (λK hK=>?_) rfl;go_simp;refine(F4 u S t _ (λb=>W.heap.size<=b/\b<wr.heap.size/\b≠aL.heap.size) wr.drew ⟨GA,gn,gc,MA,mn,mc,PA,pn,pc⟩ ⟨bm,sm,a1,bW,bc,a8,bL,hm,hd⟩ cx.o a2.2.2.2.2.1 (by rw[List.length_take];omega) (ab.2.2.1.on a2.2.2.2.1.drew) (a2.2.2.1.al λb O=>rfl) (λb O=>O.2.1)).mono ?_;rintro e aV ⟨ao,rfl,az,aO⟩;refine gu hK (aO) ?_;clear hK K
     iterate 3 refine tf ?_
     refine aB ?_;refine gX ?_;generalize aI:World.alloc _ _=Z;have e2:=aY aI;have bz:wr.heap.size<=aV.heap.size:=aO.size;have cu:=e2.size;have F:Ext wr Z/\au Z aV.heap.size 31 #[.slice none 0 0,.slice none 0 0,.slice none 0 0,.int .i64 0]/\wr.heap.size<=aV.heap.size/\∃cM:SV,(Value.agg (ao.val (bM u S t).1))=.agg (cM.val (bM u S t).1)/\cM.Is Z (λb=>W.heap.size<=b/\b<Z.heap.size/\b≠aL.heap.size/\b≠aV.heap.size) (bM u S t).1:=
      ⟨(Fr.aL aO).trans e2,by rw[<-aI];exact Kg,bz,ao,rfl,(az.al λb O=>e2.block b (O.elim (λh=>ad) λh=>h.2) λh=>h).mono λb O=>by
       have hd:wr.drew.heap.size=wr.heap.size:=rfl;have:=ap.o;rcases O with O|O<;>omega⟩
     clear aI e2 bz cu az aO;revert F;generalize aV.heap.size=L;generalize (Value.agg (ao.val (bM u S t).1))=Y;intro F;exact key L Y _ F
    ·
     refine gX ?_;generalize aH:World.drew (World.alloc _ _)=cQ;have e1:=jW aH;have cA:=vF aH;have a3:=cA.lt;refine aB ?_;refine bD rfl (λK hK=>?_) rfl;go_simp;refine(F4 u S t _ (λb=>W.heap.size<=b/\b<wr.heap.size/\b≠aL.heap.size) cQ ⟨GA,gn,gc,MA,mn,mc,PA,pn,pc⟩ ⟨bm,sm,a1,bW,bc,a8,bL,hm,hd⟩ cx.o a2.2.2.2.2.1 (by rw[List.length_take];omega) (ab.2.2.1.on (a2.2.2.2.1.trans e1)) (a2.2.2.1.FZ (λb O=>O.2.1) e1) (λb O=>by have:=O.2.1;omega)).mono ?_;rintro e aV ⟨ao,rfl,az,aO⟩;refine gu hK (aO) ?_;clear hK K
     iterate 3 refine tf ?_
     have bz:=aO.size;have F:Ext wr aV/\au aV wr.heap.size 31 #[.slice none 0 0,.slice none 0 0,.slice none 0 0,.int .i64 0]/\wr.heap.size<=wr.heap.size/\∃cM:SV,(Value.agg (ao.val (bM u S t).1))=.agg (cM.val (bM u S t).1)/\cM.Is aV (λb=>W.heap.size<=b/\b<aV.heap.size/\b≠aL.heap.size/\b≠wr.heap.size) (bM u S t).1:=
      ⟨e1.trans aO,cA.aj aO,JI _,ao,rfl,az.mono λb O=>by
       have:=ap.o;rcases O with O|O<;>omega⟩
     clear aH e1 cA a3 bz az aO;revert F key;generalize (Value.agg (ao.val (bM u S t).1))=Y;intro key F;exact key wr.heap.size Y _ F
   case Es=>
    rintro L Y ai ⟨aA,j,dA,⟨aZ,aW,aS,bI,aG,z,bK,ah,r⟩,rfl,aN⟩;dsimp only[SV.val];obtain⟨bl,U,aE⟩:=j.two;clear a0 al af b0 am aw hc;exact gN
  .have aT:k=n:=ad;have be:=ae aT;obtain⟨b0,am,aw⟩:=J.two;have aQ:=ab.2.1.aj T;have m:=ak aQ (ab.1.trans T);obtain⟨bh,an,aM⟩:=aQ.two;clear hF J N T aT aQ;go_wp2_with(fail);generalize hX:World.setCell _ _ _=Z;obtain⟨bq,a5,a4⟩:=bk (w:=w) [.slice bm sm a1,.slice bW bc a8,.slice bL hm hd,.int .i64 S.fault] (by rfl) m.1 m.2 ad hX;have bn:=ak a5 a4;clear hX a5 a4 bh an aM b0 am aw;obtain⟨bh,an,aM⟩:=bq.two;refine Ke (v:=.tuple #[.agg #[.slice bm sm a1,.slice bW bc a8,.slice bL hm hd,.int .i64 S.fault],.int .i64 (M.length:Int)]) (by simp[results,Tryz.results9,go_sem,bh]) rfl ?_;have I:=a2.2.2.2.2.2.2 be.o;rw[<-I.1,<-I.2];have cF:=bn.2.size;exact⟨⟨bm,sm,a1,bW,bc,a8,bL,hm,hd⟩,rfl,(a2.2.2.1.al λb O=>bn.2.block b O.2.1 (aC O.1)).mono λb O=>⟨by have:=O.1;omega,by have:=O.2.1;omega⟩,bn.1⟩
 ):p:=h
end Cf
open Cf in
theorem IB(u:ay)(l:List Int)(A:Kj)(n c:Nat)(w:World)(p:UV)(hU:xX u)(hu:p.Ok w u)(hl:cB (EF dr) 1 w w.heap.size A n l)(hn:n<=100000) :
  Calls prog 9 #[.agg (p.val u),.slice A n c] w (xT w (ju u (dI u) l) (iC u (dI u) l).length):=by
 obtain⟨GA,gn,gc,MA,mn,mc,PA,pn,pc⟩:=p;have bR:=ak hu hl;have cx:=ae hU;clear hU hu hl;dsimp only[UV.val];go_enter func9,ntmps9;exact kS
end Go.Proofs.YtnigabjngpnbiaaGreat

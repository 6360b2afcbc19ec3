/- Part 29 of the proof. No condition of its own. -/
import Derived.Test.YtglbpimocmhojaaGreatQ28
namespace Go.Proofs.YtglbpimocmhojaaGreat
open Go.RowKit Go.Proofs.Tryz
set_option maxRecDepth 1000000
set_option maxHeartbeats 25600000
set_option linter.unusedVariables false
variable{p:Prop}
namespace CQ
theorem vc(h:p:=by
 rw[bT.o];exact ff (B:=V.heap.size) bB.1 bf.2.drew (λb O=>⟨λhl=>by have:=G.o b hl;omega,ad⟩) (λb O=>by have:=G.o b O;omega) ad bf.1.drew (by rw[xH bU.2.1,List.set_set])
 ):p:=h
theorem dB(h:p:=by
 generalize hX:World.setCell _ _ _=Y;obtain⟨r,bE⟩:=aQ.1.drop hX;have ar:=cJ hX;have y:=(aQ.1.lo O (by simp)).1;have i:Ext V Y:=Fr.low (M:=λb=>b=O) (Fr.trans (Fr.mono aQ.2.1 λ_ h=>h.elim) ar) λb O=>ad;have bB:=aD r bE (bN.trans i);have bs:=i.size;clear hX r bE ar i a0 ai af a8 am aF d0 aL aM e0 a6 aP c0 c1 c2 c3 H flb J;exact vb
 ):p:=h
theorem AJ(h:p:=by
 iterate 3 refine pf ?_
 exact eP
 ):p:=h
theorem r8(h:p:=by
 clear b4 cw aY;rcases cz.o with h|h
 all_goals
  first
   | have q1:(x.op == 1)=true:=by simpa using h
   | have q1:(x.op == 1)=false:=by simp;omega
  first
   | have cI:(x.op == 2)=true:=by simpa using h
   | have cI:(x.op == 2)=false:=by simp;omega
  first
   | have dd:(x.op == 3)=true:=by simpa using h
   | have dd:(x.op == 3)=false:=by simp;omega
  first
   | have df:(x.op == 4)=true:=by simpa using h
   | have df:(x.op == 4)=false:=by simp;omega
  first
   | have q5:(x.op == 5)=true:=by simpa using h
   | have q5:(x.op == 5)=false:=by simp;omega
  first
   | have di:(x.op == 6)=true:=by simpa using h
   | have di:(x.op == 6)=false:=by simp;omega
  first
   | have q7:(x.op == 7)=true:=by simpa using h
   | have q7:(x.op == 7)=false:=by simp;omega
  first
   | have dI:(x.op == 8)=true:=by simpa using h
   | have dI:(x.op == 8)=false:=by simp;omega
 ·
  have bT:=ae (xM (u:=u) (s:=s) (t:=t) (f:=f) h);clear h;go_upto_region 45 with(fail);generalize hX:World.setCell _ _ _=Y;have n:=aQ.1.pc x.target;rw[hX] at n;have ar:=cJ hX;have i:Ext V Y:=Fr.low (M:=λb=>b=lb) (Fr.trans (Fr.mono aQ.2.1 λ_ h=>h.elim) ar) λb O=>ad;have bB:=aD n.is n.o (bN.trans i);have bs:=i.size;clear hX n ar i a0 ai af a8 am aF d0 aL aM e0 a6 aP c0 c1 c2 c3 H flb J;exact F3
 ·
  have bT:=ae (xN (u:=u) (s:=s) (t:=t) (f:=f) h);clear h;go_upto_region 9 with(fail);exact AI
 ):p:=h
theorem sa(h:p:=by
 exact r7
 ):p:=h
theorem sc(h:p:=by
 exact r9
 ):p:=h
end CQ
open CQ in
theorem qu(u:ay)(s:aj)(t:Int)(f:al)(cq:cH)(x:az)(N:Nat)(P:Nat->Prop)(w:World)(p:UV)(q:SV)(h:jO u s t f cq x N)(hN:N<=100000)(cx:x.op=7\/x.op=8)(hu:p.Ok w u)(aC:q.Is w P s)(aZ:∀b,P b->b<w.heap.size) :
  Calls prog 10 #[.agg (p.val u),.agg (q.val s),.int .i64 t] w (cR P w (b2 u s t f x).1 (b2 u s t f x).2):=by
 exact sb
theorem GJ(u:ay)(s:aj)(t:Int)(N:Nat)(P:Nat->Prop)(w:World)(p:UV)(q:SV)(hU:tq u)(hS:aV u N s)(hN:N<=100000)(hu:p.Ok w u)(hs:q.Is w P s)(aZ:∀b,P b->b<w.heap.size) :
  Calls prog 10 #[.agg (p.val u),.agg (q.val s),.int .i64 t] w (cR P w (b9 u s t).1 (b9 u s t).2):=by
 cases htop:eg s t with
 | none=>rw[qy htop];exact wv u s t P w p q hu hs aZ htop
 | some f=>
  obtain⟨cq,x,i,H⟩:=jO.of hU hS hN htop;rw[qz htop H];have r:x.op=1\/x.op=2\/x.op=3\/x.op=4\/x.op=5\/x.op=6\/x.op=7\/x.op=8:=by
   exact y9
  rcases r with h|h|h|h|h|h|h|h
  .exact qs u s t f cq x N P w p q i hN (.inl h) hu hs aZ
  .exact qq u s t f cq x N P w p q i hN (.inl h) hu hs aZ
  .exact qq u s t f cq x N P w p q i hN (.inr h) hu hs aZ
  .exact qt u s t f cq x N P w p q i hN (.inl h) hu hs aZ
  .exact qt u s t f cq x N P w p q i hN (.inr h) hu hs aZ
  .exact qs u s t f cq x N P w p q i hN (.inr h) hu hs aZ
  .exact qu u s t f cq x N P w p q i hN (.inl h) hu hs aZ
  .exact qu u s t f cq x N P w p q i hN (.inr h) hu hs aZ
def yW(w:World)(s:aj)(m:Nat)(e:Ending)(ab:World):Prop:=∃q:SV,e=.returned (.tuple #[.agg (q.val s),.int .i64 (m:Int)])/\q.Is ab (λk=>w.heap.size<=k/\k<ab.heap.size) s/\Ext w ab
namespace CR
theorem eQ(h:p:=by
 refine tf ?_;refine b3 ?_;generalize hX:World.setCell _ _ _=X;obtain⟨bz,bp,b5⟩:=bA (w:=wr) [.slice an av aj,.slice be s j,.slice bQ al bc,.int .i64 (b9 u S t).1.fault] (by rfl) bF cB gr hX;have ac:(⟨an,av,aj,be,s,j,bQ,al,bc⟩:SV).Is X (λb=>W.heap.size<=b/\b<X.heap.size/\b≠aS.heap.size) (b9 u S t).1:=(L.ak λb O=>b5.block b O.2.1 O.2.2.2).mono λb O=>⟨O.1,by have:=b5.size;have:=O.2.1;omega,O.2.2.1⟩
 have cd:=aW.2.1.ai bp;have y:=aD bp ac cd;obtain⟨bs,aV,bu⟩:=bz.two;obtain⟨a8,am,aF⟩:=cd.two;have H:=bp.size;clear hX bF cB L b5 bp ac cd bz
 cases bg:(b9 u S t).2 with
 | true=>
  have br:=ae bg;clear bg;go_wp2_with(fail);generalize bI:World.setCell _ _ _=Z;obtain⟨bh,bd⟩:=ke 0 [.slice an av aj,.slice be s j,.slice bQ al bc,.int .i64 (b9 u S t).1.fault] y.2.2 bI;have bf:=ah bh bd;clear bI bh bd bs aV bu a8 am aF;go_roundw
  case rel=>
   have ax:Fr (λb=>b=aS.heap.size) V Z:=Fr.trans (Fr.trans aW.1 (Fr.mono y.1 λ_ h=>h.elim)) bf.2;have hs:=aW.2.2.2.2.2.1 t aQ.o;have bS:(jJ u S [t]).length=1:=by
    show ((if (b9 u S t).2 then [t] else [])++[]).length=1
    rw[br.o];rfl
   refine⟨k+1,⟨an,av,aj,be,s,j,bQ,al,bc⟩,?_,by go_num,ad,ax,?_,?_⟩
   .rw[hs.1,KF,bS];go_num
   .rw[hs.2];exact bf.1
   .rw[hs.2];have bZ:=bf.2.size;exact(y.2.1.ak λb O=>bf.2.block b O.2.1 O.2.2).mono λb O=>⟨O.1,by have:=O.2.1;omega,O.2.2⟩
  case measure=>exact aG
 | false=>
  have br:=ae bg;clear bg;go_wp2_with(fail);clear bs aV bu a8 am aF;go_roundw
  case rel=>
   have ax:Fr (λb=>b=aS.heap.size) V X:=Fr.trans aW.1 (Fr.mono y.1 λ_ h=>h.elim);have hs:=aW.2.2.2.2.2.1 t aQ.o;have bS:(jJ u S [t]).length=0:=by
    show ((if (b9 u S t).2 then [t] else [])++[]).length=0
    rw[br.o];rfl
   refine⟨k+1,⟨aE,sm,aM,ab,aJ,aI,b1,hm,hd⟩,?_,by go_num,ad,ax,?_,?_⟩
   .rw[hs.1,KF,bS,KN]
   .rw[hs.2,j4 br.o];exact y.2.2
   .rw[hs.2,j4 br.o];exact(aW.2.2.1.GD (λb O=>O.2.1) y.1).mono λb O=>⟨O.1,by have:=O.2.1;omega,O.2.2⟩
  case measure=>exact aG
 ):p:=h
theorem lJ(h:p:=by
 have ag:=cK aw cA (cc.1.on aw) (cc.2.c8 (Fr.ext aw) aw.size) aR;have cZ:=aw.size;have dr:=cA.lt;obtain⟨a0,ai,af⟩:=aR.two;clear ba aw aR cA cc;go_wp2_with(fail);refine(Js u W ⟨GA,gn,gc,MA,mn,mc,PA,pn,pc⟩ cz.o ag.2.2.1).mono ?_;rintro e aS ⟨⟨bR,bV,bC,TA,tn,tc,HA,co,hc⟩,rfl,I,aN⟩;have H1:=ah I aN;have cp:=aN.size;clear I aN a0 ai af;dsimp only[SV.val];go_upto_region 2 with(fail);generalize hV:World.alloc _ _=V;have bm:=aX hV;have b7:=aK hV;have bt:=b7.lt;have aP:(⟨bR,bV,bC,TA,tn,tc,HA,co,hc⟩:SV).Is V (λb=>W.heap.size<=b/\b<V.heap.size/\b≠aS.heap.size) (dJ u):=(H1.1.ak λb O=>bm.block b (O.resolve_left λh=>h).2 λh=>h).mono λb O=>by have:=O.resolve_left λh=>h;omega
 have m:=aD aP b7 (H1.2.trans bm);clear hV bm b7 aP;go_wp2_with(fail);go_loopw [7,8] (λhj cu wr=>∃(k:Nat) (q:SV),hj=.int .i64 ((jJ u (dJ u) (l.take k)).length:Int)/\cu=.int .i64 k/\k<=n/\Fr (λb=>b=aS.heap.size) V wr/\aq wr aS.heap.size 40 (q.val (iP u (dJ u) (l.take k)))/\q.Is wr (λb=>W.heap.size<=b/\b<wr.heap.size/\b≠aS.heap.size) (iP u (dJ u) (l.take k))) (λ_ cu _=>n - (intOf cu).toNat)
 case atStart=>exact⟨0,_,rfl,rfl,ad,Ll,m.2.1,m.1⟩
 case round=>
  obtain⟨k,⟨aE,sm,aM,ab,aJ,aI,b1,hm,hd⟩,rfl,rfl,ap,hF,N,aH⟩:=hrel;have J:Ext W wr:=Fr.low (M:=λb=>b=aS.heap.size) (Fr.trans (Fr.mono m.2.2 λ_ h=>h.elim) hF) λb O=>ad;have bY:=wx cz.ok (l.take k) 0 (dJ u) (oI cz.ok);have a2:=HH (u:=u) (l.take k) (dJ u);rw[List.length_take] at a2;have a5:(jJ u (dJ u) (l.take k)).length<=100000:=ad;have c6:∀t,l[k]?=some t->jJ u (dJ u) (l.take (k+1))=jJ u (dJ u) (l.take k)++jJ u (iP u (dJ u) (l.take k)) [t]/\iP u (dJ u) (l.take (k+1))=(b9 u (iP u (dJ u) (l.take k)) t).1:=λt ht=>by
   rw[aZ ht,uJ,uu];exact⟨rfl,rfl⟩
  have z:k=n->iP u (dJ u) (l.take k)=iP u (dJ u) l/\jJ u (dJ u) (l.take k)=jJ u (dJ u) l:=λh=>by
   rw[KL (aC ag.2.2.2.1.1)];exact⟨rfl,rfl⟩
  generalize hS:iP u (dJ u) (l.take k)=S at *;generalize al:(jJ u (dJ u) (l.take k))=M at *;have aW:=hP hF N aH J bY c6 z;have ds:=hF.size;have au:=ae (show W.heap.size<=aS.heap.size/\aS.heap.size<V.heap.size/\V.heap.size<=wr.heap.size from ⟨cp,bt,hF.size⟩);have bW:=N.lt;clear bY c6 z hS al a2;by_cases ak:k<n
  .have T:=ag.2.2.2.1.c8 (Fr.ext J) J.size;obtain⟨b,o,t,bw,O,hx,hc⟩:=T.int ak;subst bw;obtain⟨a0,ai,af⟩:=(ag.2.2.2.2.ai J).two;obtain⟨a8,am,aF⟩:=N.two;have aQ:=ae hx;clear hF N aH J T hx;go_upto_region 5 with(fail);refine qY (λ_=>False) [11] (.held 0 (.held 1 (.free 2 (.free 3 (.free 4 (.held 5 (.pick [6,10] (λi=>bif i == 6 then .free 7 (.free 8 (.free 9 (.pick [10] (λ_=>.pick [11] (λ_=>.free 12 (.stop)))))) else .pick [6] (λ_=>.free 7 (.free 8 (.free 9 (.pick [11] (λ_=>.free 12 (.stop)))))))))))))) ?_
   iterate 2 refine th ?_
   iterate 3 refine tf ?_
   refine th ?_;refine l8 (P:=?ow) (ops:=?Hq) (Q:=?Hs) (R:=?Hu) (tails:=?HE) (rest:=.pick [11] (λ_=>.free 12 (.stop))) (aa:=?G3)
    (C:=λ(az:Nat) (Y:Value) eN=>Ext wr eN/\aq eN az 40 #[.slice none 0 0,.slice none 0 0,.slice none 0 0,.int .i64 0]/\wr.heap.size<=az/\∃ar:SV,Y=.agg (ar.val (b9 u S t).1)/\ar.Is eN (λb=>W.heap.size<=b/\b<eN.heap.size/\b≠aS.heap.size/\b≠az) (b9 u S t).1) (λkey=>?vY) ?vR
   case vY=>
    refine aY ?_ ?_
    ·
     refine aB rfl (λK hK=>?_) rfl;go_simp;refine(GJ u S t _ (λb=>W.heap.size<=b/\b<wr.heap.size/\b≠aS.heap.size) wr.drew ⟨GA,gn,gc,MA,mn,mc,PA,pn,pc⟩ ⟨aE,sm,aM,ab,aJ,aI,b1,hm,hd⟩ cz.o aW.2.2.2.2.1 (by rw[List.length_take];omega) (ag.2.2.1.on aW.2.2.2.1.drew) (aW.2.2.1.ak λb O=>rfl) (λb O=>O.2.1)).mono ?_;rintro e aT ⟨ar,rfl,r,a3⟩;refine dz hK (a3) ?_;clear hK K
     iterate 3 refine tf ?_
     refine ao ?_;refine dP ?_;generalize bI:World.alloc _ _=Z;have e2:=aX bI;have bN:wr.heap.size<=aT.heap.size:=a3.size;have cO:=e2.size;have F:Ext wr Z/\aq Z aT.heap.size 40 #[.slice none 0 0,.slice none 0 0,.slice none 0 0,.int .i64 0]/\wr.heap.size<=aT.heap.size/\∃cI:SV,(Value.agg (ar.val (b9 u S t).1))=.agg (cI.val (b9 u S t).1)/\cI.Is Z (λb=>W.heap.size<=b/\b<Z.heap.size/\b≠aS.heap.size/\b≠aT.heap.size) (b9 u S t).1:=
      ⟨(Fr.aF a3).trans e2,by rw[<-bI];exact Lm,bN,ar,rfl,(r.ak λb O=>e2.block b (O.elim (λh=>ad) λh=>h.2) λh=>h).mono λb O=>by
       have hd:wr.drew.heap.size=wr.heap.size:=rfl;have:=au.o;rcases O with O|O<;>omega⟩
     clear bI e2 bN cO r a3;revert F;generalize aT.heap.size=az;generalize (Value.agg (ar.val (b9 u S t).1))=Y;intro F;exact key az Y _ F
    ·
     refine dP ?_;generalize a1:World.drew (World.alloc _ _)=cC;have e1:=gG a1;have cE:=kp a1;have aU:=cE.lt;refine ao ?_;refine aB rfl (λK hK=>?_) rfl;go_simp;refine(GJ u S t _ (λb=>W.heap.size<=b/\b<wr.heap.size/\b≠aS.heap.size) cC ⟨GA,gn,gc,MA,mn,mc,PA,pn,pc⟩ ⟨aE,sm,aM,ab,aJ,aI,b1,hm,hd⟩ cz.o aW.2.2.2.2.1 (by rw[List.length_take];omega) (ag.2.2.1.on (aW.2.2.2.1.trans e1)) (aW.2.2.1.GD (λb O=>O.2.1) e1) (λb O=>by have:=O.2.1;omega)).mono ?_;rintro e aT ⟨ar,rfl,r,a3⟩;refine dz hK (a3) ?_;clear hK K
     iterate 3 refine tf ?_
     have bN:=a3.size;have F:Ext wr aT/\aq aT wr.heap.size 40 #[.slice none 0 0,.slice none 0 0,.slice none 0 0,.int .i64 0]/\wr.heap.size<=wr.heap.size/\∃cI:SV,(Value.agg (ar.val (b9 u S t).1))=.agg (cI.val (b9 u S t).1)/\cI.Is aT (λb=>W.heap.size<=b/\b<aT.heap.size/\b≠aS.heap.size/\b≠wr.heap.size) (b9 u S t).1:=
      ⟨e1.trans a3,cE.ai a3,KD _,ar,rfl,r.mono λb O=>by
       have:=au.o;rcases O with O|O<;>omega⟩
     clear a1 e1 cE aU bN r a3;revert F key;generalize (Value.agg (ar.val (b9 u S t).1))=Y;intro key F;exact key wr.heap.size Y _ F
   case vR=>
    rintro az Y eN ⟨cB,bF,gr,⟨an,av,aj,be,s,j,bQ,al,bc⟩,rfl,L⟩;dsimp only[SV.val];obtain⟨bs,aV,bu⟩:=bF.two;clear a0 ai af a8 am aF hc;exact fj
  .have cm:k=n:=ad;have a4:=ae cm;obtain⟨a8,am,aF⟩:=N.two;have aL:=ag.2.1.ai J;have U:=ah aL (ag.1.trans J);obtain⟨bl,aA,aO⟩:=aL.two;clear hF N aH J cm aL;go_wp2_with(fail);generalize hX:World.setCell _ _ _=Z;obtain⟨bh,a9,bd⟩:=bA (w:=w) [.slice aE sm aM,.slice ab aJ aI,.slice b1 hm hd,.int .i64 S.fault] (by rfl) U.1 U.2 ad hX;have bf:=ah a9 bd;clear hX a9 bd bl aA aO a8 am aF;obtain⟨bl,aA,aO⟩:=bh.two;refine Lk (v:=.tuple #[.agg #[.slice aE sm aM,.slice ab aJ aI,.slice b1 hm hd,.int .i64 S.fault],.int .i64 (M.length:Int)]) (by simp[results,Tryz.results52,go_sem,bl]) rfl ?_;have z:=aW.2.2.2.2.2.2 a4.o;rw[<-z.1,<-z.2];have cQ:=bf.2.size;exact⟨⟨aE,sm,aM,ab,aJ,aI,b1,hm,hd⟩,rfl,(aW.2.2.1.ak λb O=>bf.2.block b O.2.1 (aC O.1)).mono λb O=>⟨by have:=O.1;omega,by have:=O.2.1;omega⟩,bf.1⟩
 ):p:=h
end CR
open CR in
theorem Jt(u:ay)(l:List Int)(A:Lp)(n c:Nat)(w:World)(p:UV)(hU:tq u)(hu:p.Ok w u)(hl:cx (EF cT) 1 w w.heap.size A n l)(hn:n<=100000) :
  Calls prog 52 #[.agg (p.val u),.slice A n c] w (yW w (iP u (dJ u) l) (jJ u (dJ u) l).length):=by
 obtain⟨GA,gn,gc,MA,mn,mc,PA,pn,pc⟩:=p;have cc:=ah hu hl;have cz:=ae hU;clear hU hu hl;dsimp only[UV.val];go_enter func52,ntmps52;exact lI
namespace Cp
theorem si(h:p:=by
 go_enter func91,ntmps91;exact r2
 ):p:=h
end Cp
open Cp in
theorem vH(A A2:Lp)(n c n2 c2:Nat)(S T:List Int)(w:World)(hs:cx (EF cT) 1 w w.heap.size A n S)(ht:cx (EF cT) 1 w w.heap.size A2 n2 T)(hn:n<=140737488355328) :
  Calls prog 91 #[.slice A n c,.slice A2 n2 c2] w λr ab=>r=.returned (.bool (decide (S=T)))/\Below w.heap.size w ab:=by
 have hl:=hs.1;have cg:=ht.1;by_cases be:n=n2
 case neg=>
  exact sf
 subst be;obtain⟨b9,J⟩:=aH hl cg;clear hl cg;have b6:((n:Int) != (n:Int))=false:=by simp
 go_enter func91,ntmps91;go_wp2;go_loopw [13] (λi wr=>∃k:Nat,k<=n/\i=.int .i64 k/\(∀j,j<k->S[j]?=T[j]?)/\Below w.heap.size w wr) (λi _=>n - (intOf i).toNat)
 case atStart=>exact⟨0,KZ _,rfl,λj bi=>absurd bi ad,Below.refl _ _⟩
 case round=>
  obtain⟨k,ap,rfl,bQ,O⟩:=hrel;have aA:=ae bQ;clear bQ;by_cases ak:k<n
  .obtain⟨b,o,x,rfl,U,hx,c0⟩:=(hs.c8 O O.size).int ak;obtain⟨K,M,d,rfl,l,g,d0⟩:=(ht.c8 O O.size).int ak;exact F4
  .obtain rfl:k=n:=ad;exact w8
namespace Cq
theorem si(h:p:=by
 go_enter func92,ntmps92;exact r2
 ):p:=h
end Cq
open Cq in
theorem E2(A A2:Lp)(n c n2 c2:Nat)(S T:List cy)(w:World)(hs:cx (EF bH) 2 w w.heap.size A n S)(ht:cx (EF bH) 2 w w.heap.size A2 n2 T)(hn:n<=140737488355328) :
  Calls prog 92 #[.slice A n c,.slice A2 n2 c2] w λr ab=>r=.returned (.bool (decide (S=T)))/\Below w.heap.size w ab:=by
 have hl:=hs.1;have cg:=ht.1;by_cases be:n=n2
 case neg=>
  exact sf
 subst be;obtain⟨b9,J⟩:=aH hl cg;clear hl cg;have b6:((n:Int) != (n:Int))=false:=by simp
 go_enter func92,ntmps92;go_wp2;go_loopw [13] (λi wr=>∃k:Nat,k<=n/\i=.int .i64 k/\(∀j,j<k->S[j]?=T[j]?)/\Below w.heap.size w wr) (λi _=>n - (intOf i).toNat)
 case atStart=>exact⟨0,KZ _,rfl,λj bi=>absurd bi ad,Below.refl _ _⟩
 case round=>
  obtain⟨k,ap,rfl,bQ,O⟩:=hrel;have aA:=ae bQ;clear bQ;by_cases ak:k<n
  .obtain⟨b,o,x,rfl,U,hx,c0,c1⟩:=(hs.c8 O O.size).hold ak;obtain⟨K,M,d,rfl,l,g,d0,d1⟩:=(ht.c8 O O.size).hold ak;have bz:(0:Int)<=(k:Int):=ad;have cb:(k:Int)<(n:Int):=ad;have e:=xD x.owner x.depth d.owner d.depth;by_cases hd:x=d
   .have aQ:=ae (show S[k]?=T[k]? by rw[hx,g,hd]);have u:decide (x.owner≠d.owner\/x.depth≠d.depth)=false:=by subst hd;simp
    exact F5
   .have aW:=ae (show decide (S=T)=false from decide_eq_false (λh=>by
     subst h;rw[hx] at g;injection g with g;exact hd g))
    have u:decide (x.owner≠d.owner\/x.depth≠d.depth)=true:=decide_eq_true (by cases x;cases d;simp at hd ⊢;omega);exact Gk
  .obtain rfl:k=n:=ad;exact w8
namespace Cr
theorem pj(h:p:=by
 have ag:=aD aw bs bD;obtain⟨a0,ai,af⟩:=bs.two;obtain⟨a8,am,aF⟩:=bD.two;clear ba aw bs bD;by_cases e1:be=dS
 case neg=>
  exact y3
 have q1:(be == dS)=true:=by simpa using e1
 have n:=ae e1;clear e1;by_cases e2:p3=p4
 case neg=>
  have cI:(p3 == p4)=false:=by simpa using e2
  have b4:=ae e2;clear e2;go_wp2_with(fail);go_ret;exact⟨false,rfl,⟨λh=>(by cases h),λh=>absurd (cw.1 h).2.1 b4.o⟩,ag.1⟩
 have cI:(p3 == p4)=true:=by simpa using e2
 have v:=ae e2;clear e2;go_wp2_with(fail);refine(vH IA dg i ic j c9 cP m W ((bo.1.on (Fr.ext ag.1)).ints) ((bo.2.2.1.on (Fr.ext ag.1)).ints) ad).mono ?_;rintro e aS ⟨rfl,bS⟩;have aN:Ext W aS:=Fr.of bS;have H1:=ae (ag.1.trans aN);clear a0 ai af a8 am aF bS;obtain⟨a0,ai,af⟩:=(ag.2.1.ai aN).two;obtain⟨a8,am,aF⟩:=(ag.2.2.ai aN).two;clear aN;by_cases e3:cP=m
 case neg=>
  have dd:decide (cP=m)=false:=decide_eq_false e3;have b4:=ae e3;clear e3;go_wp2_with(fail);go_ret;exact⟨false,rfl,⟨λh=>(by cases h),λh=>absurd (cw.1 h).2.2.1 b4.o⟩,H1.o⟩
 have dd:decide (cP=m)=true:=decide_eq_true e3;have r:=ae e3;clear e3;go_wp2_with(fail);refine(vH S KA l lc k kc u dj aS ((bo.2.1.on (Fr.ext H1.o)).ints) ((bo.2.2.2.on (Fr.ext H1.o)).ints) ad).mono ?_;rintro e aT ⟨rfl,bg⟩;have bJ:=ae (H1.trans (Fr.of bg));clear a0 ai af a8 am aF bg;go_wp2_with(fail);go_ret;refine⟨decide (u=dj),rfl,⟨λh=>cw.2 ⟨n.o,v.o,r.o,of_decide_eq_true h⟩,λh=>decide_eq_true (cw.1 h).2.2.2⟩,bJ.o⟩
 ):p:=h
end Cr
open Cr in
theorem v3(f g:al)(IA S dg KA:Lp)(i ic l lc j c9 k kc:Nat)(w:World)(ac:Sl w (av w) IA i (f.ints.map D.i))(au:Sl w (av w) S l (f.au.map D.i))(aU:Sl w (av w) dg j (g.ints.map D.i))(bE:Sl w (av w) KA k (g.au.map D.i))(an:i<=100000)(hl:l<=100000) :
  Calls prog 96 #[.agg #[.int .i64 f.proc,.int .i64 f.pc,.slice IA i ic,.slice S l lc],.agg #[.int .i64 g.proc,.int .i64 g.pc,.slice dg j c9,.slice KA k kc]] w (im w (f=g)):=by
 have bo:=bL ac au aU bE;have cw:Lr (f=g↔f.proc=g.proc/\f.pc=g.pc/\f.ints=g.ints/\f.au=g.au):=ae tJ;clear ac au aU bE;generalize aR:f.ints=cP at *;generalize cd:f.au=u at *;generalize J:g.ints=m at *;generalize ck:g.au=dj at *;generalize o:f.proc=be at *;generalize y:g.proc=dS at *;generalize q:f.pc=p3 at *;generalize s:g.pc=p4 at *;clear aR cd J ck o y q s;go_enter func96,ntmps96;exact pg
namespace Cs
theorem Ak(h:p:=by
 refine(v3 f g IA S dg KA x ic y lc z c9 v kc Y (cQ.1.on (Fr.ext bB.o)) (cQ.2.1.on (Fr.ext bB.o)) (cQ.2.2.1.on (Fr.ext bB.o)) (cQ.2.2.2.1.on (Fr.ext bB.o)) (aC cQ.2.2.2.2) (aC cQ.2.2.2.2)).mono ?_;exact Ga
 ):p:=h
theorem AL(h:p:=by
 have cQ:=cK aR cd J ck (show x<=100000/\y<=100000 by omega);have bU:=ah G u;clear a1 cm ar aR cd J ck G u cw cI aN a2 aW aO;clear aw T;go_upto_region 6 with(fail);generalize hX:World.alloc _ _=X;have bp:=aX hX;have bz:=aK hX;have H:=bz.lt;have aQ:=ah bp bz;replace d0:=(bp.cell Z λh=>h).trans d0
 replace d1:=(bp.cell Z λh=>h).trans d1
 replace d2:=(bp.cell Z λh=>h).trans d2
 replace d3:=(bp.cell Z λh=>h).trans d3
 exact Aj
 ):p:=h
theorem vk(h:p:=by
 go_enter func95,ntmps95;by_cases I:n=m
 case neg=>
  exact Gq
 subst I;have q1:((n:Int) != (n:Int))=false:=by simp
 go_wp2_with(fail);go_loopw [17] (λcu wr=>∃i:Nat,cu=.int .i64 i/\i<=n/\Ext w wr/\∀j,j<i->l[j]?=k[j]?) (λcu _=>n - (intOf cu).toNat)
 case atStart=>exact⟨0,rfl,ad,Ll,λj bi=>ad⟩
 case round=>
  obtain⟨i,rfl,an,aw,T⟩:=hrel;have bq:=ah aw T;by_cases ak:i<n
  .obtain⟨ch,c5,f,IA,x,ic,S,y,lc,rfl,cw,G,c0,c1,c2,c3,aN,a2,aR,cd⟩:=(bo.1.on (Fr.ext aw)).pM ak;obtain⟨bZ,go,g,dg,z,c9,KA,v,kc,rfl,cI,u,d0,d1,d2,d3,aW,aO,J,ck⟩:=(bo.2.on (Fr.ext aw)).pM ak;exact AK
  .obtain rfl:i=n:=ad;exact Gp
 ):p:=h
end Cs
open Cs in
theorem Dq(A B:Lp)(n c m aJ:Nat)(l k:List al)(w:World)(hl:Sl w (av w) A n (l.map er))(ap:Sl w (av w) B m (k.map er))(hn:n<=1000000)(a1:∀f∈l,f.ints.length<=100000/\f.au.length<=100000) :
  Calls prog 95 #[.slice A n c,.slice B m aJ,.func (.func 96) #[] #[]] w (im w (l=k)):=by
 exact vj
namespace Ct
theorem pj(h:p:=by
 have ag:=ae aw;obtain⟨a0,ai,af⟩:=bs.two;obtain⟨a8,am,aF⟩:=bD.two;clear ba aw bs bD;go_wp2_with(fail);refine(Dq A B n c m aJ l k W (bo.1.on (Fr.ext ag.o)) (bo.2.1.on (Fr.ext ag.o)) hn bo.2.2).mono ?_;rintro e aT ⟨bb,rfl,U,a3⟩;clear a0 ai af a8 am aF;go_wp2_with(fail);go_ret;exact⟨bb,rfl,U,ag.trans a3⟩
 ):p:=h
end Ct
open Ct in
theorem tS(A B:Lp)(n c m aJ:Nat)(l k:List al)(w:World)(hl:Sl w (av w) A n (l.map er))(ap:Sl w (av w) B m (k.map er))(hn:n<=1000000)(a1:∀f∈l,f.ints.length<=100000/\f.au.length<=100000) :
  Calls prog 94 #[.agg #[.slice A n c],.agg #[.slice B m aJ]] w (im w (l=k)):=by
 have bo:=aD hl ap a1;clear hl ap a1;go_enter func94,ntmps94;exact pg
namespace Cu
theorem Ak(h:p:=by
 refine(tS FA GA x fc z gc f g Y (cQ.1.on (Fr.ext bB.o)) (cQ.2.1.on (Fr.ext bB.o)) cQ.2.2.1 cQ.2.2.2).mono ?_;exact Ga
 ):p:=h
theorem vk(h:p:=by
 go_enter func93,ntmps93;by_cases I:n=m
 case neg=>
  exact Gq
 subst I;have q1:((n:Int) != (n:Int))=false:=by simp
 go_wp2_with(fail);go_loopw [17] (λcu wr=>∃i:Nat,cu=.int .i64 i/\i<=n/\Ext w wr/\∀j,j<i->l[j]?=k[j]?) (λcu _=>n - (intOf cu).toNat)
 case atStart=>exact⟨0,rfl,ad,Ll,λj bi=>ad⟩
 case round=>
  obtain⟨i,rfl,an,aw,T⟩:=hrel;have bq:=ah aw T;by_cases ak:i<n
  .obtain⟨ch,c5,f,FA,x,fc,rfl,cw,G,c0,aB,bW⟩:=(bo.1.on (Fr.ext aw)).lz ak;obtain⟨bZ,go,g,GA,z,gc,rfl,cI,u,d0,ay,co⟩:=(bo.2.on (Fr.ext aw)).lz ak;have bf:ch<wr.heap.size:=cw;have Z:bZ<wr.heap.size:=cI;have a1:=b4.2.2 f (KG G);have cm:x=f.length:=by have:=bW.1;simpa using this.symm
   have cQ:=bL bW co (show x<=1000000 by omega) a1.2;have bU:=ah G u;clear a1 cm bW co G u cw cI aB ay;clear aw T;go_upto_region 6 with(fail);generalize hX:World.alloc _ _=X;have bp:=aX hX;have bz:=aK hX;have H:=bz.lt;have aQ:=ah bp bz;replace d0:=(bp.cell Z λh=>h).trans d0
   exact Aj
  .obtain rfl:i=n:=ad;exact Gp
 ):p:=h
end Cu
open Cu in
theorem yb(A B:Lp)(n c m aJ:Nat)(l k:List (List al))(w:World)(hl:Sl w (av w) A n (l.map jP))(ap:Sl w (av w) B m (k.map jP))(hn:n<=1000000)(a1:∀t∈l,t.length<=1000000/\∀f∈t,f.ints.length<=100000/\f.au.length<=100000) :
  Calls prog 93 #[.slice A n c,.slice B m aJ,.func (.func 94) #[] #[]] w (im w (l=k)):=by
 exact vj
namespace Cv
theorem pj(h:p:=by
 have ag:=aD aw bs bD;obtain⟨a0,ai,af⟩:=bs.two;obtain⟨a8,am,aF⟩:=bD.two;clear ba aw bs bD g j;by_cases e1:be=dS
 case neg=>
  exact y3
 have q1:(be == dS)=true:=by simpa using e1
 have n:=ae e1;clear e1;go_wp2_with(fail);refine(vH GA bL gn gc l k s.globals Q.globals W ((bo.1.on ag.1).at_.g.ints) ((bo.2.1.on ag.1).at_.g.ints) ad).mono ?_;rintro e aS ⟨rfl,bS⟩;have aN:Ext W aS:=Fr.of bS;have H1:=ae (ag.1.trans aN);clear a0 ai af a8 am aF bS;obtain⟨a0,ai,af⟩:=(ag.2.1.ai aN).two;obtain⟨a8,am,aF⟩:=(ag.2.2.ai aN).two;have i:=ae aN;clear aN;by_cases e3:s.globals=Q.globals
 case neg=>
  have dd:decide (s.globals=Q.globals)=false:=decide_eq_false e3;have b4:=ae e3;clear e3;go_wp2_with(fail);go_ret;exact⟨false,rfl,⟨λh=>(by cases h),λh=>absurd (cw.1 h).2.1 b4.o⟩,H1.o⟩
 have dd:decide (s.globals=Q.globals)=true:=decide_eq_true e3;have r:=ae e3;clear e3;go_wp2_with(fail);refine(E2 TA ab tn tc aJ aI s.table Q.table aS ((bo.1.on H1.o).at_.t.holds) ((bo.2.1.on H1.o).at_.t.holds) ad).mono ?_;rintro e aT ⟨rfl,bg⟩;have a3:Ext aS aT:=Fr.of bg;have bJ:=ae (H1.trans a3);clear a0 ai af a8 am aF bg;obtain⟨a0,ai,af⟩:=(ag.2.1.ai (i.trans a3)).two;obtain⟨a8,am,aF⟩:=(ag.2.2.ai (i.trans a3)).two;clear a3;by_cases b0:s.table=Q.table
 case neg=>
  have df:decide (s.table=Q.table)=false:=decide_eq_false b0;have b4:=ae b0;clear b0;go_wp2_with(fail);go_ret;exact⟨false,rfl,⟨λh=>(by cases h),λh=>absurd (cw.1 h).2.2.1 b4.o⟩,bJ.o⟩
 have df:decide (s.table=Q.table)=true:=decide_eq_true b0;have m:=ae b0;clear b0;go_wp2_with(fail);refine(yb HA b1 hn hc hm hd s.threads Q.threads aT ((bo.1.on bJ.o).at_.h) ((bo.2.1.on bJ.o).at_.h) ad bo.2.2).mono ?_;rintro e bX ⟨bb,rfl,U,a7⟩;have bW:=ah U (bJ.trans a7);clear a0 ai af a8 am aF U a7;go_wp2_with(fail);go_ret;exact⟨bb,rfl,⟨λh=>cw.2 ⟨n.o,r.o,m.o,bW.1.1 h⟩,λh=>bW.1.2 (cw.1 h).2.2.2⟩,bW.2⟩
 ):p:=h
end Cv
open Cv in
theorem Iu(s Q:aj)(q ar:SV)(w:World)(h:q.Ok w s)(F:ar.Ok w Q)(a1:Small s) :
  Calls prog 51 #[.agg (q.val s),.agg (ar.val Q)] w (im w (s=Q)):=by
 obtain⟨GA,gn,gc,TA,tn,tc,HA,hn,hc⟩:=q;obtain⟨bL,l,k,ab,aJ,aI,b1,hm,hd⟩:=ar;have ry:gn<=100000:=by have ac:=h.at_.g.1;have au:=a1.g;rw[KH] at ac;have aU:s.globals.length=gn:=ac;omega
 have ti:tn<=100000:=by have ac:=h.at_.t.1;have au:=a1.t;rw[KH] at ac;have aU:s.table.length=tn:=ac;omega
 have qK:hn<=100000:=by have ac:=h.at_.h.1;have au:=a1.h;rw[KH] at ac;have aU:s.threads.length=hn:=ac;omega
 have ax:∀t∈s.threads,t.length<=1000000/\∀f∈t,f.ints.length<=100000/\f.au.length<=100000:=λt ht=>⟨by have:=(a1.f t ht).1;omega,λf J=>by have:=(a1.f t ht).2 f J;omega⟩
 have bo:=aD h F ax;have cw:Lr (s=Q↔s.fault=Q.fault/\s.globals=Q.globals/\s.table=Q.table/\s.threads=Q.threads):=ae (by cases s;cases Q;simp;exact⟨λ⟨a,b,c,d⟩=>⟨d,a,b,c⟩,λ⟨d,a,b,c⟩=>⟨a,b,c,d⟩⟩);clear h F a1 ax;dsimp only[SV.val];generalize g:s.fault=be at *;generalize j:Q.fault=dS at *;go_enter func51,ntmps51;exact pg
end Go.Proofs.YtglbpimocmhojaaGreat

/- Part 47 of the proof. No condition of its own. -/
import Derived.Test.YtkhnkojkplbioaaGreatQ46
namespace Go.Proofs.YtkhnkojkplbioaaGreat
open Go.RowKit Go.Proofs.Tryz
set_option maxRecDepth 1000000
set_option maxHeartbeats 25600000
set_option linter.unusedVariables false
variable{p:Prop}
namespace DA
theorem vO(h:p:=by
 rw[bX.o];exact fi (B:=V.heap.size) bu.1 bh.2.drew (λb O=>⟨λhl=>by have:=G.o b hl;omega,ad⟩) (λb O=>by have:=G.o b O;omega) ad bh.1.drew (by rw[yl bZ.2.1,List.set_set])
 ):p:=h
theorem dE(h:p:=by
 generalize hX:World.setCell _ _ _=Y;obtain⟨r,bK⟩:=aQ.1.drop hX;have ar:=cO hX;have y:=(aQ.1.lo O (by simp)).1;have i:Ext V Y:=Fr.low (M:=λb=>b=O) (Fr.trans (Fr.mono aQ.2.1 λ_ h=>h.elim) ar) λb O=>ad;have bu:=aE r bK (bN.trans i);have bc:=i.size;clear hX r bK ar i a0 aj af a7 am aF d0 aL aM e0 a6 aP c0 c1 c2 c3 H flb J;exact vN
 ):p:=h
theorem Bt(h:p:=by
 iterate 3 refine pf ?_
 exact eT
 ):p:=h
theorem sN(h:p:=by
 clear ck ch a2;rcases cD.o with h|h
 all_goals
  first
   | have q1:(x.op == 1)=true:=by simpa using h
   | have q1:(x.op == 1)=false:=by simp;omega
  first
   | have cN:(x.op == 2)=true:=by simpa using h
   | have cN:(x.op == 2)=false:=by simp;omega
  first
   | have df:(x.op == 3)=true:=by simpa using h
   | have df:(x.op == 3)=false:=by simp;omega
  first
   | have dd:(x.op == 4)=true:=by simpa using h
   | have dd:(x.op == 4)=false:=by simp;omega
  first
   | have q5:(x.op == 5)=true:=by simpa using h
   | have q5:(x.op == 5)=false:=by simp;omega
  first
   | have dk:(x.op == 6)=true:=by simpa using h
   | have dk:(x.op == 6)=false:=by simp;omega
  first
   | have q7:(x.op == 7)=true:=by simpa using h
   | have q7:(x.op == 7)=false:=by simp;omega
  first
   | have dF:(x.op == 8)=true:=by simpa using h
   | have dF:(x.op == 8)=false:=by simp;omega
 ·
  have bX:=ae (yq (u:=u) (s:=s) (t:=t) (f:=f) h);clear h;go_upto_region 45 with(fail);generalize hX:World.setCell _ _ _=Y;have n:=aQ.1.pc x.target;rw[hX] at n;have ar:=cO hX;have i:Ext V Y:=Fr.low (M:=λb=>b=lb) (Fr.trans (Fr.mono aQ.2.1 λ_ h=>h.elim) ar) λb O=>ad;have bu:=aE n.is n.o (bN.trans i);have bc:=i.size;clear hX n ar i a0 aj af a7 am aF d0 aL aM e0 a6 aP c0 c1 c2 c3 H flb J;exact GS
 ·
  have bX:=ae (yr (u:=u) (s:=s) (t:=t) (f:=f) h);clear h;go_upto_region 9 with(fail);exact Bs
 ):p:=h
theorem sP(h:p:=by
 exact sM
 ):p:=h
theorem sR(h:p:=by
 exact sO
 ):p:=h
end DA
open DA in
theorem qV(u:ay)(s:ai)(t:Int)(f:ak)(cn:cM)(x:az)(N:Nat)(P:Nat->Prop)(w:World)(p:UV)(q:SV)(h:jv u s t f cn x N)(hN:N<=100000)(cA:x.op=7\/x.op=8)(hu:p.Ok w u)(aD:q.Is w P s)(a1:∀b,P b->b<w.heap.size) :
  Calls prog 19 #[.agg (p.val u),.agg (q.val s),.int .i64 t] w (cV P w (bI u s t f x).1 (bI u s t f x).2):=by
 exact sQ
theorem Ht(u:ay)(s:ai)(t:Int)(N:Nat)(P:Nat->Prop)(w:World)(p:UV)(q:SV)(hU:tV u)(hS:aX u N s)(hN:N<=100000)(hu:p.Ok w u)(hs:q.Is w P s)(a1:∀b,P b->b<w.heap.size) :
  Calls prog 19 #[.agg (p.val u),.agg (q.val s),.int .i64 t] w (cV P w (aV u s t).1 (aV u s t).2):=by
 cases htop:de s t with
 | none=>rw[q0 htop];exact w8 u s t P w p q hu hs a1 htop
 | some f=>
  obtain⟨cn,x,i,G⟩:=jv.of hU hS hN htop;rw[q2 htop G];have r:x.op=1\/x.op=2\/x.op=3\/x.op=4\/x.op=5\/x.op=6\/x.op=7\/x.op=8:=by
   exact zQ
  rcases r with h|h|h|h|h|h|h|h
  .exact qT u s t f cn x N P w p q i hN (.inl h) hu hs a1
  .exact qS u s t f cn x N P w p q i hN (.inl h) hu hs a1
  .exact qS u s t f cn x N P w p q i hN (.inr h) hu hs a1
  .exact qU u s t f cn x N P w p q i hN (.inl h) hu hs a1
  .exact qU u s t f cn x N P w p q i hN (.inr h) hu hs a1
  .exact qT u s t f cn x N P w p q i hN (.inr h) hu hs a1
  .exact qV u s t f cn x N P w p q i hN (.inl h) hu hs a1
  .exact qV u s t f cn x N P w p q i hN (.inr h) hu hs a1
def gE(u:ay):ai->List Int->ai
 | s,[]=>s
 | s,t::l=>gE u (aV u s t).1 l
def iU(u:ay):ai->List Int->List Int
 | _,[]=>[]
 | s,t::l=>(if (aV u s t).2 then [t] else [])++iU u (aV u s t).1 l
def Ka(s:ai):List Int:=(List.range s.threads.length).map Int.ofNat
section
variable {u:ay} {D:Nat}
theorem qW:∀(l m:List Int) (s:ai),gE u s (l++m)=gE u (gE u s l) m
 | [],_,_=>rfl
 | t::l,m,s=>qW l m _
theorem q4:∀(l m:List Int) (s:ai),iU u s (l++m)=iU u s l++iU u (gE u s l) m
 | [],_,_=>rfl
 | t::l,m,s=>by
  rw[Lz,iU,iU,gE,q4 l m,Ly]
theorem Iw(l:List Int):∀s:ai,(iU u s l).length<=l.length:=by
 induction l with
 | nil=>intro s;exact Lk _
 | cons t l ao=>
  intro s;have:=ao (aV u s t).1;rw[iU,Lm,Lx];split<;>simp<;>omega
theorem w9(hU:c5 u):∀(l:List Int) (D:Nat) (s:ai),aX u D s->aX u (D+l.length) (gE u s l)
 | [],_,_,h=>h
 | t::l,D,s,h=>by
  have:=w9 hU l (D+1) _ (iP (t:=t) hU h);rw[Lx,show D+(l.length+1)=D+1+l.length by omega];exact this
end
def zC(w:World)(s:ai)(m:Nat)(e:Ending)(ab:World):Prop:=∃q:SV,e=.returned (.tuple #[.agg (q.val s),.int .i64 (m:Int)])/\q.Is ab (λk=>w.heap.size<=k/\k<ab.heap.size) s/\Ext w ab
theorem II(u:ay)(l:List Int)(t:Int)(s:ai):gE u s (l++[t])=(aV u (gE u s l) t).1:=by rw[qW];rfl
theorem IJ(u:ay)(l:List Int)(t:Int)(s:ai):(iU u s (l++[t])).length=(iU u s l).length+(if (aV u (gE u s l) t).2 then 1 else 0):=by
 rw[q4,Lm];congr 1
 show ((if (aV u (gE u s l) t).2 then [t] else [])++[]).length=_
 cases (aV u (gE u s l) t).2<;>rfl
namespace DB
theorem eU(h:p:=by
 refine tf ?_;refine b9 ?_;generalize hX:World.setCell _ _ _=X;obtain⟨br,bs,cz⟩:=bw (w:=wr) [.slice aJ aL aK,.slice bf I L,.slice bV ci bn,.int .i64 (aV u S t).1.fault] (by rfl) bC co gt hX;have ac:(⟨aJ,aL,aK,bf,I,L,bV,ci,bn⟩:SV).Is X (λb=>W.heap.size<=b/\b<X.heap.size/\b≠aS.heap.size) (aV u S t).1:=(av.al λb O=>cz.block b O.2.1 O.2.2.2).mono λb O=>⟨O.1,by have:=cz.size;have:=O.2.1;omega,O.2.2.1⟩
 have bG:=a3.2.1.aj bs;have y:=aE bs ac bG;obtain⟨bx,a5,aT⟩:=br.two;obtain⟨a7,am,aF⟩:=bG.two;have H:=bs.size;clear hX bC co av cz bs ac bG br
 cases bj:(aV u S t).2 with
 | true=>
  have bB:=ae bj;clear bj;go_wp2_with(fail);generalize bF:World.setCell _ _ _=Z;obtain⟨bk,bg⟩:=km 0 [.slice aJ aL aK,.slice bf I L,.slice bV ci bn,.int .i64 (aV u S t).1.fault] y.2.2 bF;have bh:=ag bk bg;clear bF bk bg bx a5 aT a7 am aF;go_roundw
  case rel=>
   have an:Fr (λb=>b=aS.heap.size) V Z:=Fr.trans (Fr.trans a3.1 (Fr.mono y.1 λ_ h=>h.elim)) bh.2;have hs:=a3.2.2.2.2.2.1 t aQ.o;have b8:(iU u S [t]).length=1:=by
    show ((if (aV u S t).2 then [t] else [])++[]).length=1
    rw[bB.o];rfl
   refine⟨k+1,⟨aJ,aL,aK,bf,I,L,bV,ci,bn⟩,?_,by go_num,ad,an,?_,?_⟩
   .rw[hs.1,Lm,b8];go_num
   .rw[hs.2];exact bh.1
   .rw[hs.2];have bI:=bh.2.size;exact(y.2.1.al λb O=>bh.2.block b O.2.1 O.2.2).mono λb O=>⟨O.1,by have:=O.2.1;omega,O.2.2⟩
  case measure=>exact aH
 | false=>
  have bB:=ae bj;clear bj;go_wp2_with(fail);clear bx a5 aT a7 am aF;go_roundw
  case rel=>
   have an:Fr (λb=>b=aS.heap.size) V X:=Fr.trans a3.1 (Fr.mono y.1 λ_ h=>h.elim);have hs:=a3.2.2.2.2.2.1 t aQ.o;have b8:(iU u S [t]).length=0:=by
    show ((if (aV u S t).2 then [t] else [])++[]).length=0
    rw[bB.o];rfl
   refine⟨k+1,⟨ai,sm,ax,ab,aM,aG,bO,hm,hd⟩,?_,by go_num,ad,an,?_,?_⟩
   .rw[hs.1,Lm,b8,Lu]
   .rw[hs.2,ka bB.o];exact y.2.2
   .rw[hs.2,ka bB.o];exact(a3.2.2.1.Ho (λb O=>O.2.1) y.1).mono λb O=>⟨O.1,by have:=O.2.1;omega,O.2.2⟩
  case measure=>exact aH
 ):p:=h
theorem lX(h:p:=by
 have ah:=cJ aw cB (ce.1.on aw) (ce.2.c8 (Fr.ext aw) aw.size) aR;have c5:=aw.size;have dw:=cB.lt;obtain⟨a0,aj,af⟩:=aR.two;clear be aw aR cB ce;go_wp2_with(fail);refine(J9 u W ⟨GA,gn,gc,MA,mn,mc,PA,pn,pc⟩ cD.o ah.2.2.1).mono ?_;rintro e aS ⟨⟨bU,bW,bE,TA,tn,tc,HA,ct,hc⟩,rfl,ak,aN⟩;have H1:=ag ak aN;have cr:=aN.size;clear ak aN a0 aj af;dsimp only[SV.val];go_upto_region 2 with(fail);generalize hV:World.alloc _ _=V;have bm:=aW hV;have b7:=aI hV;have bu:=b7.lt;have aC:(⟨bU,bW,bE,TA,tn,tc,HA,ct,hc⟩:SV).Is V (λb=>W.heap.size<=b/\b<V.heap.size/\b≠aS.heap.size) (dG u):=(H1.1.al λb O=>bm.block b (O.resolve_left λh=>h).2 λh=>h).mono λb O=>by have:=O.resolve_left λh=>h;omega
 have m:=aE aC b7 (H1.2.trans bm);clear hV bm b7 aC;go_wp2_with(fail);go_loopw [7,8] (λhk cy wr=>∃(k:Nat) (q:SV),hk=.int .i64 ((iU u (dG u) (l.take k)).length:Int)/\cy=.int .i64 k/\k<=n/\Fr (λb=>b=aS.heap.size) V wr/\aq wr aS.heap.size 40 (q.val (gE u (dG u) (l.take k)))/\q.Is wr (λb=>W.heap.size<=b/\b<wr.heap.size/\b≠aS.heap.size) (gE u (dG u) (l.take k))) (λ_ cy _=>n - (intOf cy).toNat)
 case atStart=>exact⟨0,_,rfl,rfl,ad,LW,m.2.1,m.1⟩
 case round=>
  obtain⟨k,⟨ai,sm,ax,ab,aM,aG,bO,hm,hd⟩,rfl,rfl,ap,hF,s,N⟩:=hrel;have J:Ext W wr:=Fr.low (M:=λb=>b=aS.heap.size) (Fr.trans (Fr.mono m.2.2 λ_ h=>h.elim) hF) λb O=>ad;have bM:=w9 cD.ok (l.take k) 0 (dG u) (pg cD.ok);have aY:=Iw (u:=u) (l.take k) (dG u);rw[List.length_take] at aY;have a6:(iU u (dG u) (l.take k)).length<=100000:=ad;have c9:∀t,l[k]?=some t->iU u (dG u) (l.take (k+1))=iU u (dG u) (l.take k)++iU u (gE u (dG u) (l.take k)) [t]/\gE u (dG u) (l.take (k+1))=(aV u (gE u (dG u) (l.take k)) t).1:=λt ht=>by
   rw[a1 ht,q4,qW];exact⟨rfl,rfl⟩
  have j:k=n->gE u (dG u) (l.take k)=gE u (dG u) l/\iU u (dG u) (l.take k)=iU u (dG u) l:=λh=>by
   rw[Ls (aD ah.2.2.2.1.1)];exact⟨rfl,rfl⟩
  generalize hS:gE u (dG u) (l.take k)=S at *;generalize ci:(iU u (dG u) (l.take k))=M at *;have a3:=h2 hF s N J bM c9 j;have gr:=hF.size;have z:=ae (show W.heap.size<=aS.heap.size/\aS.heap.size<V.heap.size/\V.heap.size<=wr.heap.size from ⟨cr,bu,hF.size⟩);have bo:=s.lt;clear bM c9 j hS ci aY;by_cases al:k<n
  .have T:=ah.2.2.2.1.c8 (Fr.ext J) J.size;obtain⟨b,o,t,aX,O,hx,hc⟩:=T.int al;subst aX;obtain⟨a0,aj,af⟩:=(ah.2.2.2.2.aj J).two;obtain⟨a7,am,aF⟩:=s.two;have aQ:=ae hx;clear hF s N J T hx;go_upto_region 5 with(fail);refine rC (λ_=>False) [11] (.held 0 (.held 1 (.free 2 (.free 3 (.free 4 (.held 5 (.pick [6,10] (λi=>bif i == 6 then .free 7 (.free 8 (.free 9 (.pick [10] (λ_=>.pick [11] (λ_=>.free 12 (.stop)))))) else .pick [6] (λ_=>.free 7 (.free 8 (.free 9 (.pick [11] (λ_=>.free 12 (.stop)))))))))))))) ?_
   iterate 2 refine th ?_
   iterate 3 refine tf ?_
   refine th ?_;refine mu (P:=?oU) (ops:=?Ie) (Q:=?Ih) (R:=?Ij) (tails:=?Iu) (rest:=.pick [11] (λ_=>.free 12 (.stop))) (aa:=?HP)
    (C:=λ(az:Nat) (Y:Value) bD=>Ext wr bD/\aq bD az 40 #[.slice none 0 0,.slice none 0 0,.slice none 0 0,.int .i64 0]/\wr.heap.size<=az/\∃ar:SV,Y=.agg (ar.val (aV u S t).1)/\ar.Is bD (λb=>W.heap.size<=b/\b<bD.heap.size/\b≠aS.heap.size/\b≠az) (aV u S t).1) (λkey=>?wP) ?wI
   case wP=>
    refine a2 ?_ ?_
    ·
     refine aB rfl (λK hK=>?_) rfl;go_simp;refine(Ht u S t _ (λb=>W.heap.size<=b/\b<wr.heap.size/\b≠aS.heap.size) wr.drew ⟨GA,gn,gc,MA,mn,mc,PA,pn,pc⟩ ⟨ai,sm,ax,ab,aM,aG,bO,hm,hd⟩ cD.o a3.2.2.2.2.1 (by rw[List.length_take];omega) (ah.2.2.1.on a3.2.2.2.1.drew) (a3.2.2.1.al λb O=>rfl) (λb O=>O.2.1)).mono ?_;rintro e aU ⟨ar,rfl,r,aZ⟩;refine dq hK (aZ) ?_;clear hK K
     iterate 3 refine tf ?_
     refine ao ?_;refine dT ?_;generalize bF:World.alloc _ _=Z;have e2:=aW bF;have bN:wr.heap.size<=aU.heap.size:=aZ.size;have cQ:=e2.size;have F:Ext wr Z/\aq Z aU.heap.size 40 #[.slice none 0 0,.slice none 0 0,.slice none 0 0,.int .i64 0]/\wr.heap.size<=aU.heap.size/\∃cN:SV,(Value.agg (ar.val (aV u S t).1))=.agg (cN.val (aV u S t).1)/\cN.Is Z (λb=>W.heap.size<=b/\b<Z.heap.size/\b≠aS.heap.size/\b≠aU.heap.size) (aV u S t).1:=
      ⟨(Fr.aF aZ).trans e2,by rw[<-bF];exact LX,bN,ar,rfl,(r.al λb O=>e2.block b (O.elim (λh=>ad) λh=>h.2) λh=>h).mono λb O=>by
       have hd:wr.drew.heap.size=wr.heap.size:=rfl;have:=z.o;rcases O with O|O<;>omega⟩
     clear bF e2 bN cQ r aZ;revert F;generalize aU.heap.size=az;generalize (Value.agg (ar.val (aV u S t).1))=Y;intro F;exact key az Y _ F
    ·
     refine dT ?_;generalize bc:World.drew (World.alloc _ _)=e6;have e1:=gK bc;have cG:=kx bc;have aP:=cG.lt;refine ao ?_;refine aB rfl (λK hK=>?_) rfl;go_simp;refine(Ht u S t _ (λb=>W.heap.size<=b/\b<wr.heap.size/\b≠aS.heap.size) e6 ⟨GA,gn,gc,MA,mn,mc,PA,pn,pc⟩ ⟨ai,sm,ax,ab,aM,aG,bO,hm,hd⟩ cD.o a3.2.2.2.2.1 (by rw[List.length_take];omega) (ah.2.2.1.on (a3.2.2.2.1.trans e1)) (a3.2.2.1.Ho (λb O=>O.2.1) e1) (λb O=>by have:=O.2.1;omega)).mono ?_;rintro e aU ⟨ar,rfl,r,aZ⟩;refine dq hK (aZ) ?_;clear hK K
     iterate 3 refine tf ?_
     have bN:=aZ.size;have F:Ext wr aU/\aq aU wr.heap.size 40 #[.slice none 0 0,.slice none 0 0,.slice none 0 0,.int .i64 0]/\wr.heap.size<=wr.heap.size/\∃cN:SV,(Value.agg (ar.val (aV u S t).1))=.agg (cN.val (aV u S t).1)/\cN.Is aU (λb=>W.heap.size<=b/\b<aU.heap.size/\b≠aS.heap.size/\b≠wr.heap.size) (aV u S t).1:=
      ⟨e1.trans aZ,cG.aj aZ,Lk _,ar,rfl,r.mono λb O=>by
       have:=z.o;rcases O with O|O<;>omega⟩
     clear bc e1 cG aP bN r aZ;revert F key;generalize (Value.agg (ar.val (aV u S t).1))=Y;intro key F;exact key wr.heap.size Y _ F
   case wI=>
    rintro az Y bD ⟨co,bC,gt,⟨aJ,aL,aK,bf,I,L,bV,ci,bn⟩,rfl,av⟩;dsimp only[SV.val];obtain⟨bx,a5,aT⟩:=bC.two;clear a0 aj af a7 am aF hc;exact fp
  .have bH:k=n:=ad;have a4:=ae bH;obtain⟨a7,am,aF⟩:=s.two;have au:=ah.2.1.aj J;have U:=ag au (ah.1.trans J);obtain⟨bl,aA,aO⟩:=au.two;clear hF s N J bH au;go_wp2_with(fail);generalize hX:World.setCell _ _ _=Z;obtain⟨bk,bd,bg⟩:=bw (w:=w) [.slice ai sm ax,.slice ab aM aG,.slice bO hm hd,.int .i64 S.fault] (by rfl) U.1 U.2 ad hX;have bh:=ag bd bg;clear hX bd bg bl aA aO a7 am aF;obtain⟨bl,aA,aO⟩:=bk.two;refine LU (v:=.tuple #[.agg #[.slice ai sm ax,.slice ab aM aG,.slice bO hm hd,.int .i64 S.fault],.int .i64 (M.length:Int)]) (by simp[results,Tryz.results37,go_sem,bl]) rfl ?_;have j:=a3.2.2.2.2.2.2 a4.o;rw[<-j.1,<-j.2];have cR:=bh.2.size;exact⟨⟨ai,sm,ax,ab,aM,aG,bO,hm,hd⟩,rfl,(a3.2.2.1.al λb O=>bh.2.block b O.2.1 (aD O.1)).mono λb O=>⟨by have:=O.1;omega,by have:=O.2.1;omega⟩,bh.1⟩
 ):p:=h
end DB
open DB in
theorem Kb(u:ay)(l:List Int)(A:L3)(n c:Nat)(w:World)(p:UV)(hU:tV u)(hu:p.Ok w u)(hl:cp (EF cP) 1 w w.heap.size A n l)(hn:n<=100000) :
  Calls prog 37 #[.agg (p.val u),.slice A n c] w (zC w (gE u (dG u) l) (iU u (dG u) l).length):=by
 obtain⟨GA,gn,gc,MA,mn,mc,PA,pn,pc⟩:=p;have ce:=ag hu hl;have cD:=ae hU;clear hU hu hl;dsimp only[UV.val];go_enter func37,ntmps37;exact lW
def qI(x:Int):Int:=if Int.tmod x 16=7 then x else within x 4
def cr(l:List Int)(m:Nat):List Int:=(l.take m).map qI
theorem sc(A:L3)(n c m:Nat)(l:List Int)(w:World)(h:cp (EF cP) 1 w w.heap.size A n l)(hm:m<=1000) :
  Calls prog 17 #[.slice A n c,.int .i64 m] w λr ab=>∃I aK,r=.returned (.slice I (cr l m).length aK)/\(cr l m).length<=aK/\cp (EF cP) 1 ab ab.heap.size I (cr l m).length (cr l m)/\Below w.heap.size w ab:=by
 have hl:=h.1;have b8:=ae hl;clear hl;go_enter func17,ntmps17;go_wp2;go_loopw [5,6] (λv i wr=>∃k:Nat,k<=n/\k<=m/\i=.int .i64 k/\wr.ownsRow w.heap.size 3 1 v k (((l.take k).map qI).flatMap cP)/\Below w.heap.size w wr) (λ_ i _=>n - (intOf i).toNat)
 case atStart=>exact⟨0,LJ _,LJ _,rfl,World.ownsRow_nil _ _ _ _,Below.refl _ _⟩
 case round=>
  obtain⟨k,ap,q,rfl,aB,O⟩:=hrel;by_cases al:k<n/\k<m
  .obtain⟨bH,b0⟩:=al;obtain⟨b,o,x,rfl,U,hx,c0⟩:=(h.dS O).int bH;have ak:=O.size;have bq:=ae (show ((l.take (k+1)).map qI).flatMap cP=((l.take k).map qI).flatMap cP++[.int .i64 (qI x)] by rw[a1 hx,Lr,List.map_singleton,lH]);clear hx;have e:qI x=if Int.tmod x 16=7 then x else within x 4:=rfl
   have j:=ae e;clear e;by_cases g:Int.tmod x 16=7
   .have M:=ae g;have f:(Int.tmod x 16 == 7)=true:=by simpa using g
    clear g;go_wp2_with(at_builtin;refine dn _ dh (by rfl) (.tmp 24) (.tmp 29) (by rfl) w.heap.size _ _ _ _ (by rfl) aB (by rfl) (by rfl) (qC _ _) ad ad ak ?_;intro v1 aS bb b2 cY);go_roundw
    case rel=>exact⟨k+1,ad,ad,by go_num,by rw[bq.o,j.o,if_pos M.o];exact bb,fR O aB b2 (Lk _) ak⟩
    case measure=>exact aH
   .have M:=ae g;have f:(Int.tmod x 16 == 7)=false:=by simpa using g
    clear g;go_wp2_with(fail);refine(my x 4 ad ad _).mono ?_;rintro r ab ⟨rfl,rfl⟩;go_wp2_with(at_builtin;refine dn _ dh (by rfl) (.tmp 31) (.tmp 37) (by rfl) w.heap.size _ _ _ _ (by rfl) aB (by rfl) (by rfl) (qC _ _) ad ad ak ?_;intro v1 aS bb b2 cY);go_roundw
    case rel=>exact⟨k+1,ad,ad,by go_num,by rw[bq.o,j.o,if_neg M.o];exact bb,fR O aB b2 (Lk _) ak⟩
    case measure=>exact aH
  .obtain⟨bZ,c1,rfl,dE,_,_,_⟩:=b5 aB;have hlen:(cr l m).length=k:=by
    have:=b8.o;unfold cr;rw[Lo,List.length_take];omega
   have he:(l.take k).map qI=cr l m:=by
    have:=b8.o;unfold cr;congr 1
    rcases Nat.lt_or_ge k m with ac|ac
    .rw[Ls ad,Ls ad]
    .rw[show k=m by omega]
   obtain⟨F,bo⟩:=aJ hlen he;clear hlen he;have fin:∃I aK,Ending.returned (.slice bZ k c1)=.returned (.slice I (cr l m).length aK)/\(cr l m).length<=aK/\cp (EF cP) 1 wr wr.heap.size I (cr l m).length (cr l m)/\Below w.heap.size w wr:=by
    rw[F.o,<-bo.o];exact⟨bZ,c1,rfl,dE,jM aB (jH _) (by rw[bo.o];exact F.o),O⟩
   have d:=ae fin;clear fin;by_cases bH:k<n
   .have s:¬k<m:=λah=>al ⟨bH,ah⟩;clear al;go_wp2;go_ret;exact d.o
   .clear al;go_wp2;go_ret;exact d.o
theorem mr(q:SV)(s:ai)(x:Int)(w:World)(h:q.Ok w s)(ac:1<=q.hn)(au:q.hn<=1000000) :
  Calls prog 24 #[.agg (q.val s),.int .i64 x] w λe ab=>e=.returned (.int .i64 (within x q.hn))/\Ext w ab:=by
 obtain⟨bU,bW,bE,TA,tn,tc,HA,hn,hc⟩:=q;clear h;simp only at ac au;dsimp only[SV.val];go_enter func24,ntmps24;go_wp2_with(fail);refine(my x hn ad ad _).mono ?_;rintro r ab ⟨rfl,rfl⟩;exact vM
end Go.Proofs.YtkhnkojkplbioaaGreat

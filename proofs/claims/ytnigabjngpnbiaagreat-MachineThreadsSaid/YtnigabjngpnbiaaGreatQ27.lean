/- Part 27 of the proof. No condition of its own. -/
import Derived.Test.YtnigabjngpnbiaaGreatQ26
namespace Go.Proofs.YtnigabjngpnbiaaGreat
open Go.RowKit Go.Proofs.Tryz
set_option maxRecDepth 1000000
set_option maxHeartbeats 25600000
set_option linter.unusedVariables false
variable{b:Bool}{B:Nat}{P:Nat->Prop}{p:Prop}{q:SV}{Z w:World}{s:ah}
theorem eE{Y:World}{aB:ah}{M:Nat->Prop}(h:q.Is Y (λk=>P k\/(B<=k/\k<Y.heap.size)) s)(aA:Fr M Y Z)(hM:∀k,M k->¬P k/\k<B)(S:∀k,P k->k<Y.heap.size)(aK:w.heap.size<=B)(ar:Ext w Z)(hs:s=aB):cH P w aB b (.returned (.tuple #[.agg (q.val aB),.bool b])) Z:=by
 subst hs;exact⟨q,rfl,(h.al λk aj=>aA.block k (aj.elim (S k) λh=>h.2) λhm=>aj.elim (hM k hm).1 λh=>by have:=(hM k hm).2;omega).mono λk aj=>aj.imp id λaj=>⟨ad,by have:=aA.size;omega⟩,ar⟩
theorem SV.Is.FZ{V:World}(h:q.Is w P s)(S:∀b,P b->b<w.heap.size)(ar:Ext w V):q.Is V P s:=h.al λb O=>ar.block b (S b O) λh=>h
theorem vb(h:q.Is w P s)(S:∀b,P b->b<w.heap.size)(ar:Ext w Z):cH P w s b (.returned (.tuple #[.agg (q.val s),.bool b])) Z:=
 ⟨q,rfl,(h.FZ S ar).mono λ_ O=>.inl O,ar⟩
theorem RO.Hs{k:Nat}{fs:List ai}{f:ai}{N:Nat}{O lb lc:Nat}{hx co:List Value}{IA:Kj}{ic:Nat}{bo:Kj}{y:Nat}{F1 F2 bf:List Nat}(h:RO P B w s k fs f N q O lb lc hx co IA ic bo y F1 F2 bf):Sl w (ao w) IA f.ints.length (f.ints.map .i):=
 h.i.sl (ck _) (by simp) λb O=>(h.lo b (by simp[O])).2
namespace B9
theorem z4(h:p:=by
 exact ys
 ):p:=h
theorem gL(h:p:=by
 have bR:=av hu (aC.ok S) aC;obtain⟨G,y⟩:=aI S ht;clear hu aC S ht;dsimp only[UV.val,SV.val];go_enter func29,ntmps29;go_upto_region 1 with(fail);generalize ba:World.alloc _ _=W;have ar:=l6 ba;have bH:=jV ba;have bJ:=iF ba;have cq:=jD ba;have ab:=dq ar bH bJ cq (bR.1.on ar) (bR.2.1.on ar);have cP:=ar.size;have dv:=cq.lt;obtain⟨a0,al,af⟩:=bH.two;obtain⟨b0,am,aw⟩:=bJ.two;clear ba ar bH bJ cq;go_wp2_with(fail);refine(sR u s t W ⟨GA,gn,gc,MA,mn,mc,PA,pn,pc⟩ ⟨bP,cg,bQ,TA,tn,tc,HA,hn,hc⟩ ab.2.2.2.2.2 y.o).mono ?_;rintro e aL ⟨rfl,ag⟩;have bs:=ae ag;clear a0 al af b0 am aw;go_upto_region 2 with(fail);generalize hV:World.alloc _ _=V;have a9:Ext W V:=hV▸ag.alloc _;have dn:=a9.size;have m:=ab.2.2.2.1.aj a9;obtain⟨b0,am,aw⟩:=(ab.2.2.1.aj a9).two;obtain⟨bh,an,aM⟩:=m.two;have b9:=ak a9 m;clear hV a9 ag m;go_wp2_with(fail);generalize hX:World.setCell _ _ _=Z;obtain⟨bq,a5,a4⟩:=bk (w:=w) [.slice bP cg bQ,.slice TA tn tc,.slice HA hn hc,.int .i64 s.fault] (by rfl) b9.2 (ab.1.trans b9.1) ad hX;exact z3
 ):p:=h
end B9
open B9 in
theorem uW(u:ay)(s:ah)(t:Int)(P:Nat->Prop)(w:World)(p:UV)(q:SV)(hu:p.Ok w u)(aC:q.Is w P s)(S:∀b,P b->b<w.heap.size)(ht:dJ s t=none) :
  Calls prog 29 #[.agg (p.val u),.agg (q.val s),.int .i64 t] w (cH P w s false):=by
 exact gK
theorem RO.aj{P:Nat->Prop}{B:Nat}{w J:World}{s:ah}{k:Nat}{fs:List ai}{f:ai}{N:Nat}{q:SV}{O lb lc:Nat}{hx co:List Value}{IA:Kj}{ic:Nat}{bo:Kj}{y:Nat}{F1 F2 bf:List Nat}(h:RO P B w s k fs f N q O lb lc hx co IA ic bo y F1 F2 bf)(ar:Ext w J):RO P B J s k fs f N q O lb lc hx co IA ic bo y F1 F2 bf:=by
 have aj:∀b,b<w.heap.size->J.heap[b]?=w.heap[b]?:=λb O=>ar.block b O λh=>h;have aq:∀b∈N::O::lb::(F1++(F2++bf)),J.heap[b]?=w.heap[b]?:=λb O=>aj b (h.lo b O).2;have aK:=(h.lo N (by simp))
 have n:∀b,P b->J.heap[b]?=w.heap[b]?:=λb O=>aj b (aC (h.pb b O));refine {th:=h.th,gl:=h.gl,tl:=h.tl,hl:=h.hl,g:=h.g.al λb O=>aq b (by simp[O]),t:=h.t.al λb O=>aq b (by simp[O]),h:=h.h.al λb O=>aq b (by simp[J9.1 O]),lJ:=h.lJ,pA:=λj cR be cv=>?_,FY:=h.FY,l:=h.l.al λb O=>aq b (by simp[J9.1 O]),fr:=D.bY n _ _ h.fr,lk:=h.lk.al n,F0:=h.F0,i:=h.i.al λb O=>aq b (by simp[O]),o:=h.o.aj ar,nd:=h.nd,lo:=λb O=>⟨(h.lo b O).1,JJ (h.lo b O).2 ar.size⟩,pb:=h.pb};obtain⟨u,hu,aZ⟩:=h.pA j cR be cv;exact⟨u,hu,D.aD n _ _ aZ⟩
namespace Ca
theorem tu(h:p:=by
 rw[b6.o];exact eE (B:=V.heap.size) bw.1 bn.2.drew (λb O=>⟨λhl=>by have:=G.o b hl;omega,ad⟩) (λb O=>by have:=G.o b O;omega) ad bn.1.drew (by rw[dG br.2.1,List.set_set];rfl)
 ):p:=h
theorem eI(h:p:=by
 generalize hX:World.setCell _ _ _=Y;have n:=cO.o;rw[hX] at n;have L:=da hX;have i:Ext V Y:=Fr.low (M:=λb=>b=T) (Fr.trans (Fr.mono H.2.1 λ_ h=>h.elim) L) λb O=>ad;have bw:=av n.is n.o (b9.trans i);have aK:=i.size;clear hX n L i b0 am aw d0 aQ aR e0 bl bm c0 c1 c2 c3 J flb Q cz bA;exact tt
 ):p:=h
theorem zk(h:p:=by
 clear b2 b5 b0 am aw;exact Fv
 ):p:=h
theorem qS(h:p:=by
 clear cX ch ca;rcases dp.o with h|h
 all_goals
  first
   | have q1:(x.op == 1)=true:=by simpa using h
   | have q1:(x.op == 1)=false:=by simp;omega
  first
   | have cM:(x.op == 2)=true:=by simpa using h
   | have cM:(x.op == 2)=false:=by simp;omega
  first
   | have c7:(x.op == 3)=true:=by simpa using h
   | have c7:(x.op == 3)=false:=by simp;omega
  first
   | have c8:(x.op == 4)=true:=by simpa using h
   | have c8:(x.op == 4)=false:=by simp;omega
  first
   | have q5:(x.op == 5)=true:=by simpa using h
   | have q5:(x.op == 5)=false:=by simp;omega
  first
   | have dl:(x.op == 6)=true:=by simpa using h
   | have dl:(x.op == 6)=false:=by simp;omega
  first
   | have q7:(x.op == 7)=true:=by simpa using h
   | have q7:(x.op == 7)=false:=by simp;omega
  first
   | have dF:(x.op == 8)=true:=by simpa using h
   | have dF:(x.op == 8)=false:=by simp;omega
  have aN:=ae h;clear h;go_upto_region 12 with(fail);refine fj (λ_=>False) [(0,3),(1,0),(2,3),(3,0),(4,3),(5,3),(6,3),(7,0),(8,2),(9,3),(10,3),(11,3),(12,3),(13,3)] ?_;refine pf ?_;refine ph ?_;refine pf ?_;refine ph ?_
  iterate 3 refine pf ?_
  refine ph ?_;refine az rfl (λK hK=>?_);go_simp;have be:Ext X X.drew:=(Fr.refl _ X).drew;have bc:=aJ.2.2.trans be;have cm:(bB ex).rep X.drew (ao X.drew) [.int .i64 eo,.int .i64 en,.string es,.slice EA em ec]:=by
   have:=(dC.on (aJ.2.1.trans be)).expr;rw[aV.2.1] at this;exact this
  obtain⟨bz,b1⟩:=l.El aV.1 (ab.2.2.2.2.2.on bc).at_.g (aJ.1.Hs.on (Fr.ext be)) cm;refine(mw ex X.drew bP df cg f.ints.length bQ dJ s.globals f.ints _ _ _ _ bz b1).mono ?_;rintro e cE ⟨rfl,aP⟩;have aA:Ext X cE:=Fr.aL (Fr.of aP);have b4:=ae (aJ.2.2.trans aA);have bY:=aW.o;generalize ev s.globals f.ints ex=R at *;obtain⟨r,z⟩:=R;have aj:=ae bY;have bb:=RO.aj aJ.1 aA;have H:=av bb (aJ.2.1.trans aA) (aJ.2.2.trans aA);have dI:=aA.size;clear bY be bc cm bz b1 aP aA a0 al af b0 am aw d0 aQ aR e0 bl bm c0 c1 c2 c3 J flb Q;obtain⟨b0,am,aw⟩:=(ab.2.2.1.aj b4.o).two;obtain⟨d0,aQ,aR⟩:=(bN.aj H.2.1).two;obtain⟨e0,bl,bm⟩:=bb.o.two;obtain⟨cp,bE,flb,Q,J,c0,c1,c2,c3,ce⟩:=bb.top;clear bb;refine eC hK ?_;clear hK K
  iterate 5 refine pf ?_
  refine aG ?_;by_cases bi:z=0
  case neg=>
   have bX:(z != 0)=true:=by simpa using bi
   have b6:=ae (aj.bad bi);exact zj
  have bX:(z != 0)=false:=by simpa using bi
  have bS:=ae bi;clear bi
 ·
  cases aS:x.c5 with
  | true=>
   have b6:=ae (aj.gl bS.o aN.o aS);rw[aS] at d0;have cA:=aV.2.2.1 aN.o aS;have cj:=aV.2.2.2.2;have a6:=H.1.gl;simp only at a6;have cD:x.target<(aU:Int):=ad;obtain⟨a1,bs,cQ,cz,⟨bu,bA⟩,cJ,cw,aE⟩:=H.1.c5 (j:=x.target.toNat) (by show x.target.toNat<aU;omega);simp only at bs;subst bs;have cO:=ae (aE r);clear cA cj a6 aE aS;go_upto_region 45 with(fail);generalize hX:World.setCell _ _ _=Y;have n:=cO.o;rw[hX] at n;have L:=da hX;have i:Ext V Y:=Fr.low (M:=λb=>b=a1) (Fr.trans (Fr.mono H.2.1 λ_ h=>h.elim) L) λb O=>ad;have bw:=av n.is n.o (b9.trans i);have aK:=i.size;clear hX n L i b0 am aw d0 aQ aR e0 bl bm c0 c1 c2 c3 J flb Q cz bA;have a2:=ak (ab.2.2.2.1.aj bw.2.2) (ab.1.trans bw.2.2);have di:=bw.2.2.size;obtain⟨bh,an,aM⟩:=a2.1.two;obtain⟨e0,bl,bm⟩:=bw.2.1.two;go_wp2_with(fail);generalize hX:World.setCell _ _ _=Z;obtain⟨bq,a5,a4⟩:=bk (w:=w) [.slice (some ⟨a1,0,none⟩) aU a3,.slice bW m aX,.slice (some ⟨O,0,none⟩) cd aO,.int .i64 s.fault] (by rfl) a2.1 a2.2 ad hX;have bn:=ak a5 a4;clear hX a5 a4 bh an aM e0 bl bm;obtain⟨bh,an,aM⟩:=bq.two;refine Ke (v:=.tuple #[.agg #[.slice (some ⟨a1,0,none⟩) aU a3,.slice bW m aX,.slice (some ⟨O,0,none⟩) cd aO,.int .i64 s.fault],.bool true]) (by simp[results,Tryz.results29,go_sem,bh]) rfl ?_
   exact Ci
  | false=>
   have b6:=ae (aj.lo bS.o aN.o aS);rw[aS] at d0;have aq:=aV.2.2.2.1 aN.o aS;have cv:x.target<((next f).ints.length:Int):=aq;obtain⟨T,bv,cQ,cz,⟨bu,bA⟩,cJ,cw,hints⟩:=H.1.ints (j:=x.target.toNat) (by show x.target.toNat<f.ints.length;omega);subst bv;have cO:=ae (hints r);clear hints aS;go_upto_region 20 with(fail);exact As
 ·
  by_cases aZ:r=0
  .have DT:(r == 0)=true:=by simpa using aZ
   have b6:=ae (aj.bz bS.o aN.o aZ);clear aZ;go_upto_region 45 with(fail);generalize hX:World.setCell _ _ _=Y;have n:=H.1.pc x.target;rw[hX] at n;have L:=da hX;have i:Ext V Y:=Fr.low (M:=λb=>b=lb) (Fr.trans (Fr.mono H.2.1 λ_ h=>h.elim) L) λb O=>ad;have bw:=av n.is n.o (b9.trans i);have aK:=i.size;clear hX n L i b0 am aw d0 aQ aR e0 bl bm c0 c1 c2 c3 J flb Q;exact Fq
  .have DT:(r == 0)=false:=by simpa using aZ
   have b6:=ae (aj.bn bS.o aN.o aZ);clear aZ;have bw:=av H.1.is H.1.o H.2.2;clear e0 bl bm c0 c1 c2 c3 J flb Q;have a2:=ak (ab.2.2.2.1.aj bw.2.2) (ab.1.trans bw.2.2);have di:=bw.2.2.size;obtain⟨bh,an,aM⟩:=a2.1.two;obtain⟨e0,bl,bm⟩:=bw.2.1.two;go_wp2_with(fail);generalize hX:World.setCell _ _ _=Z;obtain⟨bq,a5,a4⟩:=bk (w:=w) [.slice b7 aU a3,.slice bW m aX,.slice (some ⟨O,0,none⟩) cd aO,.int .i64 s.fault] (by rfl) a2.1 a2.2 ad hX;have bn:=ak a5 a4;clear hX a5 a4 bh an aM e0 bl bm;obtain⟨bh,an,aM⟩:=bq.two;refine Ke (v:=.tuple #[.agg #[.slice b7 aU a3,.slice bW m aX,.slice (some ⟨O,0,none⟩) cd aO,.int .i64 s.fault],.bool true]) (by simp[results,Tryz.results29,go_sem,bh]) rfl ?_;exact Ci
 ):p:=h
theorem qU(h:p:=by
 exact qR
 ):p:=h
theorem zO(h:p:=by
 have aW:=ae (IN (u:=u) (s:=s) (t:=t) (f:=f) hex cf);have bg:=h.hS.c5;have aV:=dT bd hex cC aa bg;clear I hlen bd hex cC aa bg;exact qT
 ):p:=h
theorem qY(h:p:=by
 exact zN
 ):p:=h
end Ca
open Ca in
theorem oZ(u:ay)(s:ah)(t:Int)(f:ai)(cc:cG)(x:ax)(N:Nat)(P:Nat->Prop)(w:World)(p:UV)(q:SV)(h:je u s t f cc x N)(bo:N<=100000)(cf:x.op=1\/x.op=6)(hu:p.Ok w u)(aC:q.Is w P s)(S:∀b,P b->b<w.heap.size) :
  Calls prog 29 #[.agg (p.val u),.agg (q.val s),.int .i64 t] w (cH P w (bU u s t f x).1 (bU u s t f x).2):=by
 exact qX
end Go.Proofs.YtnigabjngpnbiaaGreat

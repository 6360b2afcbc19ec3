/- Part 17 of the proof. No condition of its own. -/
import Derived.Test.YtpkfopfkdgkfkaaGreatQ16
namespace Go.Proofs.YtpkfopfkdgkfkaaGreat
open Go.RowKit Go.Proofs.Tryz
set_option maxRecDepth 1000000
set_option maxHeartbeats 25600000
set_option linter.unusedVariables false
variable{p:Prop}
theorem RO.aj{P:Nat->Prop}{B:Nat}{w ab:World}{s:ak}{k:Nat}{fs:List al}{f:al}{N:Nat}{q:SV}{O lb lc:Nat}{hx b0:List Value}{IA:Mt}{ic:Nat}{bw:Mt}{aH:Nat}{F1 F2 a4:List Nat}(h:RO P B w s k fs f N q O lb lc hx b0 IA ic bw aH F1 F2 a4)(aw:Ext w ab):RO P B ab s k fs f N q O lb lc hx b0 IA ic bw aH F1 F2 a4:=by
 have aj:∀b,b<w.heap.size->ab.heap[b]?=w.heap[b]?:=λb O=>aw.block b O λh=>h;have an:∀b∈N::O::lb::(F1++(F2++a4)),ab.heap[b]?=w.heap[b]?:=λb O=>aj b (h.lo b O).2;have aQ:=(h.lo N (by simp))
 have n:∀b,P b->ab.heap[b]?=w.heap[b]?:=λb O=>aj b (ay (h.pb b O));refine {th:=h.th,gl:=h.gl,tl:=h.tl,hl:=h.hl,g:=h.g.ai λb O=>an b (by simp[O]),t:=h.t.ai λb O=>an b (by simp[O]),h:=h.h.ai λb O=>an b (by simp[Mi.1 O]),lH:=h.lH,oE:=λj cM bd bU=>?_,zq:=h.zq,l:=h.l.ai λb O=>an b (by simp[Mi.1 O]),fr:=D.bG n _ _ h.fr,lk:=h.lk.ai n,HO:=h.HO,i:=h.i.ai λb O=>an b (by simp[O]),o:=h.o.aj aw,nd:=h.nd,lo:=λb O=>⟨(h.lo b O).1,LL (h.lo b O).2 aw.size⟩,pb:=h.pb};obtain⟨u,hu,a5⟩:=h.oE j cM bd bU;exact⟨u,hu,D.aS n _ _ a5⟩
namespace DH
theorem vA(h:p:=by
 rw[b3.o];exact fu (B:=V.heap.size) bC.1 bk.2.drew (λb O=>⟨λhl=>by have:=G.o b hl;omega,ad⟩) (λb O=>by have:=G.o b O;omega) ad bk.1.drew (by rw[et bN.2.1,List.set_set];rfl)
 ):p:=h
theorem dC(h:p:=by
 generalize hX:World.setCell _ _ _=Y;have n:=I.o;rw[hX] at n;have ar:=cp hX;have i:Ext V Y:=Fr.low (M:=λb=>b=T) (Fr.trans (Fr.mono y.2.1 λ_ h=>h.elim) ar) λb O=>ad;have bC:=az n.is n.o (bS.trans i);have ay:=i.size;clear hX n ar i bq am aG d0 aK aM e0 be a6 c0 c1 c2 c3 H flb J dv dA;exact vz
 ):p:=h
theorem AM(h:p:=by
 clear ca bP bq am aG;exact Hm
 ):p:=h
theorem sw(h:p:=by
 clear bM cK a2;rcases cz.o with h|h
 all_goals
  first
   | have q1:(x.op == 1)=true:=by simpa using h
   | have q1:(x.op == 1)=false:=by simp;omega
  first
   | have cJ:(x.op == 2)=true:=by simpa using h
   | have cJ:(x.op == 2)=false:=by simp;omega
  first
   | have c9:(x.op == 3)=true:=by simpa using h
   | have c9:(x.op == 3)=false:=by simp;omega
  first
   | have dk:(x.op == 4)=true:=by simpa using h
   | have dk:(x.op == 4)=false:=by simp;omega
  first
   | have q5:(x.op == 5)=true:=by simpa using h
   | have q5:(x.op == 5)=false:=by simp;omega
  first
   | have dr:(x.op == 6)=true:=by simpa using h
   | have dr:(x.op == 6)=false:=by simp;omega
  first
   | have q7:(x.op == 7)=true:=by simpa using h
   | have q7:(x.op == 7)=false:=by simp;omega
  first
   | have dJ:(x.op == 8)=true:=by simpa using h
   | have dJ:(x.op == 8)=false:=by simp;omega
  have a1:=ae h;clear h;go_upto_region 12 with(fail);refine eJ (λ_=>False) [(0,3),(1,0),(2,3),(3,0),(4,3),(5,3),(6,3),(7,0),(8,2),(9,3),(10,3),(11,3),(12,3),(13,3)] ?_;refine pf ?_;refine ph ?_;refine pf ?_;refine ph ?_
  iterate 3 refine pf ?_
  refine ph ?_;refine ax rfl (λK hK=>?_);go_simp;have aB:Ext X X.drew:=(Fr.refl _ X).drew;have cy:=aN.2.2.trans aB;have b2:(bm ex).rep X.drew (aq X.drew) [eo,en,es,.slice EA em ec]:=by
   have:=(dy.on (aN.2.1.trans aB)).expr;rw[bb.2.1] at this;exact this
  obtain⟨bc,cx⟩:=l.Gj bb.1 (ah.2.2.2.2.2.on cy).at_.g (aN.1.Jy.on (Fr.ext aB)) b2;refine(nI ex X.drew bV cE bW f.ints.length bD cG s.globals f.ints _ _ _ _ bc cx).mono ?_;rintro e cS ⟨rfl,bG⟩;have bd:Ext X cS:=Fr.aG (Fr.of bG);have cj:=ae (aN.2.2.trans bd);have cg:=bO.o;generalize ev s.globals f.ints ex=R at *;obtain⟨r,z⟩:=R;have aa:=ae cg;have bj:=RO.aj aN.1 bd;have y:=az bj (aN.2.1.trans bd) (aN.2.2.trans bd);have dI:=bd.size;clear cg aB cy b2 bc cx bG bd a0 ai af bq am aG d0 aK aM e0 be a6 c0 c1 c2 c3 H flb J;obtain⟨bq,am,aG⟩:=(ah.2.2.1.aj cj.o).two;obtain⟨d0,aK,aM⟩:=(bF.aj y.2.1).two;obtain⟨e0,be,a6⟩:=bj.o.two;obtain⟨bw,br,flb,J,H,c0,c1,c2,c3,bu⟩:=bj.top;clear bj;refine dX hK ?_;clear hK K
  iterate 5 refine pf ?_
  refine aF ?_;by_cases aL:z=0
  case neg=>
   have cP:(z != 0)=true:=by simpa using aL
   have b3:=ae (aa.bad aL);exact AL
  have cP:(z != 0)=false:=by simpa using aL
  have b1:=ae aL;clear aL
 ·
  cases aR:x.dv with
  | true=>
   have b3:=ae (aa.gl b1.o a1.o aR);rw[aR] at d0;have cB:=bb.2.2.1 a1.o aR;have bi:=bb.2.2.2.2;have aQ:=y.1.gl;simp only at aQ;have cF:x.target<(bJ:Int):=ad;obtain⟨ct,bp,c5,dv,⟨dt,dA⟩,ek,bH,aj⟩:=y.1.dv (j:=x.target.toNat) (by show x.target.toNat<bJ;omega);simp only at bp;subst bp;have I:=ae (aj r);clear cB bi aQ aj aR;go_upto_region 45 with(fail);generalize hX:World.setCell _ _ _=Y;have n:=I.o;rw[hX] at n;have ar:=cp hX;have i:Ext V Y:=Fr.low (M:=λb=>b=ct) (Fr.trans (Fr.mono y.2.1 λ_ h=>h.elim) ar) λb O=>ad;have bC:=az n.is n.o (bS.trans i);have ay:=i.size;clear hX n ar i bq am aG d0 aK aM e0 be a6 c0 c1 c2 c3 H flb J dv dA;have a3:=ag (ah.2.2.2.1.aj bC.2.2) (ah.1.trans bC.2.2);have cd:=bC.2.2.size;obtain⟨bl,aD,aP⟩:=a3.1.two;obtain⟨e0,be,a6⟩:=bC.2.1.two;go_wp2_with(fail);generalize hX:World.setCell _ _ _=Z;obtain⟨bs,a9,bf⟩:=bA (w:=w) [.slice (some ⟨ct,0,none⟩) bJ aY,.slice ab m L,.slice (some ⟨O,0,none⟩) cu S,.int .i64 s.fault] (by rfl) a3.1 a3.2 ad hX;have bk:=ag a9 bf;clear hX a9 bf bl aD aP e0 be a6;obtain⟨bl,aD,aP⟩:=bs.two;refine Mn (v:=.tuple #[.agg #[.slice (some ⟨ct,0,none⟩) bJ aY,.slice ab m L,.slice (some ⟨O,0,none⟩) cu S,.int .i64 s.fault],true]) (by simp[results,Tryz.results40,go_sem,bl]) rfl ?_
   exact DS
  | false=>
   have b3:=ae (aa.lo b1.o a1.o aR);rw[aR] at d0;have an:=bb.2.2.2.1 a1.o aR;have bT:x.target<((next f).ints.length:Int):=an;obtain⟨T,eE,c5,dv,⟨dt,dA⟩,ek,bH,hints⟩:=y.1.ints (j:=x.target.toNat) (by show x.target.toNat<f.ints.length;omega);subst eE;have I:=ae (hints r);clear hints aR;go_upto_region 20 with(fail);exact BU
 ·
  by_cases a5:r=0
  .have FM:(r == 0)=true:=by simpa using a5
   have b3:=ae (aa.bz b1.o a1.o a5);clear a5;go_upto_region 45 with(fail);generalize hX:World.setCell _ _ _=Y;have n:=y.1.pc x.target;rw[hX] at n;have ar:=cp hX;have i:Ext V Y:=Fr.low (M:=λb=>b=lb) (Fr.trans (Fr.mono y.2.1 λ_ h=>h.elim) ar) λb O=>ad;have bC:=az n.is n.o (bS.trans i);have ay:=i.size;clear hX n ar i bq am aG d0 aK aM e0 be a6 c0 c1 c2 c3 H flb J;exact Hi
  .have FM:(r == 0)=false:=by simpa using a5
   have b3:=ae (aa.bn b1.o a1.o a5);clear a5;have bC:=az y.1.is y.1.o y.2.2;clear e0 be a6 c0 c1 c2 c3 H flb J;have a3:=ag (ah.2.2.2.1.aj bC.2.2) (ah.1.trans bC.2.2);have cd:=bC.2.2.size;obtain⟨bl,aD,aP⟩:=a3.1.two;obtain⟨e0,be,a6⟩:=bC.2.1.two;go_wp2_with(fail);generalize hX:World.setCell _ _ _=Z;obtain⟨bs,a9,bf⟩:=bA (w:=w) [.slice bh bJ aY,.slice ab m L,.slice (some ⟨O,0,none⟩) cu S,.int .i64 s.fault] (by rfl) a3.1 a3.2 ad hX;have bk:=ag a9 bf;clear hX a9 bf bl aD aP e0 be a6;obtain⟨bl,aD,aP⟩:=bs.two;refine Mn (v:=.tuple #[.agg #[.slice bh bJ aY,.slice ab m L,.slice (some ⟨O,0,none⟩) cu S,.int .i64 s.fault],true]) (by simp[results,Tryz.results40,go_sem,bl]) rfl ?_;exact DS
 ):p:=h
theorem sy(h:p:=by
 exact su
 ):p:=h
theorem Bm(h:p:=by
 have bO:=ae (KL (u:=u) (s:=s) (t:=t) (f:=f) hex cw);have bn:=h.hS.dv;have bb:=cL aE hex cH aW bn;clear aX hlen aE hex cH aW bn;exact sx
 ):p:=h
theorem sD(h:p:=by
 exact Bl
 ):p:=h
end DH
open DH in
theorem qE(u:aA)(s:ak)(t:Int)(f:al)(cn:cM)(x:aC)(N:Nat)(P:Nat->Prop)(w:World)(p:UV)(q:SV)(h:jX u s t f cn x N)(hN:N<=100000)(cw:x.op=1\/x.op=6)(hu:p.Ok w u)(dp:q.Is w P s)(bg:∀b,P b->b<w.heap.size) :
  Calls prog 40 #[.agg (p.val u),.agg (q.val s),t] w (cX P w (b5 u s t f x).1 (b5 u s t f x).2):=by
 exact sC
namespace DK
theorem BA(h:p:=by
 rw[b3.o];exact Ac
 ):p:=h
theorem AM(h:p:=by
 clear ca bP a0 ai af d0 aK aM e0 be a6 c0 c1 c2 c3 H flb J cq k a8 bq am aG;exact Hm
 ):p:=h
theorem sw(h:p:=by
 clear bM cK a2;rcases cz.o with h|h
 all_goals
  first
   | have q1:(x.op == 1)=true:=by simpa using h
   | have q1:(x.op == 1)=false:=by simp;omega
  first
   | have cJ:(x.op == 2)=true:=by simpa using h
   | have cJ:(x.op == 2)=false:=by simp;omega
  first
   | have c9:(x.op == 3)=true:=by simpa using h
   | have c9:(x.op == 3)=false:=by simp;omega
  first
   | have dk:(x.op == 4)=true:=by simpa using h
   | have dk:(x.op == 4)=false:=by simp;omega
  first
   | have q5:(x.op == 5)=true:=by simpa using h
   | have q5:(x.op == 5)=false:=by simp;omega
  first
   | have dr:(x.op == 6)=true:=by simpa using h
   | have dr:(x.op == 6)=false:=by simp;omega
  first
   | have q7:(x.op == 7)=true:=by simpa using h
   | have q7:(x.op == 7)=false:=by simp;omega
  first
   | have dJ:(x.op == 8)=true:=by simpa using h
   | have dJ:(x.op == 8)=false:=by simp;omega
  have de:=ae h;clear h;go_wp2_with(fail);refine(qz u s t f x.place N X ⟨GA,gn,gc,MA,mn,mc,PA,pn,pc⟩ ⟨bV,bW,bD,TA,tn,tc,HA,hn,hc⟩ QA qm qc ⟨l.hU.ok,l.hS,l.sm,l.ht,⟨cn,l.hp,ct.1⟩,ah.2.2.2.2.1.on aN.2.2,ah.2.2.2.2.2.on aN.2.2,(dy.on aN.2.1).place⟩).mono ?_;rintro e cS ⟨rfl,bG⟩;rw[iD l.ht];have bd:Ext X cS:=Fr.of bG;have bn:=ct.2.2;have aq:=ae K.o;generalize bH u s f x.place=R at *;obtain⟨ap,z⟩:=R;have bp:=ae bn;have y:=az (RO.aj aN.1 bd) (aN.2.1.trans bd) (aN.2.2.trans bd);have cj:=ae y.2.2;have dI:=bd.size;clear bn bG bd a0 ai af bq am aG d0 aK aM e0 be a6 c0 c1 c2 c3 H flb J cq k a8;obtain⟨bq,am,aG⟩:=(ah.2.2.1.aj y.2.2).two;obtain⟨d0,aK,aM⟩:=(bF.aj y.2.1).two;obtain⟨e0,be,a6⟩:=y.1.o.two;obtain⟨cq,k,flb,J,H,c0,c1,c2,c3,a8⟩:=y.1.top;obtain⟨a0,ai,af⟩:=(ah.2.1.aj cj.o).two;by_cases aL:z=0
  case neg=>
   have b3:=ae (aq.bad aL);have cP:(z != 0)=true:=by simpa using aL
   exact AL
  have cP:(z != 0)=false:=by simpa using aL
  have aF:=bp.2 aL;have aB:=l2 l.hU.ok;have aV:ap<=5000:=by simp only at aF;omega
  have b1:=ae aL;clear aL aF aB
 ·
  have bw:=ae (aq.lf b1.o de.o);have aR:=ae (aq.ln b1.o de.o);go_wp2_with(fail);refine(uI MA TA mn mc tn tc u.af s.table ap t cS (ah.2.2.2.2.1.on cj.o).at_.m.mM l.hU.ok.wK (ah.2.2.2.2.2.on cj.o).at_.t.holds ct.2.1 ad).mono ?_;intro e c6 aj;have an:(fL u.af s.table ap t).length=tn:=by rw[fq];exact bN.2.2.2.1.symm
  obtain⟨I,aE,rfl,bm,cf,ao,bb⟩:=aj.open_ (n:=tn) an;have bP:Ext cS c6:=Fr.of bb;generalize hT:fL u.af s.table ap t=T at *;have r:Own c6 79 2 I tn aE (T.flatMap bO) (br I tn aE):=⟨hr ao (Md _),rfl⟩
  have ax:∀b∈br I tn aE,cS.heap.size<=b/\b<c6.heap.size:=λb O=>ao.lt b (by simpa using O);have ar:Sl c6 (λb=>cS.heap.size<=b/\b<c6.heap.size) I tn (T.map ky):=r.sl (dH _) (by rw[LO];exact an) ax;have aQ:=az (RO.aj y.1 bP) (y.2.1.trans bP) (y.2.2.trans bP);have aa:=ag ar bm;have cm:=bP.size;clear hT an aj cf ao bb bP r ax ar bm a0 ai af bq am aG d0 aK aM e0 be a6 c0 c1 c2 c3 H flb J cq k a8;obtain⟨bq,am,aG⟩:=(ah.2.2.1.aj aQ.2.2).two;obtain⟨d0,aK,aM⟩:=(bF.aj aQ.2.1).two;obtain⟨e0,be,a6⟩:=aQ.1.o.two;obtain⟨cq,k,flb,J,H,c0,c1,c2,c3,a8⟩:=aQ.1.top;go_upto_region 38 with(fail);generalize hX:World.setCell _ _ _=Y;obtain⟨cx,bY⟩:=aQ.1.I8 aa.1 aa.2 (λb a1=>.inr ⟨by have:=aN.1.lo b7 (by simp);have:=a1.1;omega,a1.2,by have:=aN.1.lo b7 (by simp);have:=a1.1;omega⟩) hX;have cW:=cp hX;have dg:=(aN.1.lo b7 (by simp)).1;have i:Ext V Y:=Fr.low (M:=λb=>b=b7.heap.size) (Fr.trans (Fr.mono aQ.2.1 λ_ h=>h.elim) cW) λb O=>ad;have bC:=az cx bY (bS.trans i);have b2:=ae bC.2.2;have ay:=i.size;clear hX cx bY cW i bq am aG d0 aK aM e0 be a6 c0 c1 c2 c3 H flb J cq k a8
  cases cg:free u.af s.table ap t with
  | true=>
   exact Hh
  | false=>
   have b3:=ae (aR.o cg);obtain⟨bq,am,aG⟩:=(ah.2.2.1.aj b2.o).two;have a3:=ag (ah.2.2.2.1.aj b2.o) (ah.1.trans b2.o);obtain⟨bl,aD,aP⟩:=a3.1.two;go_wp2_with(fail);generalize hX:World.setCell _ _ _=Z;obtain⟨bs,a9,bf⟩:=bA (w:=w) [.slice bV bW bD,.slice TA tn tc,.slice HA hn hc,.int .i64 s.fault] (by rfl) a3.1 a3.2 ad hX;exact Bz
 ·
  have bw:=ae (aq.uf b1.o de.o);have aR:=ae (aq.un b1.o de.o);go_wp2_with(fail);refine(rh MA TA mn mc tn tc u.af s.table ap t cS (ah.2.2.2.2.1.on cj.o).at_.m.mM l.hU.ok.wK (ah.2.2.2.2.2.on cj.o).at_.t.holds ct.2.1 ad).mono ?_;intro e c6 aj;have an:(c5 u.af s.table ap t).length=tn:=by rw[fj];exact bN.2.2.2.1.symm
  obtain⟨I,aE,rfl,bm,cf,ao,bb⟩:=aj.open_ (n:=tn) an;have bP:Ext cS c6:=Fr.of bb;generalize hT:c5 u.af s.table ap t=T at *;have r:Own c6 79 2 I tn aE (T.flatMap bO) (br I tn aE):=⟨hr ao (Md _),rfl⟩
  have ax:∀b∈br I tn aE,cS.heap.size<=b/\b<c6.heap.size:=λb O=>ao.lt b (by simpa using O);have ar:Sl c6 (λb=>cS.heap.size<=b/\b<c6.heap.size) I tn (T.map ky):=r.sl (dH _) (by rw[LO];exact an) ax;have aQ:=az (RO.aj y.1 bP) (y.2.1.trans bP) (y.2.2.trans bP);have aa:=ag ar bm;have cm:=bP.size;clear hT an aj cf ao bb bP r ax ar bm a0 ai af bq am aG d0 aK aM e0 be a6 c0 c1 c2 c3 H flb J cq k a8;obtain⟨bq,am,aG⟩:=(ah.2.2.1.aj aQ.2.2).two;obtain⟨d0,aK,aM⟩:=(bF.aj aQ.2.1).two;obtain⟨e0,be,a6⟩:=aQ.1.o.two;obtain⟨cq,k,flb,J,H,c0,c1,c2,c3,a8⟩:=aQ.1.top;go_upto_region 41 with(fail);generalize hX:World.setCell _ _ _=Y;obtain⟨cx,bY⟩:=aQ.1.I8 aa.1 aa.2 (λb a1=>.inr ⟨by have:=aN.1.lo b7 (by simp);have:=a1.1;omega,a1.2,by have:=aN.1.lo b7 (by simp);have:=a1.1;omega⟩) hX;have cW:=cp hX;have dg:=(aN.1.lo b7 (by simp)).1;have i:Ext V Y:=Fr.low (M:=λb=>b=b7.heap.size) (Fr.trans (Fr.mono aQ.2.1 λ_ h=>h.elim) cW) λb O=>ad;have bC:=az cx bY (bS.trans i);have b2:=ae bC.2.2;have ay:=i.size;clear hX cx bY cW i bq am aG d0 aK aM e0 be a6 c0 c1 c2 c3 H flb J cq k a8
  cases cg:heldBy u.af s.table ap t with
  | true=>
   exact Hh
  | false=>
   have b3:=ae (aR.o cg);obtain⟨bq,am,aG⟩:=(ah.2.2.1.aj b2.o).two;have du:=b2.size;go_wp2_with(fail);refine(pa P s ⟨bV,bW,bD,TA,tn,tc,HA,hn,hc⟩ 3 Y (cc.2.2.HN G.o (ah.1.trans b2.o)) (λb O=>LL (G.o b O) (ah.1.trans b2.o).size)).mono ?_;rintro e c6 ⟨⟨cT,bL,bX,bt,b8,bv,bU,aZ,cb⟩,rfl,ca,bP⟩;have fg:=bP.size;have da:=ae ca;have a3:=ag (ah.2.2.2.1.aj (b2.trans bP)) ((ah.1.trans b2.o).trans bP);clear ca bP bq am aG;obtain⟨bl,aD,aP⟩:=a3.1.two;go_wp2_with(fail);generalize hX:World.setCell _ _ _=Z;obtain⟨bs,a9,bf⟩:=bA (w:=w) [.slice cT bL bX,.slice bt b8 bv,.slice bU aZ cb,(3:Int)] (by rfl) a3.1 a3.2 ad hX;have bk:=ag a9 bf;clear hX a9 bf bl aD aP;obtain⟨bl,aD,aP⟩:=bs.two;refine Mn (v:=.tuple #[.agg #[.slice cT bL bX,.slice bt b8 bv,.slice bU aZ cb,(3:Int)],true]) (by simp[results,Tryz.results40,go_sem,bl]) rfl ?_;rw[b3.o];exact fu (B:=Y.heap.size) (Q:={s with fault:=3}) da.o bk.2 (λb O=>⟨λhl=>by have:=G.o b hl;omega,ad⟩) (λb O=>by have:=G.o b O;omega) ad bk.1 rfl
 ):p:=h
theorem sy(h:p:=by
 exact su
 ):p:=h
theorem sD(h:p:=by
 have bi:c4 (bx u) cn.locals cn.an x.place:=by
  exact zM
 have cB:=h.hS.vk;have cF:t<=1000:=ad;have dB:=h.hS.tok hN;have bn:=jB (s:=s) (nl:=cn.locals) (nk:=f.an.length) h.hU.ok h.hF (Int.le_refl _) (by rw[h.hF.s6 h.hp];exact bi);have K:=ae (KM (u:=u) (s:=s) (t:=t) (f:=f) (x:=x) cw);have ct:=az bi dB bn;clear bi dB bn cB;exact sx
 ):p:=h
end DK
open DK in
theorem qF(u:aA)(s:ak)(t:Int)(f:al)(cn:cM)(x:aC)(N:Nat)(P:Nat->Prop)(w:World)(p:UV)(q:SV)(h:jX u s t f cn x N)(hN:N<=100000)(cw:x.op=4\/x.op=5)(hu:p.Ok w u)(dp:q.Is w P s)(bg:∀b,P b->b<w.heap.size) :
  Calls prog 40 #[.agg (p.val u),.agg (q.val s),t] w (cX P w (b5 u s t f x).1 (b5 u s t f x).2):=by
 exact sC
end Go.Proofs.YtpkfopfkdgkfkaaGreat

/- Part 31 of the proof. No condition of its own. -/
import Derived.Test.YtnigabjngpnbiabGreatF30
namespace Go.Proofs.YtnigabjngpnbiabGreat
open Go.RowKit Go.Proofs.Tryz
set_option maxRecDepth 1000000
set_option maxHeartbeats 25600000
set_option linter.unusedVariables false
variable{p:Prop}
theorem RO.aj{P:Nat->Prop}{B:Nat}{w ab:World}{s:ai}{k:Nat}{fs:List ao}{f:ao}{N:Nat}{q:SV}{O lb lc:Nat}{hx b2:List Value}{IA:NH}{ic:Nat}{bC:NH}{aH:Nat}{F1 F2 a8:List Nat}(h:RO P B w s k fs f N q O lb lc hx b2 IA ic bC aH F1 F2 a8)(aF:Ext w ab):RO P B ab s k fs f N q O lb lc hx b2 IA ic bC aH F1 F2 a8:=by
 have aj:∀b,b<w.heap.size->ab.heap[b]?=w.heap[b]?:=λb O=>aF.block b O λh=>h;have ap:∀b∈N::O::lb::(F1++(F2++a8)),ab.heap[b]?=w.heap[b]?:=λb O=>aj b (h.lo b O).2;have aT:=(h.lo N (by simp))
 have n:∀b,P b->ab.heap[b]?=w.heap[b]?:=λb O=>aj b (ax (h.pb b O));refine {th:=h.th,gl:=h.gl,tl:=h.tl,hl:=h.hl,g:=h.g.ak λb O=>ap b (by simp[O]),t:=h.t.ak λb O=>ap b (by simp[O]),h:=h.h.ak λb O=>ap b (by simp[Nv.1 O]),m3:=h.m3,rH:=λj cT bi cc=>?_,Ao:=h.Ao,l:=h.l.ak λb O=>ap b (by simp[Nv.1 O]),fr:=D.bZ n _ _ h.fr,lk:=h.lk.ak n,IG:=h.IG,i:=h.i.ak λb O=>ap b (by simp[O]),o:=h.o.aj aF,nd:=h.nd,lo:=λb O=>⟨(h.lo b O).1,M0 (h.lo b O).2 aF.size⟩,pb:=h.pb};obtain⟨u,hu,ba⟩:=h.rH j cT bi cc;exact⟨u,hu,D.aO n _ _ ba⟩
namespace D2
theorem wC(h:p:=by
 rw[bZ.o];exact fw (B:=V.heap.size) bB.1 bj.2.drew (λb O=>⟨λhl=>by have:=H.o b hl;omega,ad⟩) (λb O=>by have:=H.o b O;omega) ad bj.1.drew (by rw[ek bW.2.1,List.set_set];rfl)
 ):p:=h
theorem c4(h:p:=by
 generalize hX:World.setCell _ _ _=Y;have l:=I.o;rw[hX] at l;have ar:=cP hX;have G:Ext V Y:=Fr.low (M:=λb=>b=T) (Fr.trans (Fr.mono y.2.1 λ_ h=>h.elim) ar) λb O=>ad;have bB:=ay l.is l.o (bO.trans G);have bl:=G.size;clear hX l ar G bs am aK d0 aQ aS e0 a6 ag c0 c1 c2 c3 J flb ab cW aD;exact wB
 ):p:=h
theorem BE(h:p:=by
 clear ca bV bs am aK;exact H7
 ):p:=h
theorem s5(h:p:=by
 clear ci cf bt;rcases cX.o with h|h
 all_goals
  first
   | have q1:(x.op == 1)=true:=by simpa using h
   | have q1:(x.op == 1)=false:=by simp;omega
  first
   | have cL:(x.op == 2)=true:=by simpa using h
   | have cL:(x.op == 2)=false:=by simp;omega
  first
   | have de:(x.op == 3)=true:=by simpa using h
   | have de:(x.op == 3)=false:=by simp;omega
  first
   | have dc:(x.op == 4)=true:=by simpa using h
   | have dc:(x.op == 4)=false:=by simp;omega
  first
   | have q5:(x.op == 5)=true:=by simpa using h
   | have q5:(x.op == 5)=false:=by simp;omega
  first
   | have dj:(x.op == 6)=true:=by simpa using h
   | have dj:(x.op == 6)=false:=by simp;omega
  first
   | have q7:(x.op == 7)=true:=by simpa using h
   | have q7:(x.op == 7)=false:=by simp;omega
  first
   | have dJ:(x.op == 8)=true:=by simpa using h
   | have dJ:(x.op == 8)=false:=by simp;omega
  have Q:=ae h;clear h;go_upto_region 12 with(fail);refine eJ (λ_=>False) [(0,3),(1,0),(2,3),(3,0),(4,3),(5,3),(6,3),(7,0),(8,2),(9,3),(10,3),(11,3),(12,3),(13,3)] ?_;refine pf ?_;refine ph ?_;refine pf ?_;refine ph ?_
  iterate 3 refine pf ?_
  refine ph ?_;refine au rfl (λK hK=>?_);go_simp;have bc:Ext X X.drew:=(Fr.refl _ X).drew;have cM:=aP.2.2.trans bc;have bM:(bo ex).rep X.drew (av X.drew) [eo,en,es,.slice EA em ec]:=by
   have:=(dy.on (aP.2.1.trans bc)).expr;rw[aE.2.1] at this;exact this
  obtain⟨cj,cy⟩:=i.G1 aE.1 (al.2.2.2.2.2.on cM).at_.g (aP.1.KE.on (Fr.ext bc)) bM;refine(ob ex X.drew bI ds bU f.ints.length bx cm s.globals f.ints _ _ _ _ cj cy).mono ?_;rintro e cO ⟨rfl,bE⟩;have cu:Ext X cO:=Fr.aF (Fr.of bE);have bQ:=ae (aP.2.2.trans cu);have dg:=b1.o;generalize ev s.globals f.ints ex=R at *;obtain⟨r,z⟩:=R;have n:=ae dg;have aT:=RO.aj aP.1 cu;have y:=ay aT (aP.2.1.trans cu) (aP.2.2.trans cu);have dI:=cu.size;clear dg bc cM bM cj cy bE cu a0 ak af bs am aK d0 aQ aS e0 a6 ag c0 c1 c2 c3 J flb ab;obtain⟨bs,am,aK⟩:=(al.2.2.1.aj bQ.o).two;obtain⟨d0,aQ,aS⟩:=(b4.aj y.2.1).two;obtain⟨e0,a6,ag⟩:=aT.o.two;obtain⟨bS,bD,flb,ab,J,c0,c1,c2,c3,bR⟩:=aT.top;clear aT;refine dY hK ?_;clear hK K
  iterate 5 refine pf ?_
  refine aG ?_;by_cases aI:z=0
  case neg=>
   have cA:(z != 0)=true:=by simpa using aI
   have bZ:=ae (n.bad aI);exact BD
  have cA:(z != 0)=false:=by simpa using aI
  have bb:=ae aI;clear aI
 ·
  cases aR:x.du with
  | true=>
   have bZ:=ae (n.gl bb.o Q.o aR);rw[aR] at d0;have co:=aE.2.2.1 Q.o aR;have bz:=aE.2.2.2.2;have ax:=y.1.gl;simp only at ax;have cF:x.target<(ct:Int):=ad;obtain⟨ck,bA,da,cW,⟨bH,aD⟩,cJ,b3,aj⟩:=y.1.du (j:=x.target.toNat) (by show x.target.toNat<ct;omega);simp only at bA;subst bA;have I:=ae (aj r);clear co bz ax aj aR;go_upto_region 45 with(fail);generalize hX:World.setCell _ _ _=Y;have l:=I.o;rw[hX] at l;have ar:=cP hX;have G:Ext V Y:=Fr.low (M:=λb=>b=ck) (Fr.trans (Fr.mono y.2.1 λ_ h=>h.elim) ar) λb O=>ad;have bB:=ay l.is l.o (bO.trans G);have bl:=G.size;clear hX l ar G bs am aK d0 aQ aS e0 a6 ag c0 c1 c2 c3 J flb ab cW aD;have a3:=ah (al.2.2.2.1.aj bB.2.2) (al.1.trans bB.2.2);have c9:=bB.2.2.size;obtain⟨bq,a1,a5⟩:=a3.1.two;obtain⟨e0,a6,ag⟩:=bB.2.1.two;go_wp2_with(fail);generalize hX:World.setCell _ _ _=Z;obtain⟨bm,bd,a4⟩:=a9 (w:=w) [.slice (some ⟨ck,0,none⟩) ct L,.slice br m S,.slice (some ⟨O,0,none⟩) bk a7,.int .i64 s.fault] (by rfl) a3.1 a3.2 ad hX;have bj:=ah bd a4;clear hX bd a4 bq a1 a5 e0 a6 ag;obtain⟨bq,a1,a5⟩:=bm.two;refine NB (v:=.tuple #[.agg #[.slice (some ⟨ck,0,none⟩) ct L,.slice br m S,.slice (some ⟨O,0,none⟩) bk a7,.int .i64 s.fault],true]) (by simp[results,Tryz.results51,go_sem,bq]) rfl ?_
   exact Et
  | false=>
   have bZ:=ae (n.lo bb.o Q.o aR);rw[aR] at d0;have aa:=aE.2.2.2.1 Q.o aR;have cb:x.target<((next f).ints.length:Int):=aa;obtain⟨T,bC,da,cW,⟨bH,aD⟩,cJ,b3,hints⟩:=y.1.ints (j:=x.target.toNat) (by show x.target.toNat<f.ints.length;omega);subst bC;have I:=ae (hints r);clear hints aR;go_upto_region 20 with(fail);exact CD
 ·
  by_cases ba:r=0
  .have Gt:(r == 0)=true:=by simpa using ba
   have bZ:=ae (n.bz bb.o Q.o ba);clear ba;go_upto_region 45 with(fail);generalize hX:World.setCell _ _ _=Y;have l:=y.1.pc x.target;rw[hX] at l;have ar:=cP hX;have G:Ext V Y:=Fr.low (M:=λb=>b=lb) (Fr.trans (Fr.mono y.2.1 λ_ h=>h.elim) ar) λb O=>ad;have bB:=ay l.is l.o (bO.trans G);have bl:=G.size;clear hX l ar G bs am aK d0 aQ aS e0 a6 ag c0 c1 c2 c3 J flb ab;exact H4
  .have Gt:(r == 0)=false:=by simpa using ba
   have bZ:=ae (n.bn bb.o Q.o ba);clear ba;have bB:=ay y.1.is y.1.o y.2.2;clear e0 a6 ag c0 c1 c2 c3 J flb ab;have a3:=ah (al.2.2.2.1.aj bB.2.2) (al.1.trans bB.2.2);have c9:=bB.2.2.size;obtain⟨bq,a1,a5⟩:=a3.1.two;obtain⟨e0,a6,ag⟩:=bB.2.1.two;go_wp2_with(fail);generalize hX:World.setCell _ _ _=Z;obtain⟨bm,bd,a4⟩:=a9 (w:=w) [.slice aW ct L,.slice br m S,.slice (some ⟨O,0,none⟩) bk a7,.int .i64 s.fault] (by rfl) a3.1 a3.2 ad hX;have bj:=ah bd a4;clear hX bd a4 bq a1 a5 e0 a6 ag;obtain⟨bq,a1,a5⟩:=bm.two;refine NB (v:=.tuple #[.agg #[.slice aW ct L,.slice br m S,.slice (some ⟨O,0,none⟩) bk a7,.int .i64 s.fault],true]) (by simp[results,Tryz.results51,go_sem,bq]) rfl ?_;exact Et
 ):p:=h
theorem s7(h:p:=by
 exact s4
 ):p:=h
theorem B9(h:p:=by
 have b1:=ae (LU (u:=u) (s:=s) (t:=t) (f:=f) hex cp);have aZ:=h.hS.du;have aE:=cQ bi hex bF aY aZ;clear aN hlen bi hex bF aY aZ;exact s6
 ):p:=h
theorem s9(h:p:=by
 exact B8
 ):p:=h
end D2
open D2 in
theorem rb(u:aw)(s:ai)(t:Int)(f:ao)(cq:cR)(x:aA)(N:Nat)(P:Nat->Prop)(w:World)(p:UV)(q:SV)(h:jJ u s t f cq x N)(hN:N<=100000)(cp:x.op=1\/x.op=6)(hu:p.Ok w u)(bn:q.Is w P s)(bh:∀b,P b->b<w.heap.size) :
  Calls prog 51 #[.agg (p.val u),.agg (q.val s),t] w (dd P w (b5 u s t f x).1 (b5 u s t f x).2):=by
 exact s8
end Go.Proofs.YtnigabjngpnbiabGreat

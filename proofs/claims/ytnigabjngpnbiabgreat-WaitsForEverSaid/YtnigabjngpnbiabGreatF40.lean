/- Part 40. No condition. -/
import Derived.Test.YtnigabjngpnbiabGreatF31
import Derived.Test.YtnigabjngpnbiabGreatF39
namespace Go.Proofs.YtnigabjngpnbiabGreat
open Go.RowKit Go.Proofs.Tryz
set_option maxRecDepth 1000000
set_option maxHeartbeats 25600000
set_option linter.unusedVariables false
variable{p:Prop}
namespace D4
theorem wC(h:p:=by
 rw[bZ.o];exact fw (B:=V.heap.size) bB.1 bj.2 (λb O=>⟨λhl=>by have:=H.o b hl;omega,ad⟩) (λb O=>by have:=H.o b O;omega) ad bj.1 (by rw[vw bW.2.1])
 ):p:=h
theorem c4(h:p:=by
 generalize bo:World.setCell _ _ _=dC;obtain⟨cw,bR⟩:=y.1.push dX.1 (λb hm=>⟨(dX.2 b hm).1,(dX.2 b hm).2.1,(dX.2 b hm).2.2.1,(dX.2 b hm).2.2.2.1⟩) I.1 I.2.1 I.2.2 bo;have cM:Fr (λb=>b=lb\/b=O) A dC:=by
  rw[<-bo];exact Fr.setCell (Fr.mono I.2.1 λ_ h=>.inl h) (.inl (.inr rfl)) _
 have bS:=(aP.1.lo O (by simp)).1;have G:Ext V dC:=Fr.low (M:=λb=>b=lb\/b=O) (Fr.trans (Fr.mono y.2.1 λ_ h=>h.elim) cM) λb O=>by rcases O with O|O<;>omega
 have bB:=ay cw bR (bO.trans G);have bl:=G.size;clear bo cw bR cM G cj cB dx dW;exact wB
 ):p:=h
theorem s5(h:p:=by
 clear ci cf bt;rcases cX.o with h|h
 all_goals
  first
   | have q1:(x.op == 1)=true:=by simpa using h
   | have q1:(x.op == 1)=false:=by simp;omega
  first
   | have cL:(x.op == 2)=true:=by simpa using h
   | have cL:(x.op == 2)=false:=by simp;omega
  first
   | have de:(x.op == 3)=true:=by simpa using h
   | have de:(x.op == 3)=false:=by simp;omega
  first
   | have dc:(x.op == 4)=true:=by simpa using h
   | have dc:(x.op == 4)=false:=by simp;omega
  first
   | have q5:(x.op == 5)=true:=by simpa using h
   | have q5:(x.op == 5)=false:=by simp;omega
  first
   | have dj:(x.op == 6)=true:=by simpa using h
   | have dj:(x.op == 6)=false:=by simp;omega
  first
   | have q7:(x.op == 7)=true:=by simpa using h
   | have q7:(x.op == 7)=false:=by simp;omega
  first
   | have dJ:(x.op == 8)=true:=by simpa using h
   | have dJ:(x.op == 8)=false:=by simp;omega
  have cG:=ae h;clear h;go_wp2_with(fail);refine(vz u s t f cq x N X ⟨GA,gn,gc,MA,mn,mc,PA,pn,pc⟩ ⟨bI,bU,bx,TA,tn,tc,HA,hn,hc⟩ ⟨eo,en,es,EA,em,ec,QA,qm,qc,dl,j,dh,KA,di,kc⟩ i.o cX.o (al.2.2.2.2.1.on aP.2.2) (al.2.2.2.2.2.on aP.2.2) (dy.on aP.2.1)).mono ?_;rintro e cO ⟨aV,ba,FA,dL,da,dK,fl,db,z,rfl,cu,cS,df,az⟩;have ac:=ae (LP (u:=u) (s:=s) (t:=t) (f:=f) (x:=x) cX.o);have bQ:=ae cu;clear cu;generalize cW s.globals f.ints x.ints=aa at *;generalize b3 u s f x.places=bb at *;obtain⟨dN,aY⟩:=aa;obtain⟨bi,bz⟩:=bb;clear a0 ak af bs am aK d0 aQ aS e0 a6 ag c0 c1 c2 c3 J flb ab bu k ce;by_cases aI:aY=0
  case neg=>
   obtain rfl:=cS aI;have bZ:=ae (ac.Ku aI);have Gt:(z == 0)=false:=by simpa using aI
   have KU:(z != 0)=true:=by simpa using aI
   clear aI cS df az ac;exact HZ
  by_cases Q:bz=0
  case neg=>
   obtain rfl:=df aI Q;have bZ:=ae (ac.Kv aI Q);have Gt:(z == 0)=false:=by simpa using Q
   have KU:(z != 0)=true:=by simpa using Q
   clear aI Q cS df az ac;exact HZ
  obtain⟨rfl,bD⟩:=az aI Q;generalize bE:dt u x.target dN bi=R at *
 ·
  have bZ:=ae (ac.call aI Q cG.o);rw[bE] at bZ;have bc:=ae bD;clear aI Q cS df az ac bE bD;go_upto_region 24 with(fail);generalize bF:World.alloc _ _=A;have l:=aX bF;have n:=aL bF;have r:=bQ.trans l;have y:=ay (RO.aj aP.1 r) (aP.2.1.trans r) (aP.2.2.trans r);have av:=ah n l;have aT:=l.size;have dI:=bQ.size;have Y:=ae y.2.2;clear bF l r;obtain⟨bs,am,aK⟩:=(al.2.2.1.aj y.2.2).two;obtain⟨d0,aQ,aS⟩:=(b4.aj y.2.1).two;obtain⟨e0,a6,ag⟩:=y.1.o.two;obtain⟨bu,k,flb,ab,J,c0,c1,c2,c3,ce⟩:=y.1.top;obtain⟨f0,cH,dS⟩:=n.two;clear n;have ar:(gP R).rep A (fresh X cO) [aV,ba,.slice FA dL da,.slice dK fl db]:=D.aO (λb O=>av.2.block b O.2 λh=>h) _ _ bc.o;have T:=aP.1.lo;have dg:∀b,fresh X cO b->V.heap.size<=b/\b<A.heap.size/\b≠O/\b≠lb/\b≠b6.heap.size:=λb aZ=>⟨by have:=aZ.1;omega,by have:=aZ.2;omega,λhe=>by have:=(T O (by simp)).2;have:=aZ.1;omega,λhe=>by have:=(T lb (by simp)).2;have:=aZ.1;omega,λhe=>by have:=(T b6 (by simp)).2;have:=aZ.1;omega⟩
  have dX:=ah ar dg;clear ar dg T;have dp:=cr;obtain⟨bC,bH,bM,-,-⟩:=y.1.sep;have c8:=y.1.l;have dq:=ae c8;have dZ:cO≠lb:=by have:=(aP.1.lo lb (by simp)).2;omega
  have dE:b6≠lb:=bH;have aj:O≠lb:=bM;clear c8;go_upto_region 29 with(fail);refine eJ (λb=>b=lb) [(0,3),(1,0),(2,3),(3,3),(4,0),(5,1),(6,1),(7,3),(8,3),(9,2)] ?_;refine pf ?_;refine oP ?_
  iterate 2 refine pf ?_
  refine oP ?_;refine rS ?_;refine qW (λaU=>Ext A aU/\an aU A 77 #[aV,ba,.slice FA dL da,.slice dK fl db]/\aU.heap.size=A.heap.size+1) ⟨by first|exact((Fr.refl _ A).drew).alloc _|exact((Fr.refl _ A).alloc _).drew,by first|exact ND|exact an.new A.drew _ _,by simp⟩ (λck bg=>?_);have aB:=ae bg;clear bg;refine aE rfl (λK hK=>?_);rw[if_pos (by rfl)];refine zk yB (.tmp 161) (.tmp 163) rfl (dq.aj aB.1) aB.2.1 rfl rfl rfl (by simp[Value.oneCell']) ad ad ?_;intro A2 b1 cJ cd g2 cA;have cM:Fr (λb=>b=lb) ck cJ:=g2.mono λb O=>Nv.1 O;refine dB hK (cM) ?_;clear hK K;have aR:Fr (λb=>b=lb) A cJ:=Fr.trans (aB.1.mono λ_ h=>h.elim) cM;have I:=ay cd aR (λb O=>(cA b O).imp (λh=>Nv.1 h) (λh=>(⟨by have:=aB.2.2;omega,h.2⟩:A.heap.size<=b/\b<cJ.heap.size)));have cj:=(aR.cell (j:=t.toNat) k aj).trans J;have cB:∀j,cJ.frozen? ⟨O,j,none⟩=false:=λj=>(aR.frozen k aj).trans (ab j);have dx:=aR.size;clear cd g2 cA cM aR e0 a6 ag f0 cH dS d0 aQ aS bs am aK c0 c1 c2 c3 J flb ab;exact CK
 ·
  have cF:=ah (ac.many aI Q cG.o) (ac.go aI Q cG.o);rw[bE] at cF;have bc:=ae bD;clear aI Q cS df az ac bE bD;by_cases aD:32<=hn
  .have ch:decide ((hn:Int)>=32)=true:=by simpa using (by omega:(32:Int)<=(hn:Int))
   have bZ:=ae (cF.1 (by rw[<-bW.2.2.2.2];exact aD));clear aD cF;go_upto_region 24 with(fail);generalize bF:World.alloc _ _=A;have l:=aX bF;have n:=aL bF;have r:=bQ.trans l;have y:=ay (RO.aj aP.1 r) (aP.2.1.trans r) (aP.2.2.trans r);have av:=ah n l;have aT:=l.size;have dI:=bQ.size;have Y:=ae y.2.2;clear bF l r;obtain⟨bs,am,aK⟩:=(al.2.2.1.aj y.2.2).two;obtain⟨d0,aQ,aS⟩:=(b4.aj y.2.1).two;obtain⟨e0,a6,ag⟩:=y.1.o.two;obtain⟨bu,k,flb,ab,J,c0,c1,c2,c3,ce⟩:=y.1.top;obtain⟨f0,cH,dS⟩:=n.two;clear n;have dk:=Y.size;go_wp2_with(fail);refine(pK P s ⟨bI,bU,bx,TA,tn,tc,HA,hn,hc⟩ 4 A (cc.2.2.IF H.o (al.1.trans Y.o)) (λb O=>M0 (H.o b O) (al.1.trans Y.o).size)).mono ?_;rintro e cV ⟨⟨dG,bJ,b7,dn,cz,bp,bY,cE,b8⟩,rfl,ca,bV⟩;have f2:=bV.size;have cT:=ae ca;have a3:=ah (al.2.2.2.1.aj (Y.trans bV)) ((al.1.trans Y.o).trans bV);clear ca bV f0 cH dS d0 aQ aS e0 a6 ag c0 c1 c2 c3 J flb ab bu k ce bs am aK;obtain⟨bq,a1,a5⟩:=a3.1.two;go_wp2_with(fail);generalize hX:World.setCell _ _ _=Z;obtain⟨bm,bd,a4⟩:=a9 (w:=w) [.slice dG bJ b7,.slice dn cz bp,.slice bY cE b8,(4:Int)] (by rfl) a3.1 a3.2 ad hX;have bj:=ah bd a4;clear hX bd a4 bq a1 a5;obtain⟨bq,a1,a5⟩:=bm.two;refine NB (v:=.tuple #[.agg #[.slice dG bJ b7,.slice dn cz bp,.slice bY cE b8,(4:Int)],true]) (by simp[results,Tryz.results51,go_sem,bq]) rfl ?_;rw[bZ.o];exact fw (B:=A.heap.size) (aq:={s with fault:=4}) cT.o bj.2 (λb O=>⟨λhl=>by have:=H.o b hl;omega,ad⟩) (λb O=>by have:=H.o b O;omega) ad bj.1 rfl
  .have ch:decide ((hn:Int)>=32)=false:=by simp;omega
   have bZ:=ae (cF.2 (by rw[<-bW.2.2.2.2];exact aD));have bA:=bW.2.2.2.2;clear aD cF;go_upto_region 24 with(fail);generalize bF:World.alloc _ _=A;have l:=aX bF;have n:=aL bF;have r:=bQ.trans l;have y:=ay (RO.aj aP.1 r) (aP.2.1.trans r) (aP.2.2.trans r);have av:=ah n l;have aT:=l.size;have dI:=bQ.size;have Y:=ae y.2.2;clear bF l r;obtain⟨bs,am,aK⟩:=(al.2.2.1.aj y.2.2).two;obtain⟨d0,aQ,aS⟩:=(b4.aj y.2.1).two;obtain⟨e0,a6,ag⟩:=y.1.o.two;obtain⟨bu,k,flb,ab,J,c0,c1,c2,c3,ce⟩:=y.1.top;obtain⟨f0,cH,dS⟩:=n.two;clear n;have ar:(gP R).rep A (fresh X cO) [aV,ba,.slice FA dL da,.slice dK fl db]:=D.aO (λb O=>av.2.block b O.2 λh=>h) _ _ bc.o;have T:=aP.1.lo;have dg:∀b,fresh X cO b->V.heap.size<=b/\b<A.heap.size/\b≠O/\b≠lb/\b≠b6.heap.size:=λb aZ=>⟨by have:=aZ.1;omega,by have:=aZ.2;omega,λhe=>by have:=(T O (by simp)).2;have:=aZ.1;omega,λhe=>by have:=(T lb (by simp)).2;have:=aZ.1;omega,λhe=>by have:=(T b6 (by simp)).2;have:=aZ.1;omega⟩
   have dX:=ah ar dg;clear ar dg T;have ax:=y.1.hl;simp only[List.length_set] at ax;have cb:bk<=1000:=ad;clear ax bA;obtain⟨bC,bH,bM,-,-⟩:=y.1.sep;have c8:=y.1.h.aj ((Fr.refl _ A).alloc (.cells #[aV,ba,.slice FA dL da,.slice dK fl db] 77));have aN:=y.1.o.aj ((Fr.refl _ A).alloc (.cells #[aV,ba,.slice FA dL da,.slice dK fl db] 77));have dq:=ah c8 aN;clear c8 aN;go_upto_region 45 with(at_builtin;refine nB tk rfl (.tmp 168) (.tmp 172) rfl dq.1 (cs:=#[.slice (some ⟨A.heap.size,0,none⟩) 1 1]) rfl rfl (by simp) rfl (by simp[Value.oneCell']) (by simp only;omega) (by simp only;omega) ?_;intro A2 b1 cJ cd g2 cA;have c6:=g2.mono (M':=λb=>b=O) (λb hm=>Nv.1 hm);have cy:=dq.2.on c6 bC;have I:=ay cd c6 cA;clear cd g2 cA c6 e0 a6 ag f0 cH dS d0 aQ aS bs am aK;obtain⟨e0,a6,ag⟩:=cy.two;clear cy);generalize bo:World.setCell _ _ _=dC;obtain⟨cw,bR⟩:=y.1.start dX.1 (λb hm=>⟨(dX.2 b hm).1,(dX.2 b hm).2.1,(dX.2 b hm).2.2.1,(dX.2 b hm).2.2.2.2⟩) rfl I.1 I.2.1 (λb hm=>(I.2.2 b hm).imp (λh=>Nv.1 h) id) bo;have cM:Fr (λb=>b=O\/b=b6.heap.size) A dC:=by
    rw[<-bo];exact Fr.setCell (Fr.trans ((Fr.refl _ A).alloc _) (Fr.mono I.2.1 λ_ h=>.inl h)) (.inl (.inr rfl)) _
   have bS:=(aP.1.lo O (by simp)).1;have dF:=(aP.1.lo b6 (by simp)).1;have G:Ext V dC:=Fr.low (M:=λb=>b=O\/b=b6.heap.size) (Fr.trans (Fr.mono y.2.1 λ_ h=>h.elim) cM) λb O=>by rcases O with O|O<;>omega
   have bB:=ay cw bR (bO.trans G);have bl:=G.size;clear bo cw bR cM G e0 a6 ag c0 c1 c2 c3 J flb ab;have a3:=ah (al.2.2.2.1.aj bB.2.2) (al.1.trans bB.2.2);have c9:=bB.2.2.size;obtain⟨bq,a1,a5⟩:=a3.1.two;obtain⟨e0,a6,ag⟩:=bB.2.1.two;go_wp2_with(fail);generalize hX:World.setCell _ _ _=Z;obtain⟨bm,bd,a4⟩:=a9 (w:=w) [.slice aW ct L,.slice br m S,.slice A2 (bk+1) b1,.int .i64 s.fault] (by rfl) a3.1 a3.2 ad hX;have bj:=ah bd a4;clear hX bd a4 bq a1 a5 e0 a6 ag;obtain⟨bq,a1,a5⟩:=bm.two;refine NB (v:=.tuple #[.agg #[.slice aW ct L,.slice br m S,.slice A2 (bk+1) b1,.int .i64 s.fault],true]) (by simp[results,Tryz.results51,go_sem,bq]) rfl ?_;exact Et
 ):p:=h
theorem s7(h:p:=by
 exact s4
 ):p:=h
theorem s9(h:p:=by
 exact s6
 ):p:=h
end D4
open D4 in
theorem ra(u:aw)(s:ai)(t:Int)(f:ao)(cq:cR)(x:aA)(N:Nat)(P:Nat->Prop)(w:World)(p:UV)(q:SV)(h:jJ u s t f cq x N)(hN:N<=100000)(cp:x.op=2\/x.op=3)(hu:p.Ok w u)(bn:q.Is w P s)(bh:∀b,P b->b<w.heap.size) :
  Calls prog 51 #[.agg (p.val u),.agg (q.val s),t] w (dd P w (b5 u s t f x).1 (b5 u s t f x).2):=by
 exact s8
end Go.Proofs.YtnigabjngpnbiabGreat

/- Part 29 of the proof. No condition of its own. -/
import Derived.Test.YtnigabjngpnbiaaGreatQ27
import Derived.Test.YtnigabjngpnbiaaGreatQ28
namespace Go.Proofs.YtnigabjngpnbiaaGreat
open Go.RowKit Go.Proofs.Tryz
set_option maxRecDepth 1000000
set_option maxHeartbeats 25600000
set_option linter.unusedVariables false
variable{p:Prop}
namespace Cc
theorem tu(h:p:=by
 rw[b6.o];exact eE (B:=V.heap.size) bw.1 bn.2 (λb O=>⟨λhl=>by have:=G.o b hl;omega,ad⟩) (λb O=>by have:=G.o b O;omega) ad bn.1 (by rw[sK br.2.1])
 ):p:=h
theorem eI(h:p:=by
 generalize aV:World.setCell _ _ _=dE;obtain⟨cp,bE⟩:=H.1.push cF.1 (λb hm=>⟨(cF.2 b hm).1,(cF.2 b hm).2.1,(cF.2 b hm).2.2.1,(cF.2 b hm).2.2.2.1⟩) cO.1 cO.2.1 cO.2.2 aV;have cD:Fr (λb=>b=lb\/b=O) A dE:=by
  rw[<-aV];exact Fr.setCell (Fr.mono cO.2.1 λ_ h=>.inl h) (.inl (.inr rfl)) _
 have cl:=(aJ.1.lo O (by simp)).1;have i:Ext V dE:=Fr.low (M:=λb=>b=lb\/b=O) (Fr.trans (Fr.mono H.2.1 λ_ h=>h.elim) cD) λb O=>by rcases O with O|O<;>omega
 have bw:=av cp bE (b9.trans i);have aK:=i.size;clear aV cp bE cD i db bt dH d8;exact tt
 ):p:=h
theorem qS(h:p:=by
 clear cX ch ca;rcases dp.o with h|h
 all_goals
  first
   | have q1:(x.op == 1)=true:=by simpa using h
   | have q1:(x.op == 1)=false:=by simp;omega
  first
   | have cM:(x.op == 2)=true:=by simpa using h
   | have cM:(x.op == 2)=false:=by simp;omega
  first
   | have c7:(x.op == 3)=true:=by simpa using h
   | have c7:(x.op == 3)=false:=by simp;omega
  first
   | have c8:(x.op == 4)=true:=by simpa using h
   | have c8:(x.op == 4)=false:=by simp;omega
  first
   | have q5:(x.op == 5)=true:=by simpa using h
   | have q5:(x.op == 5)=false:=by simp;omega
  first
   | have dl:(x.op == 6)=true:=by simpa using h
   | have dl:(x.op == 6)=false:=by simp;omega
  first
   | have q7:(x.op == 7)=true:=by simpa using h
   | have q7:(x.op == 7)=false:=by simp;omega
  first
   | have dF:(x.op == 8)=true:=by simpa using h
   | have dF:(x.op == 8)=false:=by simp;omega
  have cL:=ae h;clear h;go_wp2_with(fail);refine(sM u s t f cc x N X ⟨GA,gn,gc,MA,mn,mc,PA,pn,pc⟩ ⟨bP,cg,bQ,TA,tn,tc,HA,hn,hc⟩ ⟨eo,en,es,EA,em,ec,QA,qm,qc,dg,j,dh,KA,de,kc⟩ l.o dp.o (ab.2.2.2.2.1.on aJ.2.2) (ab.2.2.2.2.2.on aJ.2.2) (dC.on aJ.2.1)).mono ?_;rintro e cE ⟨aE,aW,FA,ds,aZ,dB,fl,b1,z,rfl,aA,cB,cm,aq⟩;have T:=ae (IM (u:=u) (s:=s) (t:=t) (f:=f) (x:=x) dp.o);have b4:=ae aA;clear aA;generalize cz s.globals f.ints x.ints=aa at *;generalize bS u s f x.places=bb at *;obtain⟨dO,aH⟩:=aa;obtain⟨bi,bz⟩:=bb;clear a0 al af b0 am aw d0 aQ aR e0 bl bm c0 c1 c2 c3 J flb Q a8 k aT;by_cases aS:aH=0
  case neg=>
   obtain rfl:=cB aS;have b6:=ae (T.Hn aS);have DT:(z == 0)=false:=by simpa using aS
   have HL:(z != 0)=true:=by simpa using aS
   clear aS cB cm aq T;exact Fj
  by_cases I:bz=0
  case neg=>
   obtain rfl:=cm aS I;have b6:=ae (T.Ho aS I);have DT:(z == 0)=false:=by simpa using I
   have HL:(z != 0)=true:=by simpa using I
   clear aS I cB cm aq T;exact Fj
  obtain⟨rfl,bY⟩:=aq aS I;generalize cI:cU u x.target dO bi=R at *
 ·
  have b6:=ae (T.call aS I cL.o);rw[cI] at b6;have a1:=ae bY;clear aS I cB cm aq T cI bY;go_upto_region 24 with(fail);generalize bu:World.alloc _ _=A;have n:=aY bu;have bs:=aF bu;have r:=b4.trans n;have H:=av (RO.aj aJ.1 r) (aJ.2.1.trans r) (aJ.2.2.trans r);have ap:=ak bs n;have be:=n.size;have dI:=b4.size;have aj:=ae H.2.2;clear bu n r;obtain⟨b0,am,aw⟩:=(ab.2.2.1.aj H.2.2).two;obtain⟨d0,aQ,aR⟩:=(bN.aj H.2.1).two;obtain⟨e0,bl,bm⟩:=H.1.o.two;obtain⟨a8,k,flb,Q,J,c0,c1,c2,c3,aT⟩:=H.1.top;obtain⟨f0,cQ,cV⟩:=bs.two;clear bs;have L:(dP R).rep A (fresh X cE) [.int .i64 aE,.int .i64 aW,.slice FA ds aZ,.slice dB fl b1]:=D.aD (λb O=>ap.2.block b O.2 λh=>h) _ _ a1.o;have Y:=aJ.1.lo;have bO:∀b,fresh X cE b->V.heap.size<=b/\b<A.heap.size/\b≠O/\b≠lb/\b≠bV.heap.size:=λb aN=>⟨by have:=aN.1;omega,by have:=aN.2;omega,λhe=>by have:=(Y O (by simp)).2;have:=aN.1;omega,λhe=>by have:=(Y lb (by simp)).2;have:=aN.1;omega,λhe=>by have:=(Y bV.heap.size (by simp)).2;have:=aN.1;omega⟩
  have cF:=ak L bO;clear L bO Y;have du:=b3;obtain⟨bB,ce,cj,-,-⟩:=H.1.sep;have bd:=H.1.l;have dt:=ae bd;have d4:cE.heap.size≠lb:=by have:=(aJ.1.lo lb (by simp)).2;omega
  have dL:bV.heap.size≠lb:=ce;have ao:O≠lb:=cj;clear bd;go_upto_region 29 with(fail);refine fj (λb=>b=lb) [(0,3),(1,0),(2,3),(3,3),(4,0),(5,1),(6,1),(7,3),(8,3),(9,2)] ?_;refine pf ?_;refine pK ?_
  iterate 2 refine pf ?_
  refine pK ?_;refine sG ?_;refine k8 (λbc=>Ext A bc/\au bc A.heap.size 59 #[.int .i64 aE,.int .i64 aW,.slice FA ds aZ,.slice dB fl b1]/\bc.heap.size=A.heap.size+1) ⟨by first|exact((Fr.refl _ A).drew).alloc _|exact((Fr.refl _ A).alloc _).drew,by first|exact Kg|exact au.new A.drew _ _,by simp⟩ (λdd bp=>?_);have aD:=ae bp;clear bp;refine aP rfl (λK hK=>?_);rw[if_pos (by rfl)];refine wO vS (.tmp 161) (.tmp 163) rfl (dt.aj aD.1) aD.2.1 rfl rfl rfl (by simp[Value.oneCell']) ad ad ?_;intro bg cN cJ bX g2 cv;have cD:Fr (λb=>b=lb) dd cJ:=g2.mono λb O=>J9.1 O;refine gu hK (cD) ?_;clear hK K;have ac:Fr (λb=>b=lb) A cJ:=Fr.trans (aD.1.mono λ_ h=>h.elim) cD;have cO:=av bX ac (λb O=>(cv b O).imp (λh=>J9.1 h) (λh=>(⟨by have:=aD.2.2;omega,h.2⟩:A.heap.size<=b/\b<cJ.heap.size)));have db:=(ac.cell (j:=t.toNat) k ao).trans J;have bt:∀j,cJ.frozen? ⟨O,j,none⟩=false:=λj=>(ac.frozen k ao).trans (Q j);have dH:=ac.size;clear bX g2 cv cD ac e0 bl bm f0 cQ cV d0 aQ aR b0 am aw c0 c1 c2 c3 J flb Q;exact Az
 ·
  have c6:=ak (T.many aS I cL.o) (T.go aS I cL.o);rw[cI] at c6;have a1:=ae bY;clear aS I cB cm aq T cI bY;by_cases bv:32<=hn
  .have cA:decide ((hn:Int)>=32)=true:=by simpa using (by omega:(32:Int)<=(hn:Int))
   have b6:=ae (c6.1 (by rw[<-br.2.2.2.2];exact bv));clear bv c6;go_upto_region 24 with(fail);generalize bu:World.alloc _ _=A;have n:=aY bu;have bs:=aF bu;have r:=b4.trans n;have H:=av (RO.aj aJ.1 r) (aJ.2.1.trans r) (aJ.2.2.trans r);have ap:=ak bs n;have be:=n.size;have dI:=b4.size;have aj:=ae H.2.2;clear bu n r;obtain⟨b0,am,aw⟩:=(ab.2.2.1.aj H.2.2).two;obtain⟨d0,aQ,aR⟩:=(bN.aj H.2.1).two;obtain⟨e0,bl,bm⟩:=H.1.o.two;obtain⟨a8,k,flb,Q,J,c0,c1,c2,c3,aT⟩:=H.1.top;obtain⟨f0,cQ,cV⟩:=bs.two;clear bs;have dc:=aj.size;go_wp2_with(fail);refine(nC P s ⟨bP,cg,bQ,TA,tn,tc,HA,hn,hc⟩ 4 A (bR.2.2.FZ G.o (ab.1.trans aj.o)) (λb O=>JJ (G.o b O) (ab.1.trans aj.o).size)).mono ?_;rintro e cy ⟨⟨dD,cW,cx,bI,bZ,bT,bK,bj,ck⟩,rfl,b2,b5⟩;have dj:=b5.size;have cT:=ae b2;have a2:=ak (ab.2.2.2.1.aj (aj.trans b5)) ((ab.1.trans aj.o).trans b5);clear b2 b5 f0 cQ cV d0 aQ aR e0 bl bm c0 c1 c2 c3 J flb Q a8 k aT b0 am aw;obtain⟨bh,an,aM⟩:=a2.1.two;go_wp2_with(fail);generalize hX:World.setCell _ _ _=Z;obtain⟨bq,a5,a4⟩:=bk (w:=w) [.slice dD cW cx,.slice bI bZ bT,.slice bK bj ck,.int .i64 4] (by rfl) a2.1 a2.2 ad hX;have bn:=ak a5 a4;clear hX a5 a4 bh an aM;obtain⟨bh,an,aM⟩:=bq.two;refine Ke (v:=.tuple #[.agg #[.slice dD cW cx,.slice bI bZ bT,.slice bK bj ck,.int .i64 4],.bool true]) (by simp[results,Tryz.results29,go_sem,bh]) rfl ?_;rw[b6.o]
   exact eE (B:=A.heap.size) (aB:={s with fault:=4}) cT.o bn.2 (λb O=>⟨λhl=>by have:=G.o b hl;omega,ad⟩) (λb O=>by have:=G.o b O;omega) ad bn.1 rfl
  .have cA:decide ((hn:Int)>=32)=false:=by simp;omega
   have b6:=ae (c6.2 (by rw[<-br.2.2.2.2];exact bv));have bA:=br.2.2.2.2;clear bv c6;go_upto_region 24 with(fail);generalize bu:World.alloc _ _=A;have n:=aY bu;have bs:=aF bu;have r:=b4.trans n;have H:=av (RO.aj aJ.1 r) (aJ.2.1.trans r) (aJ.2.2.trans r);have ap:=ak bs n;have be:=n.size;have dI:=b4.size;have aj:=ae H.2.2;clear bu n r;obtain⟨b0,am,aw⟩:=(ab.2.2.1.aj H.2.2).two;obtain⟨d0,aQ,aR⟩:=(bN.aj H.2.1).two;obtain⟨e0,bl,bm⟩:=H.1.o.two;obtain⟨a8,k,flb,Q,J,c0,c1,c2,c3,aT⟩:=H.1.top;obtain⟨f0,cQ,cV⟩:=bs.two;clear bs;have L:(dP R).rep A (fresh X cE) [.int .i64 aE,.int .i64 aW,.slice FA ds aZ,.slice dB fl b1]:=D.aD (λb O=>ap.2.block b O.2 λh=>h) _ _ a1.o;have Y:=aJ.1.lo;have bO:∀b,fresh X cE b->V.heap.size<=b/\b<A.heap.size/\b≠O/\b≠lb/\b≠bV.heap.size:=λb aN=>⟨by have:=aN.1;omega,by have:=aN.2;omega,λhe=>by have:=(Y O (by simp)).2;have:=aN.1;omega,λhe=>by have:=(Y lb (by simp)).2;have:=aN.1;omega,λhe=>by have:=(Y bV.heap.size (by simp)).2;have:=aN.1;omega⟩
   have cF:=ak L bO;clear L bO Y;have a6:=H.1.hl;simp only[List.length_set] at a6;have cw:cd<=1000:=ad;clear a6 bA;obtain⟨bB,ce,cj,-,-⟩:=H.1.sep;have bd:=H.1.h.aj ((Fr.refl _ A).alloc (.cells #[.int .i64 aE,.int .i64 aW,.slice FA ds aZ,.slice dB fl b1] 59));have cZ:=H.1.o.aj ((Fr.refl _ A).alloc (.cells #[.int .i64 aE,.int .i64 aW,.slice FA ds aZ,.slice dB fl b1] 59));have dt:=ak bd cZ;clear bd cZ;go_upto_region 45 with(at_builtin;refine l3 q9 rfl (.tmp 168) (.tmp 172) rfl dt.1 (cs:=#[.slice (some ⟨A.heap.size,0,none⟩) 1 1]) rfl rfl (by simp) rfl (by simp[Value.oneCell']) (by simp only;omega) (by simp only;omega) ?_;intro bg cN cJ bX g2 cv;have cR:=g2.mono (M':=λb=>b=O) (λb hm=>J9.1 hm);have cC:=dt.2.on cR bB;have cO:=av bX cR cv;clear bX g2 cv cR e0 bl bm f0 cQ cV d0 aQ aR b0 am aw;obtain⟨e0,bl,bm⟩:=cC.two;clear cC);generalize aV:World.setCell _ _ _=dE;obtain⟨cp,bE⟩:=H.1.start cF.1 (λb hm=>⟨(cF.2 b hm).1,(cF.2 b hm).2.1,(cF.2 b hm).2.2.1,(cF.2 b hm).2.2.2.2⟩) rfl cO.1 cO.2.1 (λb hm=>(cO.2.2 b hm).imp (λh=>J9.1 h) id) aV;have cD:Fr (λb=>b=O\/b=bV.heap.size) A dE:=by
    rw[<-aV];exact Fr.setCell (Fr.trans ((Fr.refl _ A).alloc _) (Fr.mono cO.2.1 λ_ h=>.inl h)) (.inl (.inr rfl)) _
   have cl:=(aJ.1.lo O (by simp)).1;have dx:=(aJ.1.lo bV.heap.size (by simp)).1;have i:Ext V dE:=Fr.low (M:=λb=>b=O\/b=bV.heap.size) (Fr.trans (Fr.mono H.2.1 λ_ h=>h.elim) cD) λb O=>by rcases O with O|O<;>omega
   have bw:=av cp bE (b9.trans i);have aK:=i.size;clear aV cp bE cD i e0 bl bm c0 c1 c2 c3 J flb Q;have a2:=ak (ab.2.2.2.1.aj bw.2.2) (ab.1.trans bw.2.2);have di:=bw.2.2.size;obtain⟨bh,an,aM⟩:=a2.1.two;obtain⟨e0,bl,bm⟩:=bw.2.1.two;go_wp2_with(fail);generalize hX:World.setCell _ _ _=Z;obtain⟨bq,a5,a4⟩:=bk (w:=w) [.slice b7 aU a3,.slice bW m aX,.slice bg (cd+1) cN,.int .i64 s.fault] (by rfl) a2.1 a2.2 ad hX;have bn:=ak a5 a4;clear hX a5 a4 bh an aM e0 bl bm;obtain⟨bh,an,aM⟩:=bq.two;refine Ke (v:=.tuple #[.agg #[.slice b7 aU a3,.slice bW m aX,.slice bg (cd+1) cN,.int .i64 s.fault],.bool true]) (by simp[results,Tryz.results29,go_sem,bh]) rfl ?_;exact Ci
 ):p:=h
theorem qU(h:p:=by
 exact qR
 ):p:=h
theorem qY(h:p:=by
 exact qT
 ):p:=h
end Cc
open Cc in
theorem oY(u:ay)(s:ah)(t:Int)(f:ai)(cc:cG)(x:ax)(N:Nat)(P:Nat->Prop)(w:World)(p:UV)(q:SV)(h:je u s t f cc x N)(bo:N<=100000)(cf:x.op=2\/x.op=3)(hu:p.Ok w u)(aC:q.Is w P s)(S:∀b,P b->b<w.heap.size) :
  Calls prog 29 #[.agg (p.val u),.agg (q.val s),.int .i64 t] w (cH P w (bU u s t f x).1 (bU u s t f x).2):=by
 exact qX
end Go.Proofs.YtnigabjngpnbiaaGreat

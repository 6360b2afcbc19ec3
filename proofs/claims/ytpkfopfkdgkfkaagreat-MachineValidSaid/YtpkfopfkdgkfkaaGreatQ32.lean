/- Part 32 of the proof. No condition of its own. -/
import Derived.Test.YtpkfopfkdgkfkaaGreatQ17
import Derived.Test.YtpkfopfkdgkfkaaGreatQ30
import Derived.Test.YtpkfopfkdgkfkaaGreatQ31
namespace Go.Proofs.YtpkfopfkdgkfkaaGreat
open Go.RowKit Go.Proofs.Tryz
set_option maxRecDepth 1000000
set_option maxHeartbeats 25600000
set_option linter.unusedVariables false
variable{p:Prop}
namespace DJ
theorem vA(h:p:=by
 rw[b3.o];exact fu (B:=V.heap.size) bC.1 bk.2 (λb O=>⟨λhl=>by have:=G.o b hl;omega,ad⟩) (λb O=>by have:=G.o b O;omega) ad bk.1 (by rw[uD bN.2.1])
 ):p:=h
theorem dC(h:p:=by
 generalize cy:World.setCell _ _ _=dF;obtain⟨cx,bY⟩:=y.1.push cU.1 (λb hm=>⟨(cU.2 b hm).1,(cU.2 b hm).2.1,(cU.2 b hm).2.2.1,(cU.2 b hm).2.2.2.1⟩) I.1 I.2.1 I.2.2 cy;have cW:Fr (λb=>b=lb\/b=O) A dF:=by
  rw[<-cy];exact Fr.setCell (Fr.mono I.2.1 λ_ h=>.inl h) (.inl (.inr rfl)) _
 have ct:=(aN.1.lo O (by simp)).1;have i:Ext V dF:=Fr.low (M:=λb=>b=lb\/b=O) (Fr.trans (Fr.mono y.2.1 λ_ h=>h.elim) cW) λb O=>by rcases O with O|O<;>omega
 have bC:=az cx bY (bS.trans i);have ay:=i.size;clear cy cx bY cW i bu bp dA dZ;exact vz
 ):p:=h
theorem sw(h:p:=by
 clear bM cK a2;rcases cz.o with h|h
 all_goals
  first
   | have q1:(x.op == 1)=true:=by simpa using h
   | have q1:(x.op == 1)=false:=by simp;omega
  first
   | have cJ:(x.op == 2)=true:=by simpa using h
   | have cJ:(x.op == 2)=false:=by simp;omega
  first
   | have c9:(x.op == 3)=true:=by simpa using h
   | have c9:(x.op == 3)=false:=by simp;omega
  first
   | have dk:(x.op == 4)=true:=by simpa using h
   | have dk:(x.op == 4)=false:=by simp;omega
  first
   | have q5:(x.op == 5)=true:=by simpa using h
   | have q5:(x.op == 5)=false:=by simp;omega
  first
   | have dr:(x.op == 6)=true:=by simpa using h
   | have dr:(x.op == 6)=false:=by simp;omega
  first
   | have q7:(x.op == 7)=true:=by simpa using h
   | have q7:(x.op == 7)=false:=by simp;omega
  first
   | have dJ:(x.op == 8)=true:=by simpa using h
   | have dJ:(x.op == 8)=false:=by simp;omega
  have de:=ae h;clear h;go_wp2_with(fail);refine(uF u s t f cn x N X ⟨GA,gn,gc,MA,mn,mc,PA,pn,pc⟩ ⟨bV,bW,bD,TA,tn,tc,HA,hn,hc⟩ ⟨eo,en,es,EA,em,ec,QA,qm,qc,dn,j,dj,KA,cO,kc⟩ l.o cz.o (ah.2.2.2.2.1.on aN.2.2) (ah.2.2.2.2.2.on aN.2.2) (dy.on aN.2.1)).mono ?_;rintro e cS ⟨aV,a5,FA,c4,bx,dE,fl,b2,z,rfl,bd,c7,df,ao⟩;have aR:=ae (KK (u:=u) (s:=s) (t:=t) (f:=f) (x:=x) cz.o);have cj:=ae bd;clear bd;generalize cR s.globals f.ints x.ints=aa at *;generalize b1 u s f x.places=bb at *;obtain⟨dR,aW⟩:=aa;obtain⟨bi,bz⟩:=bb;clear a0 ai af bq am aG d0 aK aM e0 be a6 c0 c1 c2 c3 H flb J cq k a8;by_cases aL:aW=0
  case neg=>
   obtain rfl:=c7 aL;have b3:=ae (aR.Jr aL);have FM:(z == 0)=false:=by simpa using aL
   have JO:(z != 0)=true:=by simpa using aL
   clear aL c7 df ao aR;exact He
  by_cases ac:bz=0
  case neg=>
   obtain rfl:=df aL ac;have b3:=ae (aR.Js aL ac);have FM:(z == 0)=false:=by simpa using ac
   have JO:(z != 0)=true:=by simpa using ac
   clear aL ac c7 df ao aR;exact He
  obtain⟨rfl,aX⟩:=ao aL ac;generalize cY:di u x.target dR bi=R at *
 ·
  have b3:=ae (aR.call aL ac de.o);rw[cY] at b3;have bm:=ae aX;clear aL ac c7 df ao aR cY aX;go_upto_region 24 with(fail);generalize bG:World.alloc _ _=A;have r:=aU bG;have n:=aI bG;have T:=cj.trans r;have y:=az (RO.aj aN.1 T) (aN.2.1.trans T) (aN.2.2.trans T);have an:=ag n r;have br:=r.size;have dI:=cj.size;have aj:=ae y.2.2;clear bG r T;obtain⟨bq,am,aG⟩:=(ah.2.2.1.aj y.2.2).two;obtain⟨d0,aK,aM⟩:=(bF.aj y.2.1).two;obtain⟨e0,be,a6⟩:=y.1.o.two;obtain⟨cq,k,flb,J,H,c0,c1,c2,c3,a8⟩:=y.1.top;obtain⟨f0,dN,dQ⟩:=n.two;clear n;have ar:(dh R).rep A (fresh X cS) [aV,a5,.slice FA c4 bx,.slice dE fl b2]:=D.aS (λb O=>an.2.block b O.2 λh=>h) _ _ bm.o;have Y:=aN.1.lo;have cI:∀b,fresh X cS b->V.heap.size<=b/\b<A.heap.size/\b≠O/\b≠lb/\b≠b7.heap.size:=λb a1=>⟨by have:=a1.1;omega,by have:=a1.2;omega,λhe=>by have:=(Y O (by simp)).2;have:=a1.1;omega,λhe=>by have:=(Y lb (by simp)).2;have:=a1.1;omega,λhe=>by have:=(Y b7 (by simp)).2;have:=a1.1;omega⟩
  have cU:=ag ar cI;clear ar cI Y;have dt:=ce;obtain⟨bO,cf,cg,-,-⟩:=y.1.sep;have cF:=y.1.l;have dd:=ae cF;have d2:cS≠lb:=by have:=(aN.1.lo lb (by simp)).2;omega
  have dL:b7≠lb:=cf;have aq:O≠lb:=cg;clear cF;go_upto_region 29 with(fail);refine eJ (λb=>b=lb) [(0,3),(1,0),(2,3),(3,3),(4,0),(5,1),(6,1),(7,3),(8,3),(9,2)] ?_;refine pf ?_;refine oH ?_
  iterate 2 refine pf ?_
  refine oH ?_;refine rb ?_;refine mf (λbc=>Ext A bc/\au bc A 50 #[aV,a5,.slice FA c4 bx,.slice dE fl b2]/\bc.heap.size=A.heap.size+1) ⟨by first|exact((Fr.refl _ A).drew).alloc _|exact((Fr.refl _ A).alloc _).drew,by first|exact Mp|exact au.new A.drew _ _,by simp⟩ (λdv bw=>?_);have ap:=ae bw;clear bw;refine aB rfl (λK hK=>?_);rw[if_pos (by rfl)];refine yv tN (.tmp 161) (.tmp 163) rfl (dd.aj ap.1) ap.2.1 rfl rfl rfl (by simp[Value.oneCell']) ad ad ?_;intro A2 cm cV bT g2 cP;have cW:Fr (λb=>b=lb) dv cV:=g2.mono λb O=>Mi.1 O;refine dq hK (cW) ?_;clear hK K;have bn:Fr (λb=>b=lb) A cV:=Fr.trans (ap.1.mono λ_ h=>h.elim) cW;have I:=az bT bn (λb O=>(cP b O).imp (λh=>Mi.1 h) (λh=>(⟨by have:=ap.2.2;omega,h.2⟩:A.heap.size<=b/\b<cV.heap.size)));have bu:=(bn.cell (j:=t.toNat) k aq).trans H;have bp:∀j,cV.frozen? ⟨O,j,none⟩=false:=λj=>(bn.frozen k aq).trans (J j);have dA:=bn.size;clear bT g2 cP cW bn e0 be a6 f0 dN dQ d0 aK aM bq am aG c0 c1 c2 c3 H flb J;exact B3
 ·
  have bj:=ag (aR.many aL ac de.o) (aR.go aL ac de.o);rw[cY] at bj;have bm:=ae aX;clear aL ac c7 df ao aR cY aX;by_cases aE:32<=hn
  .have cD:decide ((hn:Int)>=32)=true:=by simpa using (by omega:(32:Int)<=(hn:Int))
   have b3:=ae (bj.1 (by rw[<-bN.2.2.2.2];exact aE));clear aE bj;go_upto_region 24 with(fail);generalize bG:World.alloc _ _=A;have r:=aU bG;have n:=aI bG;have T:=cj.trans r;have y:=az (RO.aj aN.1 T) (aN.2.1.trans T) (aN.2.2.trans T);have an:=ag n r;have br:=r.size;have dI:=cj.size;have aj:=ae y.2.2;clear bG r T;obtain⟨bq,am,aG⟩:=(ah.2.2.1.aj y.2.2).two;obtain⟨d0,aK,aM⟩:=(bF.aj y.2.1).two;obtain⟨e0,be,a6⟩:=y.1.o.two;obtain⟨cq,k,flb,J,H,c0,c1,c2,c3,a8⟩:=y.1.top;obtain⟨f0,dN,dQ⟩:=n.two;clear n;have du:=aj.size;go_wp2_with(fail);refine(pa P s ⟨bV,bW,bD,TA,tn,tc,HA,hn,hc⟩ 4 A (cc.2.2.HN G.o (ah.1.trans aj.o)) (λb O=>LL (G.o b O) (ah.1.trans aj.o).size)).mono ?_;rintro e c6 ⟨⟨cT,bL,bX,bt,b8,bv,bU,aZ,cb⟩,rfl,ca,bP⟩;have fg:=bP.size;have da:=ae ca;have a3:=ag (ah.2.2.2.1.aj (aj.trans bP)) ((ah.1.trans aj.o).trans bP);clear ca bP f0 dN dQ d0 aK aM e0 be a6 c0 c1 c2 c3 H flb J cq k a8 bq am aG;obtain⟨bl,aD,aP⟩:=a3.1.two;go_wp2_with(fail);generalize hX:World.setCell _ _ _=Z;obtain⟨bs,a9,bf⟩:=bA (w:=w) [.slice cT bL bX,.slice bt b8 bv,.slice bU aZ cb,(4:Int)] (by rfl) a3.1 a3.2 ad hX;have bk:=ag a9 bf;clear hX a9 bf bl aD aP;obtain⟨bl,aD,aP⟩:=bs.two;refine Mn (v:=.tuple #[.agg #[.slice cT bL bX,.slice bt b8 bv,.slice bU aZ cb,(4:Int)],true]) (by simp[results,Tryz.results40,go_sem,bl]) rfl ?_;rw[b3.o];exact fu (B:=A.heap.size) (Q:={s with fault:=4}) da.o bk.2 (λb O=>⟨λhl=>by have:=G.o b hl;omega,ad⟩) (λb O=>by have:=G.o b O;omega) ad bk.1 rfl
  .have cD:decide ((hn:Int)>=32)=false:=by simp;omega
   have b3:=ae (bj.2 (by rw[<-bN.2.2.2.2];exact aE));have bH:=bN.2.2.2.2;clear aE bj;go_upto_region 24 with(fail);generalize bG:World.alloc _ _=A;have r:=aU bG;have n:=aI bG;have T:=cj.trans r;have y:=az (RO.aj aN.1 T) (aN.2.1.trans T) (aN.2.2.trans T);have an:=ag n r;have br:=r.size;have dI:=cj.size;have aj:=ae y.2.2;clear bG r T;obtain⟨bq,am,aG⟩:=(ah.2.2.1.aj y.2.2).two;obtain⟨d0,aK,aM⟩:=(bF.aj y.2.1).two;obtain⟨e0,be,a6⟩:=y.1.o.two;obtain⟨cq,k,flb,J,H,c0,c1,c2,c3,a8⟩:=y.1.top;obtain⟨f0,dN,dQ⟩:=n.two;clear n;have ar:(dh R).rep A (fresh X cS) [aV,a5,.slice FA c4 bx,.slice dE fl b2]:=D.aS (λb O=>an.2.block b O.2 λh=>h) _ _ bm.o;have Y:=aN.1.lo;have cI:∀b,fresh X cS b->V.heap.size<=b/\b<A.heap.size/\b≠O/\b≠lb/\b≠b7.heap.size:=λb a1=>⟨by have:=a1.1;omega,by have:=a1.2;omega,λhe=>by have:=(Y O (by simp)).2;have:=a1.1;omega,λhe=>by have:=(Y lb (by simp)).2;have:=a1.1;omega,λhe=>by have:=(Y b7 (by simp)).2;have:=a1.1;omega⟩
   have cU:=ag ar cI;clear ar cI Y;have aQ:=y.1.hl;simp only[List.length_set] at aQ;have cB:cu<=1000:=ad;clear aQ bH;obtain⟨bO,cf,cg,-,-⟩:=y.1.sep;have cF:=y.1.h.aj ((Fr.refl _ A).alloc (.cells #[aV,a5,.slice FA c4 bx,.slice dE fl b2] 50));have c5:=y.1.o.aj ((Fr.refl _ A).alloc (.cells #[aV,a5,.slice FA c4 bx,.slice dE fl b2] 50));have dd:=ag cF c5;clear cF c5;go_upto_region 45 with(at_builtin;refine m9 pE rfl (.tmp 168) (.tmp 172) rfl dd.1 (cs:=#[.slice (some ⟨A.heap.size,0,none⟩) 1 1]) rfl rfl (by simp) rfl (by simp[Value.oneCell']) (by simp only;omega) (by simp only;omega) ?_;intro A2 cm cV bT g2 cP;have db:=g2.mono (M':=λb=>b=O) (λb hm=>Mi.1 hm);have cH:=dd.2.on db bO;have I:=az bT db cP;clear bT g2 cP db e0 be a6 f0 dN dQ d0 aK aM bq am aG;obtain⟨e0,be,a6⟩:=cH.two;clear cH);generalize cy:World.setCell _ _ _=dF;obtain⟨cx,bY⟩:=y.1.start cU.1 (λb hm=>⟨(cU.2 b hm).1,(cU.2 b hm).2.1,(cU.2 b hm).2.2.1,(cU.2 b hm).2.2.2.2⟩) rfl I.1 I.2.1 (λb hm=>(I.2.2 b hm).imp (λh=>Mi.1 h) id) cy;have cW:Fr (λb=>b=O\/b=b7.heap.size) A dF:=by
    rw[<-cy];exact Fr.setCell (Fr.trans ((Fr.refl _ A).alloc _) (Fr.mono I.2.1 λ_ h=>.inl h)) (.inl (.inr rfl)) _
   have ct:=(aN.1.lo O (by simp)).1;have dg:=(aN.1.lo b7 (by simp)).1;have i:Ext V dF:=Fr.low (M:=λb=>b=O\/b=b7.heap.size) (Fr.trans (Fr.mono y.2.1 λ_ h=>h.elim) cW) λb O=>by rcases O with O|O<;>omega
   have bC:=az cx bY (bS.trans i);have ay:=i.size;clear cy cx bY cW i e0 be a6 c0 c1 c2 c3 H flb J;have a3:=ag (ah.2.2.2.1.aj bC.2.2) (ah.1.trans bC.2.2);have cd:=bC.2.2.size;obtain⟨bl,aD,aP⟩:=a3.1.two;obtain⟨e0,be,a6⟩:=bC.2.1.two;go_wp2_with(fail);generalize hX:World.setCell _ _ _=Z;obtain⟨bs,a9,bf⟩:=bA (w:=w) [.slice bh bJ aY,.slice ab m L,.slice A2 (cu+1) cm,.int .i64 s.fault] (by rfl) a3.1 a3.2 ad hX;have bk:=ag a9 bf;clear hX a9 bf bl aD aP e0 be a6;obtain⟨bl,aD,aP⟩:=bs.two;refine Mn (v:=.tuple #[.agg #[.slice bh bJ aY,.slice ab m L,.slice A2 (cu+1) cm,.int .i64 s.fault],true]) (by simp[results,Tryz.results40,go_sem,bl]) rfl ?_;exact DS
 ):p:=h
theorem sy(h:p:=by
 exact su
 ):p:=h
theorem sD(h:p:=by
 exact sx
 ):p:=h
end DJ
open DJ in
theorem qD(u:aA)(s:ak)(t:Int)(f:al)(cn:cM)(x:aC)(N:Nat)(P:Nat->Prop)(w:World)(p:UV)(q:SV)(h:jX u s t f cn x N)(hN:N<=100000)(cw:x.op=2\/x.op=3)(hu:p.Ok w u)(dp:q.Is w P s)(bg:∀b,P b->b<w.heap.size) :
  Calls prog 40 #[.agg (p.val u),.agg (q.val s),t] w (cX P w (b5 u s t f x).1 (b5 u s t f x).2):=by
 exact sC
theorem HR(u:aA)(s:ak)(t:Int)(N:Nat)(P:Nat->Prop)(w:World)(p:UV)(q:SV)(hU:tD u)(hS:aW u N s)(hN:N<=100000)(hu:p.Ok w u)(hs:q.Is w P s)(bg:∀b,P b->b<w.heap.size) :
  Calls prog 40 #[.agg (p.val u),.agg (q.val s),t] w (cX P w (cb u s t).1 (cb u s t).2):=by
 cases htop:ey s t with
 | none=>rw[qK htop];exact w7 u s t P w p q hu hs bg htop
 | some f=>
  obtain⟨cn,x,i,H⟩:=jX.of hU hS hN htop;rw[qL htop H];have r:x.op=1\/x.op=2\/x.op=3\/x.op=4\/x.op=5\/x.op=6\/x.op=7\/x.op=8:=by
   exact zO
  rcases r with h|h|h|h|h|h|h|h
  .exact qE u s t f cn x N P w p q i hN (.inl h) hu hs bg
  .exact qD u s t f cn x N P w p q i hN (.inl h) hu hs bg
  .exact qD u s t f cn x N P w p q i hN (.inr h) hu hs bg
  .exact qF u s t f cn x N P w p q i hN (.inl h) hu hs bg
  .exact qF u s t f cn x N P w p q i hN (.inr h) hu hs bg
  .exact qE u s t f cn x N P w p q i hN (.inr h) hu hs bg
  .exact qG u s t f cn x N P w p q i hN (.inl h) hu hs bg
  .exact qG u s t f cn x N P w p q i hN (.inr h) hu hs bg
def zy(w:World)(s:ak)(m:Nat)(e:Ending)(ab:World):Prop:=∃q:SV,e=.returned (.tuple #[.agg (q.val s),.int .i64 (m:Int)])/\q.Is ab (λk=>w.heap.size<=k/\k<ab.heap.size) s/\Ext w ab
namespace DM
theorem fy(h:p:=by
 refine tf ?_;refine ch ?_;generalize hX:World.setCell _ _ _=X;obtain⟨bp,bu,cE⟩:=bA (w:=wr) [.slice aJ ak T,.slice bt s j,.slice bU bQ aR,.int .i64 (cb u S t).1.fault] (by rfl) ao bd gz hX;have al:(⟨aJ,ak,T,bt,s,j,bU,bQ,aR⟩:SV).Is X (λb=>W.heap.size<=b/\b<X.heap.size/\b≠aS.heap.size) (cb u S t).1:=(N.ai λb O=>cE.block b O.2.1 O.2.2.2).mono λb O=>⟨O.1,by have:=cE.size;have:=O.2.1;omega,O.2.2.1⟩
 have a7:=a3.2.1.aj bu;have y:=az bu al a7;obtain⟨ci,bO,b5⟩:=bp.two;obtain⟨bq,am,aG⟩:=a7.two;have cr:=bu.size;clear hX ao bd N cE bu al a7 bp
 cases bj:(cb u S t).2 with
 | true=>
  have bz:=ae bj;clear bj;go_wp2_with(fail);generalize cG:World.setCell _ _ _=Z;obtain⟨bs,bf⟩:=jG 0 [.slice aJ ak T,.slice bt s j,.slice bU bQ aR,.int .i64 (cb u S t).1.fault] y.2.2 cG;have bk:=ag bs bf;clear cG bs bf ci bO b5 bq am aG;go_roundw
  case rel=>
   have aK:Fr (λb=>b=aS.heap.size) V Z:=Fr.trans (Fr.trans a3.1 (Fr.mono y.1 λ_ h=>h.elim)) bk.2;have hs:=a3.2.2.2.2.2.1 t aN.o;have bY:(jS u S [t]).length=1:=by
    show ((if (cb u S t).2 then [t] else [])++[]).length=1
    rw[bz.o];rfl
   refine⟨k+1,⟨aJ,ak,T,bt,s,j,bU,bQ,aR⟩,?_,by go_num,ad,aK,?_,?_⟩
   .rw[hs.1,LM,bY];go_num
   .rw[hs.2];exact bk.1
   .rw[hs.2];have U:=bk.2.size;exact(y.2.1.ai λb O=>bk.2.block b O.2.1 O.2.2).mono λb O=>⟨O.1,by have:=O.2.1;omega,O.2.2⟩
  case measure=>exact aH
 | false=>
  have bz:=ae bj;clear bj;go_wp2_with(fail);clear ci bO b5 bq am aG;go_roundw
  case rel=>
   have aK:Fr (λb=>b=aS.heap.size) V X:=Fr.trans a3.1 (Fr.mono y.1 λ_ h=>h.elim);have hs:=a3.2.2.2.2.2.1 t aN.o;have bY:(jS u S [t]).length=0:=by
    show ((if (cb u S t).2 then [t] else [])++[]).length=0
    rw[bz.o];rfl
   refine⟨k+1,⟨aB,sm,aM,ab,aF,ax,b9,hm,hd⟩,?_,by go_num,ad,aK,?_,?_⟩
   .rw[hs.1,LM,bY,LW]
   .rw[hs.2,kf bz.o];exact y.2.2
   .rw[hs.2,kf bz.o];exact(a3.2.2.1.HN (λb O=>O.2.1) y.1).mono λb O=>⟨O.1,by have:=O.2.1;omega,O.2.2⟩
  case measure=>exact aH
 ):p:=h
theorem lU(h:p:=by
 have ah:=cL aw cv (cc.1.on aw) (cc.2.cZ (Fr.ext aw) aw.size) aQ;have cN:=aw.size;have dx:=cv.lt;obtain⟨a0,ai,af⟩:=aQ.two;clear ba aw aQ cv cc;go_wp2_with(fail);refine(Ky u W ⟨GA,gn,gc,MA,mn,mc,PA,pn,pc⟩ cB.o ah.2.2.1).mono ?_;rintro e aS ⟨⟨bV,bW,bD,TA,tn,tc,HA,cu,hc⟩,rfl,L,aO⟩;have H1:=ag L aO;have cq:=aO.size;clear L aO a0 ai af;dsimp only[SV.val];go_upto_region 2 with(fail);generalize hV:World.alloc _ _=V;have bo:=aU hV;have b8:=aI hV;have b1:=b8.lt;have aV:(⟨bV,bW,bD,TA,tn,tc,HA,cu,hc⟩:SV).Is V (λb=>W.heap.size<=b/\b<V.heap.size/\b≠aS.heap.size) (dT u):=(H1.1.ai λb O=>bo.block b (O.resolve_left λh=>h).2 λh=>h).mono λb O=>by have:=O.resolve_left λh=>h;omega
 have m:=az aV b8 (H1.2.trans bo);clear hV bo b8 aV;go_wp2_with(fail);go_loopw [7,8] (λho cA wr=>∃(k:Nat) (q:SV),ho=.int .i64 ((jS u (dT u) (l.take k)).length:Int)/\cA=.int .i64 k/\k<=n/\Fr (λb=>b=aS.heap.size) V wr/\au wr aS 26 (q.val (jr u (dT u) (l.take k)))/\q.Is wr (λb=>W.heap.size<=b/\b<wr.heap.size/\b≠aS.heap.size) (jr u (dT u) (l.take k))) (λ_ cA _=>n - (intOf cA).toNat)
 case atStart=>exact⟨0,_,rfl,rfl,ad,Mo,m.2.1,m.1⟩
 case round=>
  obtain⟨k,⟨aB,sm,aM,ab,aF,ax,b9,hm,hd⟩,rfl,rfl,aj,hF,ac,aq⟩:=hrel;have J:Ext W wr:=Fr.low (M:=λb=>b=aS.heap.size) (Fr.trans (Fr.mono m.2.2 λ_ h=>h.elim) hF) λb O=>ad;have ca:=w8 cB.ok (l.take k) 0 (dT u) (oX cB.ok);have aZ:=IY (u:=u) (l.take k) (dT u);rw[List.length_take] at aZ;have a4:(jS u (dT u) (l.take k)).length<=100000:=ad;have cC:∀t,l[k]?=some t->jS u (dT u) (l.take (k+1))=jS u (dT u) (l.take k)++jS u (jr u (dT u) (l.take k)) [t]/\jr u (dT u) (l.take (k+1))=(cb u (jr u (dT u) (l.take k)) t).1:=λt ht=>by
   rw[aY ht,vd,uN];exact⟨rfl,rfl⟩
  have I:k=n->jr u (dT u) (l.take k)=jr u (dT u) l/\jS u (dT u) (l.take k)=jS u (dT u) l:=λh=>by
   rw[LS (ay ah.2.2.2.1.1)];exact⟨rfl,rfl⟩
  generalize hS:jr u (dT u) (l.take k)=S at *;generalize bQ:(jS u (dT u) (l.take k))=M at *;have a3:=gr hF ac aq J ca cC I;have cl:=hF.size;have ap:=ae (show W.heap.size<=aS.heap.size/\aS<V.heap.size/\V<=wr.heap.size from ⟨cq,b1,hF.size⟩);have cd:=ac.lt;clear ca cC I hS bQ aZ;by_cases an:k<n
  .have ar:=ah.2.2.2.1.cZ (Fr.ext J) J.size;obtain⟨b,o,t,bG,O,hx,hc⟩:=ar.int an;subst bG;obtain⟨a0,ai,af⟩:=(ah.2.2.2.2.aj J).two;obtain⟨bq,am,aG⟩:=ac.two;have aN:=ae hx;clear hF ac aq J ar hx;go_upto_region 5 with(fail);refine r0 (λ_=>False) [11] (.held 0 (.held 1 (.free 2 (.free 3 (.free 4 (.held 5 (.pick [6,10] (λi=>bif i == 6 then .free 7 (.free 8 (.free 9 (.pick [10] (λ_=>.pick [11] (λ_=>.free 12 (.stop)))))) else .pick [6] (λ_=>.free 7 (.free 8 (.free 9 (.pick [11] (λ_=>.free 12 (.stop)))))))))))))) ?_
   iterate 2 refine th ?_
   iterate 3 refine tf ?_
   refine th ?_;refine qM (P:=?oM) (ops:=?IH) (Q:=?FN) (R:=?IJ) (tails:=?IW) (rest:=.pick [11] (λ_=>.free 12 (.stop))) (aa:=?Ih)
    (C:=λ(aC:Nat) (Y:Value) cP=>Ext wr cP/\au cP aC 26 #[(),(),(),(0:Int)]/\wr<=aC/\∃z:SV,Y=.agg (z.val (cb u S t).1)/\z.Is cP (λb=>W.heap.size<=b/\b<cP.heap.size/\b≠aS.heap.size/\b≠aC) (cb u S t).1) (λkey=>?wI) ?wz
   case wI=>
    refine a2 ?_ ?_
    ·
     refine aE rfl (λK hK=>?_) rfl;go_simp;refine(HR u S t _ (λb=>W.heap.size<=b/\b<wr.heap.size/\b≠aS.heap.size) wr.drew ⟨GA,gn,gc,MA,mn,mc,PA,pn,pc⟩ ⟨aB,sm,aM,ab,aF,ax,b9,hm,hd⟩ cB.o a3.2.2.2.2.1 (by rw[List.length_take];omega) (ah.2.2.1.on a3.2.2.2.1.drew) (a3.2.2.1.ai λb O=>rfl) (λb O=>O.2.1)).mono ?_;rintro e aT ⟨z,rfl,r,aW⟩;refine dq hK (aW) ?_;clear hK K
     iterate 3 refine tf ?_
     refine av ?_;refine eu ?_;generalize cG:World.alloc _ _=Z;have e2:=aU cG;have bS:wr<=aT.heap.size:=aW.size;have cQ:=e2.size;have F:Ext wr Z/\au Z aT 26 #[(),(),(),(0:Int)]/\wr<=aT.heap.size/\∃cJ:SV,(Value.agg (z.val (cb u S t).1))=.agg (cJ.val (cb u S t).1)/\cJ.Is Z (λb=>W.heap.size<=b/\b<Z.heap.size/\b≠aS.heap.size/\b≠aT.heap.size) (cb u S t).1:=
      ⟨(Fr.aG aW).trans e2,by rw[<-cG];exact Mp,bS,z,rfl,(r.ai λb O=>e2.block b (O.elim (λh=>ad) λh=>h.2) λh=>h).mono λb O=>by
       have hd:wr.drew.heap.size=wr:=rfl;have:=ap.o;rcases O with O|O<;>omega⟩
     clear cG e2 bS cQ r aW;revert F;generalize aT.heap.size=aC;generalize (Value.agg (z.val (cb u S t).1))=Y;intro F;exact key aC Y _ F
    ·
     refine eu ?_;generalize dE:World.drew (World.alloc _ _)=fh;have e1:=gQ dE;have cK:=kE dE;have aX:=cK.lt;refine av ?_;refine aE rfl (λK hK=>?_) rfl;go_simp;refine(HR u S t _ (λb=>W.heap.size<=b/\b<wr.heap.size/\b≠aS.heap.size) fh ⟨GA,gn,gc,MA,mn,mc,PA,pn,pc⟩ ⟨aB,sm,aM,ab,aF,ax,b9,hm,hd⟩ cB.o a3.2.2.2.2.1 (by rw[List.length_take];omega) (ah.2.2.1.on (a3.2.2.2.1.trans e1)) (a3.2.2.1.HN (λb O=>O.2.1) e1) (λb O=>by have:=O.2.1;omega)).mono ?_;rintro e aT ⟨z,rfl,r,aW⟩;refine dq hK (aW) ?_;clear hK K
     iterate 3 refine tf ?_
     have bS:=aW.size;have F:Ext wr aT/\au aT wr 26 #[(),(),(),(0:Int)]/\wr<=wr.heap.size/\∃cJ:SV,(Value.agg (z.val (cb u S t).1))=.agg (cJ.val (cb u S t).1)/\cJ.Is aT (λb=>W.heap.size<=b/\b<aT.heap.size/\b≠aS.heap.size/\b≠wr.heap.size) (cb u S t).1:=
      ⟨e1.trans aW,cK.aj aW,LK _,z,rfl,r.mono λb O=>by
       have:=ap.o;rcases O with O|O<;>omega⟩
     clear dE e1 cK aX bS r aW;revert F key;generalize (Value.agg (z.val (cb u S t).1))=Y;intro key F;exact key wr Y _ F
   case wz=>
    rintro aC Y cP ⟨bd,ao,gz,⟨aJ,ak,T,bt,s,j,bU,bQ,aR⟩,rfl,N⟩;dsimp only[SV.val];obtain⟨ci,bO,b5⟩:=ao.two;clear a0 ai af bq am aG hc;exact fQ
  .have a8:k=n:=ad;have a1:=ae a8;obtain⟨bq,am,aG⟩:=ac.two;have aL:=ah.2.1.aj J;have H:=ag aL (ah.1.trans J);obtain⟨bl,aD,aP⟩:=aL.two;clear hF ac aq J a8 aL;go_wp2_with(fail);generalize hX:World.setCell _ _ _=Z;obtain⟨bs,a9,bf⟩:=bA (w:=w) [.slice aB sm aM,.slice ab aF ax,.slice b9 hm hd,.int .i64 S.fault] (by rfl) H.1 H.2 ad hX;have bk:=ag a9 bf;clear hX a9 bf bl aD aP bq am aG;obtain⟨bl,aD,aP⟩:=bs.two;refine Mn (v:=.tuple #[.agg #[.slice aB sm aM,.slice ab aF ax,.slice b9 hm hd,.int .i64 S.fault],.int .i64 (M.length:Int)]) (by simp[results,Tryz.results14,go_sem,bl]) rfl ?_;have I:=a3.2.2.2.2.2.2 a1.o;rw[<-I.1,<-I.2];have cU:=bk.2.size;exact⟨⟨aB,sm,aM,ab,aF,ax,b9,hm,hd⟩,rfl,(a3.2.2.1.ai λb O=>bk.2.block b O.2.1 (ay O.1)).mono λb O=>⟨by have:=O.1;omega,by have:=O.2.1;omega⟩,bk.1⟩
 ):p:=h
end DM
open DM in
theorem Kz(u:aA)(l:List Int)(A:Mt)(n c:Nat)(w:World)(p:UV)(hU:tD u)(hu:p.Ok w u)(hl:cw (EF cO) 1 w w.heap.size A n l)(hn:n<=100000) :
  Calls prog 14 #[.agg (p.val u),.slice A n c] w (zy w (jr u (dT u) l) (jS u (dT u) l).length):=by
 obtain⟨GA,gn,gc,MA,mn,mc,PA,pn,pc⟩:=p;have cc:=ag hu hl;have cB:=ae hU;clear hU hu hl;dsimp only[UV.val];go_enter func14,ntmps14;exact lT
def qt(x:Int):Int:=if Int.tmod x 16=7 then x else within x 4
def b3(l:List Int)(m:Nat):List Int:=(l.take m).map qt
theorem y8(A:Mt)(n c m:Nat)(l:List Int)(w:World)(h:cw (EF cO) 1 w w.heap.size A n l)(hm:m<=1000) :
  Calls prog 15 #[.slice A n c,m] w λr ab=>∃I aE,r=.returned (.slice I (b3 l m).length aE)/\(b3 l m).length<=aE/\cw (EF cO) 1 ab ab I (b3 l m).length (b3 l m)/\Below w w ab/\∀g,(Value.slice I (b3 l m).length aE).ownBlock=some g->w.heap.size<=g:=by
 have hl:=h.1;have b6:=ae hl;clear hl;go_enter func15,ntmps15;go_wp2;go_loopw [5,6] (λv i wr=>∃k:Nat,k<=n/\k<=m/\i=.int .i64 k/\wr.ownsRow w 3 1 v k (((l.take k).map qt).flatMap cO)/\Below w w wr) (λ_ i _=>n - (intOf i).toNat)
 case atStart=>exact⟨0,Md _,Md _,rfl,World.ownsRow_nil _ _ _ _,Below.refl _ _⟩
 case round=>
  obtain⟨k,aj,s,rfl,ao,O⟩:=hrel;by_cases an:k<n/\k<m
  .obtain⟨a8,cu⟩:=an;obtain⟨b,o,x,rfl,aB,hx,c0⟩:=(h.eB O).int a8;have cv:=O.size;have bt:=ae (show ((l.take (k+1)).map qt).flatMap cO=((l.take k).map qt).flatMap cO++[.int .i64 (qt x)] by rw[aY hx,LR,List.map_singleton,lF]);clear hx;have e:qt x=if Int.tmod x 16=7 then x else within x 4:=rfl
   have y:=ae e;clear e;by_cases j:Int.tmod x 16=7
   .have q:=ae j;have f:(Int.tmod x 16 == 7)=true:=by simpa using j
    clear j;go_wp2_with(at_builtin;refine cN _ cF (by rfl) (.tmp 24) (.tmp 29) (by rfl) w _ _ _ _ (by rfl) ao (by rfl) (by rfl) (kR _ _) ad ad cv ?_;intro v1 aS aO bj ce);go_roundw
    case rel=>exact⟨k+1,ad,ad,by go_num,by rw[bt.o,y.o,if_pos q.o];exact aO,gd O ao bj (LK _) cv⟩
    case measure=>exact aH
   .have q:=ae j;have f:(Int.tmod x 16 == 7)=false:=by simpa using j
    clear j;go_wp2_with(fail);refine(dV x 4 ad ad _).mono ?_;rintro r ab ⟨rfl,rfl⟩;go_wp2_with(at_builtin;refine cN _ cF (by rfl) (.tmp 31) (.tmp 37) (by rfl) w _ _ _ _ (by rfl) ao (by rfl) (by rfl) (kR _ _) ad ad cv ?_;intro v1 aS aO bj ce);go_roundw
    case rel=>exact⟨k+1,ad,ad,by go_num,by rw[bt.o,y.o,if_neg q.o];exact aO,gd O ao bj (LK _) cv⟩
    case measure=>exact aH
  .obtain⟨cR,c1,rfl,cz,_,_,_⟩:=bT ao;have hlen:(b3 l m).length=k:=by
    have:=b6.o;unfold b3;rw[LO,List.length_take];omega
   have he:(l.take k).map qt=b3 l m:=by
    have:=b6.o;unfold b3;congr 1
    rcases Nat.lt_or_ge k m with ac|ac
    .rw[LS ad,LS ad]
    .rw[show k=m by omega]
   obtain⟨F,br⟩:=aJ hlen he;clear hlen he;have fin:∃I aE,Ending.returned (.slice cR k c1)=.returned (.slice I (b3 l m).length aE)/\(b3 l m).length<=aE/\cw (EF cO) 1 wr wr I (b3 l m).length (b3 l m)/\Below w w wr/\∀g,(Value.slice I (b3 l m).length aE).ownBlock=some g->w.heap.size<=g:=by
    rw[F.o,<-br.o];exact⟨cR,c1,rfl,cz,jN ao (gA _) (by rw[br.o];exact F.o),O,λg aR=>(ao.lt g aR).1⟩
   have d:=ae fin;clear fin;by_cases a8:k<n
   .have t:¬k<m:=λah=>an ⟨a8,ah⟩;clear an;go_wp2;go_ret;exact d.o
   .clear an;go_wp2;go_ret;exact d.o
theorem rW(A:Mt)(n c m:Nat)(l:List Int)(w:World)(h:cw (EF cO) 1 w w.heap.size A n l)(hm:m<=1000) :
  Calls prog 15 #[.slice A n c,m] w λr ab=>∃I aE,r=.returned (.slice I (b3 l m).length aE)/\(b3 l m).length<=aE/\cw (EF cO) 1 ab ab I (b3 l m).length (b3 l m)/\Below w w ab:=
 (y8 A n c m l w h hm).mono λ_ _ ⟨I,aE,ac,ap,aV,bz,_⟩=>⟨I,aE,ac,ap,aV,bz⟩
theorem xl(q:SV)(s:ak)(x:Int)(w:World)(h:q.Ok w s)(ac:1<=q.hn)(ap:q.hn<=1000000) :
  Calls prog 8 #[.agg (q.val s),x] w λe ab=>e=.returned (.int .i64 (within x q.hn))/\Ext w ab:=by
 obtain⟨bV,bW,bD,TA,tn,tc,HA,hn,hc⟩:=q;clear h;simp only at ac ap;dsimp only[SV.val];go_enter func8,ntmps8;go_wp2_with(fail);refine(dV x hn ad ad _).mono ?_;rintro r ab ⟨rfl,rfl⟩;exact vy
theorem ru{a b:World}(h:Below a a b):Ext a b:=⟨h.os,h.tape,h.output,h.size,λk aj _=>h.block k aj⟩
namespace DN
theorem fy(h:p:=by
 refine tf ?_;refine ch ?_;generalize cG:World.setCell _ _ _=Z;obtain⟨bs,a9,bf⟩:=bA (w:=W) [.slice aJ ak T,.slice bt s j,.slice bU bQ aR,.int .i64 S.fault] (by rfl) ao bd gz cG;have dK:(⟨aJ,ak,T,bt,s,j,bU,bQ,aR⟩:SV).Is Z (λb=>W.heap.size<=b/\b<Z.heap.size/\b≠aC) S:=(N.ai λb O=>bf.block b O.2.1 O.2.2).mono λb O=>⟨O.1,by have:=bf.size;have:=O.2.1;omega,O.2.2⟩
 have bk:=az dK a9 bs;have bZ:=ah.2.2.aj a9;have U:=a9.size;obtain⟨ax,g,o⟩:=bs.two;obtain⟨bl,aD,aP⟩:=bZ.two;have I:=ae bZ;clear cG bs a9 bf dK ao bd gz N cK aG aK bZ;go_wp2_with(fail);generalize cG:World.setCell _ _ _=Y;obtain⟨bH,bG,bx⟩:=bA (w:=w) [.slice aJ ak T,.slice bt s j,.slice bU bQ aR,.int .i64 S.fault] (by rfl) I.o (ah.1.trans bk.2.1) ad cG;have bC:=ag bG bx;clear cG bG bx bl aD aP ax g o;obtain⟨bl,aD,aP⟩:=bH.two;refine Mn (v:=.agg #[.slice aJ ak T,.slice bt s j,.slice bU bQ aR,.int .i64 S.fault]) (by simp[results,Tryz.results5,go_sem,bl]) rfl ?_;have c4:=bC.2.size;exact⟨⟨aJ,ak,T,bt,s,j,bU,bQ,aR⟩,rfl,(bk.1.ai λb O=>bC.2.block b O.2.1 (ay O.1)).mono λb O=>⟨by have:=O.1;omega,by have:=O.2.1;omega⟩,bC.1⟩
 ):p:=h
theorem BL(h:p:=by
 have hd:W.drew.heap.size=W:=rfl;have F:Ext W Z/\au Z b7 26 #[(),(),(),(0:Int)]/\W<=b7.heap.size/\∃cJ:SV,(Value.agg (z.val S))=.agg (cJ.val S)/\cJ.Is Z (λb=>W.heap.size<=b/\b<Z.heap.size/\b≠b7.heap.size) S:=⟨((Fr.aG aW).trans a7).trans e2,aQ,ad,z,rfl,(r.ai λb O=>e2.block b O.2 λh=>h).mono λb O=>ad⟩
 clear cG e2 aQ r a7 aW s2 dN eF hd bc bj cb;revert F;generalize b7.heap.size=aC;exact z2
 ):p:=h
end DN
open DN in
theorem wJ(u:aA)(p:UV)(A:Mt)(n c:Nat)(l:List Int)(w:World)(hU:tD u)(hu:p.Ok w u)(hl:cw (EF cO) 1 w w A n l) :
  Calls prog 5 #[.agg (p.val u),.slice A n c] w λe ab=>∃q:SV,e=.returned (.agg (q.val (jr u (dT u) (b3 l 60))))/\q.Is ab (fresh w ab) (jr u (dT u) (b3 l 60))/\Ext w ab:=by
 obtain⟨GA,gn,gc,MA,mn,mc,PA,pn,pc⟩:=p;have hlen:(b3 l 60).length<=60:=by unfold b3;rw[LO,List.length_take];omega
 have hex:∃S,jr u (dT u) (b3 l 60)=S:=⟨_,rfl⟩
 obtain⟨S,hS⟩:=hex;have E:∃m:Nat,(jS u (dT u) (b3 l 60)).length=m:=⟨_,rfl⟩
 obtain⟨m,hm⟩:=E;have cB:=bF hU hlen hS hm;have dL:∀(B:Mt) (k d:Nat) (V:World),(⟨GA,gn,gc,MA,mn,mc,PA,pn,pc⟩:UV).Ok V u->cw (EF cO) 1 V V B k (b3 l 60)->k<=60->Calls prog 14 #[.agg ((⟨GA,gn,gc,MA,mn,mc,PA,pn,pc⟩:UV).val u),.slice B k d] V (zy V S m):=by
  intro B k d V ac ap aV;have:=Kz u (b3 l 60) B k d V ⟨GA,gn,gc,MA,mn,mc,PA,pn,pc⟩ cB.1 ac ap ad;rw[cB.2.2.1,cB.2.2.2] at this;exact this
 have a3:=ae dL;rw[hS];have H:=ag hu hl;clear hU hu hl hlen hS hm dL;dsimp only[UV.val];go_enter func5,ntmps5;go_upto_region 1 with(fail);generalize ba:World.alloc _ _=W;have aw:=h9 ba;have c8:au W w 34 #[.slice GA gn gc,.slice MA mn mc,.slice PA pn pc,.int .i64 u.main]:=ba▸(Mp).alloc _;have b0:=fG ba;have ah:=az aw c8 b0;have aj:=b0.lt;have f:=ag (H.1.on aw) (H.2.cZ aw.ext aw.size);obtain⟨ci,bO,b5⟩:=c8.two;clear ba aw c8 b0;refine r0 (λ_=>False) [8] (.held 0 (.free 1 (.pick [2,7] (λi=>bif i == 2 then .pick [3,7] (λi=>bif i == 3 then .free 4 (.free 5 (.free 6 (.pick [7] (λ_=>.pick [8] (λ_=>.free 9 (.stop)))))) else .pick [3] (λ_=>.free 4 (.free 5 (.free 6 (.pick [8] (λ_=>.free 9 (.stop))))))) else .pick [2] (λ_=>.pick [3] (λ_=>.free 4 (.free 5 (.free 6 (.pick [8] (λ_=>.free 9 (.stop))))))))))) ?_;refine th ?_;refine tf ?_;refine g9 (P:=?oM) (ops:=?IH) (Q:=?FN) (R:=?IJ) (tails:=?IW) (rest:=.pick [8] (λ_=>.free 9 (.stop))) (aa:=?Ih)
  (C:=λ(aC:Nat) (G:Value) (Y:Value) cP=>Ext W cP/\au cP aC 26 #[(),(),(),(0:Int)]/\W<=aC/\∃z:SV,Y=.agg (z.val S)/\z.Is cP (λb=>W.heap.size<=b/\b<cP.heap.size/\b≠aC) S) (λkey=>?wI) ?wz
 case wI=>
  refine a2 ?_ ?_
  ·
   refine aE rfl (λK hK=>?_) rfl;go_simp;refine(rW A n c 60 l W.drew (f.2.cZ (Below.drew (Below.refl _ _)) (LK _)) ad).mono ?_;rintro e aT ⟨A2,c2,rfl,cb,bc,bj⟩;have aW:Ext W.drew aT:=ru bj;have y:(b3 l 60).length<=60:=cB.2.1;generalize dv:(b3 l 60).length=bg at cb bc y ⊢;clear dv;refine dq hK (aW) ?_;clear hK K;refine a2 ?_ ?_
   ·
    refine aE rfl (λK hK=>?_) rfl;go_simp;refine(a3.o A2 bg c2 aT (f.1.on (Fr.aG aW)) bc y).mono ?_;exact BJ
   ·
    refine eu ?_;generalize cG:World.alloc _ _=Z;have e2:=aU cG;have aQ:=aI cG;refine av ?_;refine aE rfl (λK hK=>?_) rfl;go_simp;refine(a3.o A2 bg c2 Z (f.1.on ((Fr.aG aW).trans e2)) (bc.cZ e2.ext e2.size) y).mono ?_;rintro e cS ⟨z,rfl,r,a7⟩;refine dq hK (a7) ?_;clear hK K
    iterate 3 refine tf ?_
    have s2:=aW.size;have dN:=a7.size;have eF:=aQ.lt;have hd:W.drew.heap.size=W:=rfl;have F:Ext W cS/\au cS aT 26 #[(),(),(),(0:Int)]/\W<=aT.heap.size/\∃cJ:SV,(Value.agg (z.val S))=.agg (cJ.val S)/\cJ.Is cS (λb=>W.heap.size<=b/\b<cS.heap.size/\b≠aT.heap.size) S:=⟨((Fr.aG aW).trans e2).trans a7,aQ.aj a7,ad,z,rfl,r.mono λb O=>ad⟩
    clear cG e2 aQ r a7 aW s2 dN eF hd bc bj cb;revert F;generalize aT.heap.size=aC;exact z2
  ·
   refine eu ?_;generalize cG:World.drew (World.alloc _ _)=Z;have e2:=gQ cG;have aQ:=kE cG;refine av ?_;refine aE rfl (λK hK=>?_) rfl;go_simp;refine(rW A n c 60 l Z (f.2.cZ e2.ext e2.size) ad).mono ?_;rintro e aT ⟨A2,c2,rfl,cb,bc,bj⟩;have aW:Ext Z aT:=ru bj;have y:(b3 l 60).length<=60:=cB.2.1;generalize dv:(b3 l 60).length=bg at cb bc y ⊢;clear dv;refine dq hK (aW) ?_;clear hK K;refine av ?_;refine aE rfl (λK hK=>?_) rfl;go_simp;refine(a3.o A2 bg c2 aT (f.1.on (e2.trans aW)) bc y).mono ?_;rintro e b7 ⟨z,rfl,r,a7⟩;refine dq hK (a7) ?_;clear hK K
   iterate 3 refine tf ?_
   have s2:=aW.size;have dN:=a7.size;have eF:=aQ.lt;have F:Ext W b7/\au b7 W 26 #[(),(),(),(0:Int)]/\W<=W.heap.size/\∃cJ:SV,(Value.agg (z.val S))=.agg (cJ.val S)/\cJ.Is b7 (λb=>W.heap.size<=b/\b<b7.heap.size/\b≠W.heap.size) S:=⟨(e2.trans aW).trans a7,(aQ.aj aW).aj a7,LK _,z,rfl,r.mono λb O=>ad⟩
   clear cG e2 aQ r a7 aW s2 dN eF bc bj cb;revert F key;generalize (Value.agg (z.val S))=Y;generalize (Value.slice A2 bg c2)=G;intro key F;exact key W G Y _ F
 case wz=>
  rintro aC G Y cP ⟨bd,ao,gz,⟨aJ,ak,T,bt,s,j,bU,bQ,aR⟩,rfl,N⟩;dsimp only[SV.val];obtain⟨cK,aG,aK⟩:=ao.two;clear ci bO b5;exact fQ
theorem GV(u:aA)(hU:tD u)(l:List Int):aW u 60 (jr u (dT u) (b3 l 60)):=by
 have h:=w8 hU.ok (b3 l 60) 0 (dT u) (oX hU.ok);have hl:(b3 l 60).length<=60:=by unfold b3;rw[LO,List.length_take];omega
 exact h.mono ad
end Go.Proofs.YtpkfopfkdgkfkaaGreat

/- Part 23 of the proof. No condition of its own. -/
import Derived.Test.YtflecliffjbleaaGreatQ22
namespace Go.Proofs.YtflecliffjbleaaGreat
open Go.RowKit Go.Proofs.Tryz
set_option maxRecDepth 1000000
set_option maxHeartbeats 25600000
set_option linter.unusedVariables false
variable{p:Prop}
namespace CI
theorem AW(h:p:=by
 rw[b0.o];exact zW
 ):p:=h
theorem Aq(h:p:=by
 clear cc a4 a0 ap aj d0 af aS e0 bk a5 c0 c1 c2 c3 J flb ac bt k aW a3 am aJ;exact Gh
 ):p:=h
theorem sC(h:p:=by
 clear cK cP cT;rcases dd.o with h|h
 all_goals
  first
   | have q1:(x.op == 1)=true:=by simpa using h
   | have q1:(x.op == 1)=false:=by simp;omega
  first
   | have cp:(x.op == 2)=true:=by simpa using h
   | have cp:(x.op == 2)=false:=by simp;omega
  first
   | have cw:(x.op == 3)=true:=by simpa using h
   | have cw:(x.op == 3)=false:=by simp;omega
  first
   | have cO:(x.op == 4)=true:=by simpa using h
   | have cO:(x.op == 4)=false:=by simp;omega
  first
   | have q5:(x.op == 5)=true:=by simpa using h
   | have q5:(x.op == 5)=false:=by simp;omega
  first
   | have c7:(x.op == 6)=true:=by simpa using h
   | have c7:(x.op == 6)=false:=by simp;omega
  first
   | have q7:(x.op == 7)=true:=by simpa using h
   | have q7:(x.op == 7)=false:=by simp;omega
  first
   | have dk:(x.op == 8)=true:=by simpa using h
   | have dk:(x.op == 8)=false:=by simp;omega
  have cr:=ad h;clear h;go_wp2_with(fail);refine(mq u s t f x.place N X ⟨GA,gn,gc,MA,mn,mc,PA,pn,pc⟩ ⟨bM,b2,bo,TA,tn,tc,HA,hn,hc⟩ QA qm qc ⟨i.hU.ok,i.hS,i.sm,i.ht,⟨Q,i.hp,cb.1⟩,aH.2.2.2.2.1.on aR.2.2,aH.2.2.2.2.2.on aR.2.2,(dp.on aR.2.1).place⟩).mono ?_;rintro e cz ⟨rfl,aI⟩;rw[jV i.ht];have a8:Ext X cz:=Fr.of aI;have ce:=cb.2.2;have K:=ad aB.o;generalize bp u s f x.place=R at *;obtain⟨aQ,z⟩:=R;have aK:=ad ce;have m:=aL (RO.aj aR.1 a8) (aR.2.1.trans a8) (aR.2.2.trans a8);have bw:=ad m.2.2;have dg:=a8.size;clear ce aI a8 a0 ap aj a3 am aJ d0 af aS e0 bk a5 c0 c1 c2 c3 J flb ac bt k aW;obtain⟨a3,am,aJ⟩:=(aH.2.2.1.aj m.2.2).two;obtain⟨d0,af,aS⟩:=(b6.aj m.2.1).two;obtain⟨e0,bk,a5⟩:=m.1.o.two;obtain⟨bt,k,flb,ac,J,c0,c1,c2,c3,aW⟩:=m.1.top;obtain⟨a0,ap,aj⟩:=(aH.2.1.aj bw.o).two;by_cases ba:z=0
  case neg=>
   have b0:=ad (K.bad ba);have cx:(z != 0)=true:=by simpa using ba
   exact Ap
  have cx:(z != 0)=false:=by simpa using ba
  have aO:=aK.2 ba;have a6:=mb i.hU.ok;have bF:aQ<=5000:=by simp only at aO;omega
  have az:=ad ba;clear ba aO a6
 ·
  have a1:=ad (K.lf az.o cr.o);have cf:=ad (K.ln az.o cr.o);go_wp2_with(fail);refine(uJ MA TA mn mc tn tc u.ae s.table aQ t cz (aH.2.2.2.2.1.on bw.o).at_.m.rr i.hU.ok.EH (aH.2.2.2.2.2.on bw.o).at_.t.holds cb.2.1 ab).mono ?_;intro e b5 aa;have aw:(hL u.ae s.table aQ t).length=tn:=by rw[j4];exact bU.2.2.2.1.symm
  obtain⟨I,aA,rfl,cj,bZ,ax,aC⟩:=aa.open_ (n:=tn) aw;have a4:Ext cz b5:=Fr.of aC;generalize hT:hL u.ae s.table aQ t=T at *;have r:Own b5 95 2 I tn aA (T.flatMap cG) (bA I tn aA):=⟨m0 ax (Lx _),rfl⟩
  have ar:∀b∈bA I tn aA,cz.heap.size<=b/\b<b5.heap.size:=λb O=>ax.lt b (by simpa using O);have aq:Sl b5 (λb=>cz.heap.size<=b/\b<b5.heap.size) I tn (T.map mQ):=r.sl (dK _) (by rw[Lf];exact aw) ar;have S:=aL (RO.aj m.1 a4) (m.2.1.trans a4) (m.2.2.trans a4);have L:=ah aq cj;have cq:=a4.size;clear hT aw aa bZ ax aC a4 r ar aq cj a0 ap aj a3 am aJ d0 af aS e0 bk a5 c0 c1 c2 c3 J flb ac bt k aW;obtain⟨a3,am,aJ⟩:=(aH.2.2.1.aj S.2.2).two;obtain⟨d0,af,aS⟩:=(b6.aj S.2.1).two;obtain⟨e0,bk,a5⟩:=S.1.o.two;obtain⟨bt,k,flb,ac,J,c0,c1,c2,c3,aW⟩:=S.1.top;go_upto_region 38 with(fail);generalize hX:World.setCell _ _ _=Y;obtain⟨cd,bJ⟩:=S.1.I7 L.1 L.2 (λb aX=>.inr ⟨by have:=aR.1.lo b3.heap.size (by simp);have:=aX.1;omega,aX.2,by have:=aR.1.lo b3.heap.size (by simp);have:=aX.1;omega⟩) hX;have cA:=dj hX;have bl:=(aR.1.lo b3.heap.size (by simp)).1;have G:Ext V Y:=Fr.low (M:=λb=>b=b3.heap.size) (Fr.trans (Fr.mono S.2.1 λ_ h=>h.elim) cA) λb O=>ab;have bP:=aL cd bJ (b4.trans G);have bz:=ad bP.2.2;have aN:=G.size;clear hX cd bJ cA G a3 am aJ d0 af aS e0 bk a5 c0 c1 c2 c3 J flb ac bt k aW
  cases H:free u.ae s.table aQ t with
  | true=>
   exact Gd
  | false=>
   have b0:=ad (cf.o H);obtain⟨a3,am,aJ⟩:=(aH.2.2.1.aj bz.o).two;have aZ:=ah (aH.2.2.2.1.aj bz.o) (aH.1.trans bz.o);obtain⟨bE,bg,bh⟩:=aZ.1.two;go_wp2_with(fail);generalize hX:World.setCell _ _ _=Z;obtain⟨bH,bn,bC⟩:=cm (w:=w) [.slice bM b2 bo,.slice TA tn tc,.slice HA hn hc,.int .i64 s.fault] (by rfl) aZ.1 aZ.2 ab hX;exact AV
 ·
  have a1:=ad (K.uf az.o cr.o);have cf:=ad (K.un az.o cr.o);go_wp2_with(fail);refine(rv MA TA mn mc tn tc u.ae s.table aQ t cz (aH.2.2.2.2.1.on bw.o).at_.m.rr i.hU.ok.EH (aH.2.2.2.2.2.on bw.o).at_.t.holds cb.2.1 ab).mono ?_;intro e b5 aa;have aw:(dO u.ae s.table aQ t).length=tn:=by rw[iM];exact bU.2.2.2.1.symm
  obtain⟨I,aA,rfl,cj,bZ,ax,aC⟩:=aa.open_ (n:=tn) aw;have a4:Ext cz b5:=Fr.of aC;generalize hT:dO u.ae s.table aQ t=T at *;have r:Own b5 95 2 I tn aA (T.flatMap cG) (bA I tn aA):=⟨m0 ax (Lx _),rfl⟩
  have ar:∀b∈bA I tn aA,cz.heap.size<=b/\b<b5.heap.size:=λb O=>ax.lt b (by simpa using O);have aq:Sl b5 (λb=>cz.heap.size<=b/\b<b5.heap.size) I tn (T.map mQ):=r.sl (dK _) (by rw[Lf];exact aw) ar;have S:=aL (RO.aj m.1 a4) (m.2.1.trans a4) (m.2.2.trans a4);have L:=ah aq cj;have cq:=a4.size;clear hT aw aa bZ ax aC a4 r ar aq cj a0 ap aj a3 am aJ d0 af aS e0 bk a5 c0 c1 c2 c3 J flb ac bt k aW;obtain⟨a3,am,aJ⟩:=(aH.2.2.1.aj S.2.2).two;obtain⟨d0,af,aS⟩:=(b6.aj S.2.1).two;obtain⟨e0,bk,a5⟩:=S.1.o.two;obtain⟨bt,k,flb,ac,J,c0,c1,c2,c3,aW⟩:=S.1.top;go_upto_region 41 with(fail);generalize hX:World.setCell _ _ _=Y;obtain⟨cd,bJ⟩:=S.1.I7 L.1 L.2 (λb aX=>.inr ⟨by have:=aR.1.lo b3.heap.size (by simp);have:=aX.1;omega,aX.2,by have:=aR.1.lo b3.heap.size (by simp);have:=aX.1;omega⟩) hX;have cA:=dj hX;have bl:=(aR.1.lo b3.heap.size (by simp)).1;have G:Ext V Y:=Fr.low (M:=λb=>b=b3.heap.size) (Fr.trans (Fr.mono S.2.1 λ_ h=>h.elim) cA) λb O=>ab;have bP:=aL cd bJ (b4.trans G);have bz:=ad bP.2.2;have aN:=G.size;clear hX cd bJ cA G a3 am aJ d0 af aS e0 bk a5 c0 c1 c2 c3 J flb ac bt k aW
  cases H:heldBy u.ae s.table aQ t with
  | true=>
   exact Gd
  | false=>
   have b0:=ad (cf.o H);obtain⟨a3,am,aJ⟩:=(aH.2.2.1.aj bz.o).two;have cV:=bz.size;go_wp2_with(fail);refine(pg P s ⟨bM,b2,bo,TA,tn,tc,HA,hn,hc⟩ 3 Y (ch.2.2.GR l.o (aH.1.trans bz.o)) (λb O=>Lc (l.o b O) (aH.1.trans bz.o).size)).mono ?_;rintro e b5 ⟨⟨df,bI,bX,bY,bN,bB,bQ,cl,bR⟩,rfl,cc,a4⟩;have f2:=a4.size;have co:=ad cc;have aZ:=ah (aH.2.2.2.1.aj (bz.trans a4)) ((aH.1.trans bz.o).trans a4);clear cc a4 a3 am aJ;obtain⟨bE,bg,bh⟩:=aZ.1.two;go_wp2_with(fail);generalize hX:World.setCell _ _ _=Z;obtain⟨bH,bn,bC⟩:=cm (w:=w) [.slice df bI bX,.slice bY bN bB,.slice bQ cl bR,.int .i64 3] (by rfl) aZ.1 aZ.2 ab hX;have bc:=ah bn bC;clear hX bn bC bE bg bh;obtain⟨bE,bg,bh⟩:=bH.two;refine LK (v:=.tuple #[.agg #[.slice df bI bX,.slice bY bN bB,.slice bQ cl bR,.int .i64 3],.bool true]) (by simp[results,Tryz.results20,go_sem,bE]) rfl ?_;rw[b0.o];exact e5 (B:=Y.heap.size) (a7:={s with fault:=3}) co.o bc.2 (λb O=>⟨λhl=>by have:=l.o b hl;omega,ab⟩) (λb O=>by have:=l.o b O;omega) ab bc.1 rfl
 ):p:=h
theorem sE(h:p:=by
 exact sy
 ):p:=h
theorem sG(h:p:=by
 have bf:cI (bj u) Q.locals Q.aw x.place:=by
  obtain⟨len,_,ak⟩:=h.ok;exact zF
 have au:=h.hS.zi;have bi:t<=1000:=ab;have dG:=h.hS.tok hN;have ce:=iu (s:=s) (nl:=Q.locals) (nk:=f.aw.length) h.hU.ok h.hF (Int.le_refl _) (by rw[h.hF.wx h.hp];exact bf);have aB:=ad (Kp (u:=u) (s:=s) (t:=t) (f:=f) (x:=x) aG);have cb:=aL bf dG ce;clear bf dG ce au;exact sD
 ):p:=h
end CI
open CI in
theorem qQ(u:av)(s:ag)(t:Int)(f:al)(Q:di)(x:ay)(N:Nat)(P:Nat->Prop)(w:World)(p:UV)(q:SV)(h:lI u s t f Q x N)(hN:N<=100000)(aG:x.op=4\/x.op=5)(hu:p.Ok w u)(ct:q.Is w P s)(aY:∀b,P b->b<w.heap.size) :
  Calls prog 20 #[.agg (p.val u),.agg (q.val s),.int .i64 t] w (mF P w (cu u s t f x).1 (cu u s t f x).2):=by
 exact sF
namespace CJ
theorem vB(h:p:=by
 rw[b0.o];exact e5 (B:=V.heap.size) bP.1 bc.2.drew (λb O=>⟨λhl=>by have:=l.o b hl;omega,ab⟩) (λb O=>by have:=l.o b O;omega) ab bc.1.drew (by rw[Ft bU.2.1,List.set_set])
 ):p:=h
theorem fW(h:p:=by
 generalize hX:World.setCell _ _ _=Y;obtain⟨m,bz⟩:=aR.1.drop hX;have ar:=dj hX;have r:=(aR.1.lo O (by simp)).1;have G:Ext V Y:=Fr.low (M:=λb=>b=O) (Fr.trans (Fr.mono aR.2.1 λ_ h=>h.elim) ar) λb O=>ab;have bP:=aL m bz (b4.trans G);have aN:=G.size;clear hX m bz ar G a0 ap aj a3 am aJ d0 af aS e0 bk a5 c0 c1 c2 c3 J flb ac;exact vA
 ):p:=h
theorem sC(h:p:=by
 clear cK cP cT;rcases dd.o with h|h
 all_goals
  first
   | have q1:(x.op == 1)=true:=by simpa using h
   | have q1:(x.op == 1)=false:=by simp;omega
  first
   | have cp:(x.op == 2)=true:=by simpa using h
   | have cp:(x.op == 2)=false:=by simp;omega
  first
   | have cw:(x.op == 3)=true:=by simpa using h
   | have cw:(x.op == 3)=false:=by simp;omega
  first
   | have cO:(x.op == 4)=true:=by simpa using h
   | have cO:(x.op == 4)=false:=by simp;omega
  first
   | have q5:(x.op == 5)=true:=by simpa using h
   | have q5:(x.op == 5)=false:=by simp;omega
  first
   | have c7:(x.op == 6)=true:=by simpa using h
   | have c7:(x.op == 6)=false:=by simp;omega
  first
   | have q7:(x.op == 7)=true:=by simpa using h
   | have q7:(x.op == 7)=false:=by simp;omega
  first
   | have dk:(x.op == 8)=true:=by simpa using h
   | have dk:(x.op == 8)=false:=by simp;omega
 ·
  have b0:=ad (FR (u:=u) (s:=s) (t:=t) (f:=f) h);clear h;go_upto_region 45 with(fail);generalize hX:World.setCell _ _ _=Y;have n:=aR.1.pc x.target;rw[hX] at n;have ar:=dj hX;have G:Ext V Y:=Fr.low (M:=λb=>b=lb) (Fr.trans (Fr.mono aR.2.1 λ_ h=>h.elim) ar) λb O=>ab;have bP:=aL n.is n.o (b4.trans G);have aN:=G.size;clear hX n ar G a0 ap aj a3 am aJ d0 af aS e0 bk a5 c0 c1 c2 c3 J flb ac;exact Ge
 ·
  have b0:=ad (FT (u:=u) (s:=s) (t:=t) (f:=f) h);clear h;go_upto_region 9 with(fail);refine eU (λ_=>False) [(0,3),(1,0),(2,3),(3,3),(4,3),(5,3),(6,3),(7,3),(8,3),(9,3),(10,2)] ?_;refine pf ?_;refine ph ?_
  iterate 5 refine pf ?_
  rw[show IntKind.i64.wrap ((fs.length:Nat):Int)=(fs.length:Int) from IntWalk.i64_in _ ab]
  iterate 3 refine pf ?_
  exact fV
 ):p:=h
theorem sE(h:p:=by
 exact sy
 ):p:=h
theorem sG(h:p:=by
 exact sD
 ):p:=h
end CJ
open CJ in
theorem qR(u:av)(s:ag)(t:Int)(f:al)(Q:di)(x:ay)(N:Nat)(P:Nat->Prop)(w:World)(p:UV)(q:SV)(h:lI u s t f Q x N)(hN:N<=100000)(aG:x.op=7\/x.op=8)(hu:p.Ok w u)(ct:q.Is w P s)(aY:∀b,P b->b<w.heap.size) :
  Calls prog 20 #[.agg (p.val u),.agg (q.val s),.int .i64 t] w (mF P w (cu u s t f x).1 (cu u s t f x).2):=by
 exact sF
theorem GY(u:av)(s:ag)(t:Int)(N:Nat)(P:Nat->Prop)(w:World)(p:UV)(q:SV)(hU:zo u)(hS:aS u N s)(hN:N<=100000)(hu:p.Ok w u)(hs:q.Is w P s)(aY:∀b,P b->b<w.heap.size) :
  Calls prog 20 #[.agg (p.val u),.agg (q.val s),.int .i64 t] w (mF P w (b9 u s t).1 (b9 u s t).2):=by
 cases g:da s t with
 | none=>rw[w2 g];exact wV u s t P w p q hu hs aY g
 | some f=>
  obtain⟨Q,x,l,o⟩:=lI.of hU hS hN g;rw[w3 g o];have a:x.op=1\/x.op=2\/x.op=3\/x.op=4\/x.op=5\/x.op=6\/x.op=7\/x.op=8:=by
   obtain⟨len,_,ak⟩:=l.ok;rcases ak with⟨ae,_⟩|⟨ae,_⟩|⟨ae,_⟩|⟨ae,_⟩|⟨ae,_⟩|⟨ae,_⟩<;>omega
  rcases a with h|h|h|h|h|h|h|h
  .exact qP u s t f Q x N P w p q l hN (.inl h) hu hs aY
  .exact qO u s t f Q x N P w p q l hN (.inl h) hu hs aY
  .exact qO u s t f Q x N P w p q l hN (.inr h) hu hs aY
  .exact qQ u s t f Q x N P w p q l hN (.inl h) hu hs aY
  .exact qQ u s t f Q x N P w p q l hN (.inr h) hu hs aY
  .exact qP u s t f Q x N P w p q l hN (.inr h) hu hs aY
  .exact qR u s t f Q x N P w p q l hN (.inl h) hu hs aY
  .exact qR u s t f Q x N P w p q l hN (.inr h) hu hs aY
def zw(w:World)(s:ag)(m:Nat)(e:Ending)(ac:World):Prop:=∃q:SV,e=.returned (.tuple #[.agg (q.val s),.int .i64 (m:Int)])/\q.Is ac (λk=>w.heap.size<=k/\k<ac.heap.size) s/\Ext w ac
namespace CK
theorem gA(h:p:=by
 refine tf ?_;refine cB ?_;generalize hX:World.setCell _ _ _=X;obtain⟨bw,bq,bO⟩:=cm (w:=wr) [.slice aM af N,.slice bY z s,.slice bQ ay bK,.int .i64 (b9 u S t).1.fault] (by rfl) eJ a8 gE hX;have aB:(⟨aM,af,N,bY,z,s,bQ,ay,bK⟩:SV).Is X (λb=>W.heap.size<=b/\b<X.heap.size/\b≠aP.heap.size) (b9 u S t).1:=(L.ai λb O=>bO.block b O.2.1 O.2.2.2).mono λb O=>⟨O.1,by have:=bO.size;have:=O.2.1;omega,O.2.2.1⟩
 have b7:=aZ.2.1.aj bq;have m:=aL bq aB b7;obtain⟨bs,a7,bS⟩:=bw.two;obtain⟨a3,am,aJ⟩:=b7.two;have bI:=bq.size;clear hX eJ a8 L bO bq aB b7 bw
 cases a9:(b9 u S t).2 with
 | true=>
  have b8:=ad a9;clear a9;go_wp2_with(fail);generalize bD:World.setCell _ _ _=Z;obtain⟨bH,bC⟩:=p9 0 [.slice aM af N,.slice bY z s,.slice bQ ay bK,.int .i64 (b9 u S t).1.fault] m.2.2 bD;have bc:=ah bH bC;clear bD bH bC bs a7 bS a3 am aJ;go_roundw
  case rel=>
   have ag:Fr (λb=>b=aP.heap.size) V Z:=Fr.trans (Fr.trans aZ.1 (Fr.mono m.1 λ_ h=>h.elim)) bc.2;have hs:=aZ.2.2.2.2.2.1 t aR.o;have co:(jO u S [t]).length=1:=by
    show ((if (b9 u S t).2 then [t] else [])++[]).length=1
    rw[b8.o];rfl
   refine⟨k+1,⟨aM,af,N,bY,z,s,bQ,ay,bK⟩,?_,by go_num,ab,ag,?_,?_⟩
   .rw[hs.1,Ld,co];go_num
   .rw[hs.2];exact bc.1
   .rw[hs.2];have U:=bc.2.size;exact(m.2.1.ai λb O=>bc.2.block b O.2.1 O.2.2).mono λb O=>⟨O.1,by have:=O.2.1;omega,O.2.2⟩
  case measure=>exact az
 | false=>
  have b8:=ad a9;clear a9;go_wp2_with(fail);clear bs a7 bS a3 am aJ;go_roundw
  case rel=>
   have ag:Fr (λb=>b=aP.heap.size) V X:=Fr.trans aZ.1 (Fr.mono m.1 λ_ h=>h.elim);have hs:=aZ.2.2.2.2.2.1 t aR.o;have co:(jO u S [t]).length=0:=by
    show ((if (b9 u S t).2 then [t] else [])++[]).length=0
    rw[b8.o];rfl
   refine⟨k+1,⟨ae,sm,ar,cD,ax,au,bx,hm,hd⟩,?_,by go_num,ab,ag,?_,?_⟩
   .rw[hs.1,Ld,co,Ll]
   .rw[hs.2,my b8.o];exact m.2.2
   .rw[hs.2,my b8.o];exact(aZ.2.2.1.GR (λb O=>O.2.1) m.1).mono λb O=>⟨O.1,by have:=O.2.1;omega,O.2.2⟩
  case measure=>exact az
 ):p:=h
theorem pE(h:p:=by
 have aH:=dq aE cg (ch.1.on aE) (ch.2.cS (Fr.ext aE) aE.size) aN;have cE:=aE.size;have dm:=cg.lt;obtain⟨a0,ap,aj⟩:=aN.two;clear be aE aN cg ch;go_wp2_with(fail);refine(JN u W ⟨GA,gn,gc,MA,mn,mc,PA,pn,pc⟩ cv.o aH.2.2.1).mono ?_;rintro e aP ⟨⟨bM,b2,bo,TA,tn,tc,HA,bT,hc⟩,rfl,H,aF⟩;have H1:=ah H aF;have b6:=aF.size;clear H aF a0 ap aj;dsimp only[SV.val];go_upto_region 2 with(fail);generalize hV:World.alloc _ _=V;have bm:=bb hV;have bV:=aT hV;have cw:=bV.lt;have aD:(⟨bM,b2,bo,TA,tn,tc,HA,bT,hc⟩:SV).Is V (λb=>W.heap.size<=b/\b<V.heap.size/\b≠aP.heap.size) (eK u):=(H1.1.ai λb O=>bm.block b (O.resolve_left λh=>h).2 λh=>h).mono λb O=>by have:=O.resolve_left λh=>h;omega
 have r:=aL aD bV (H1.2.trans bm);clear hV bm bV aD;go_wp2_with(fail);go_loopw [7,8] (λgO ce wr=>∃(k:Nat) (q:SV),gO=.int .i64 ((jO u (eK u) (l.take k)).length:Int)/\ce=.int .i64 k/\k<=n/\Fr (λb=>b=aP.heap.size) V wr/\an wr aP.heap.size 30 (q.val (iO u (eK u) (l.take k)))/\q.Is wr (λb=>W.heap.size<=b/\b<wr.heap.size/\b≠aP.heap.size) (iO u (eK u) (l.take k))) (λ_ ce _=>n - (intOf ce).toNat)
 case atStart=>exact⟨0,_,rfl,rfl,ab,LL,r.2.1,r.1⟩
 case round=>
  obtain⟨k,⟨ae,sm,ar,cD,ax,au,bx,hm,hd⟩,rfl,rfl,ai,hF,y,ak⟩:=hrel;have J:Ext W wr:=Fr.low (M:=λb=>b=aP.heap.size) (Fr.trans (Fr.mono r.2.2 λ_ h=>h.elim) hF) λb O=>ab;have cc:=tr cv.ok (l.take k) 0 (eK u) (ta cv.ok);have aK:=HQ (u:=u) (l.take k) (eK u);rw[List.length_take] at aK;have aQ:(jO u (eK u) (l.take k)).length<=100000:=ab;have ck:∀t,l[k]?=some t->jO u (eK u) (l.take (k+1))=jO u (eK u) (l.take k)++jO u (iO u (eK u) (l.take k)) [t]/\iO u (eK u) (l.take (k+1))=(b9 u (iO u (eK u) (l.take k)) t).1:=λt ht=>by
   rw[a1 ht,vg,uQ];exact⟨rfl,rfl⟩
  have j:k=n->iO u (eK u) (l.take k)=iO u (eK u) l/\jO u (eK u) (l.take k)=jO u (eK u) l:=λh=>by
   rw[Lj (aC aH.2.2.2.1.1)];exact⟨rfl,rfl⟩
  generalize hS:iO u (eK u) (l.take k)=S at *;generalize ay:(jO u (eK u) (l.take k))=M at *;have aZ:=gY hF y ak J cc ck j;have eT:=hF.size;have ac:=ad (show W.heap.size<=aP.heap.size/\aP.heap.size<V.heap.size/\V.heap.size<=wr.heap.size from ⟨b6,cw,hF.size⟩);have bR:=y.lt;clear cc ck j hS ay aK;by_cases aw:k<n
  .have aA:=aH.2.2.2.1.cS (Fr.ext J) J.size;obtain⟨b,o,t,bp,O,hx,hc⟩:=aA.int aw;subst bp;obtain⟨a0,ap,aj⟩:=(aH.2.2.2.2.aj J).two;obtain⟨a3,am,aJ⟩:=y.two;have aR:=ad hx;clear hF y ak J aA hx;go_upto_region 5 with(fail);refine uP (λ_=>False) [11] (.held 0 (.held 1 (.free 2 (.free 3 (.free 4 (.held 5 (.pick [6,10] (λi=>bif i == 6 then .free 7 (.free 8 (.free 9 (.pick [10] (λ_=>.pick [11] (λ_=>.free 12 (.stop)))))) else .pick [6] (λ_=>.free 7 (.free 8 (.free 9 (.pick [11] (λ_=>.free 12 (.stop)))))))))))))) ?_
   iterate 2 refine th ?_
   iterate 3 refine tf ?_
   refine th ?_;refine qW (P:=?pw) (ops:=?H2) (Q:=?H4) (R:=?H6) (tails:=?H9) (rest:=.pick [11] (λ_=>.free 12 (.stop))) (aa:=?H0)
    (C:=λ(bF:Nat) (Y:Value) dG=>Ext wr dG/\an dG bF 30 #[.slice none 0 0,.slice none 0 0,.slice none 0 0,.int .i64 0]/\wr.heap.size<=bF/\∃aq:SV,Y=.agg (aq.val (b9 u S t).1)/\aq.Is dG (λb=>W.heap.size<=b/\b<dG.heap.size/\b≠aP.heap.size/\b≠bF) (b9 u S t).1) (λkey=>?yV) ?yO
   case yV=>
    refine bt ?_ ?_
    ·
     refine aG rfl (λK hK=>?_) rfl;go_simp;refine(GY u S t _ (λb=>W.heap.size<=b/\b<wr.heap.size/\b≠aP.heap.size) wr.drew ⟨GA,gn,gc,MA,mn,mc,PA,pn,pc⟩ ⟨ae,sm,ar,cD,ax,au,bx,hm,hd⟩ cv.o aZ.2.2.2.2.1 (by rw[List.length_take];omega) (aH.2.2.1.on aZ.2.2.2.1.drew) (aZ.2.2.1.ai λb O=>rfl) (λb O=>O.2.1)).mono ?_;rintro e aV ⟨aq,rfl,T,a2⟩;refine ei hK (a2) ?_;clear hK K
     iterate 3 refine tf ?_
     refine ao ?_;refine fj ?_;generalize bD:World.alloc _ _=Z;have e2:=bb bD;have bv:wr.heap.size<=aV.heap.size:=a2.size;have cC:=e2.size;have F:Ext wr Z/\an Z aV.heap.size 30 #[.slice none 0 0,.slice none 0 0,.slice none 0 0,.int .i64 0]/\wr.heap.size<=aV.heap.size/\∃cp:SV,(Value.agg (aq.val (b9 u S t).1))=.agg (cp.val (b9 u S t).1)/\cp.Is Z (λb=>W.heap.size<=b/\b<Z.heap.size/\b≠aP.heap.size/\b≠aV.heap.size) (b9 u S t).1:=
      ⟨(Fr.aQ a2).trans e2,by rw[<-bD];exact LM,bv,aq,rfl,(T.ai λb O=>e2.block b (O.elim (λh=>ab) λh=>h.2) λh=>h).mono λb O=>by
       have hd:wr.drew.heap.size=wr.heap.size:=rfl;have:=ac.o;rcases O with O|O<;>omega⟩
     clear bD e2 bv cC T a2;revert F;generalize aV.heap.size=bF;generalize (Value.agg (aq.val (b9 u S t).1))=Y;intro F;exact key bF Y _ F
    ·
     refine fj ?_;generalize bi:World.drew (World.alloc _ _)=c3;have e1:=gX bi;have ca:=lN bi;have aI:=ca.lt;refine ao ?_;refine aG rfl (λK hK=>?_) rfl;go_simp;refine(GY u S t _ (λb=>W.heap.size<=b/\b<wr.heap.size/\b≠aP.heap.size) c3 ⟨GA,gn,gc,MA,mn,mc,PA,pn,pc⟩ ⟨ae,sm,ar,cD,ax,au,bx,hm,hd⟩ cv.o aZ.2.2.2.2.1 (by rw[List.length_take];omega) (aH.2.2.1.on (aZ.2.2.2.1.trans e1)) (aZ.2.2.1.GR (λb O=>O.2.1) e1) (λb O=>by have:=O.2.1;omega)).mono ?_;rintro e aV ⟨aq,rfl,T,a2⟩;refine ei hK (a2) ?_;clear hK K
     iterate 3 refine tf ?_
     have bv:=a2.size;have F:Ext wr aV/\an aV wr.heap.size 30 #[.slice none 0 0,.slice none 0 0,.slice none 0 0,.int .i64 0]/\wr.heap.size<=wr.heap.size/\∃cp:SV,(Value.agg (aq.val (b9 u S t).1))=.agg (cp.val (b9 u S t).1)/\cp.Is aV (λb=>W.heap.size<=b/\b<aV.heap.size/\b≠aP.heap.size/\b≠wr.heap.size) (b9 u S t).1:=
      ⟨e1.trans a2,ca.aj a2,Lb _,aq,rfl,T.mono λb O=>by
       have:=ac.o;rcases O with O|O<;>omega⟩
     clear bi e1 ca aI bv T a2;revert F key;generalize (Value.agg (aq.val (b9 u S t).1))=Y;intro key F;exact key wr.heap.size Y _ F
   case yO=>
    rintro bF Y dG ⟨a8,eJ,gE,⟨aM,af,N,bY,z,s,bQ,ay,bK⟩,rfl,L⟩;dsimp only[SV.val];obtain⟨bs,a7,bS⟩:=eJ.two;clear a0 ap aj a3 am aJ hc;exact hk
  .have aW:k=n:=ab;have aO:=ad aW;obtain⟨a3,am,aJ⟩:=y.two;have al:=aH.2.1.aj J;have I:=ah al (aH.1.trans J);obtain⟨bE,bg,bh⟩:=al.two;clear hF y ak J aW al;go_wp2_with(fail);generalize hX:World.setCell _ _ _=Z;obtain⟨bH,bn,bC⟩:=cm (w:=w) [.slice ae sm ar,.slice cD ax au,.slice bx hm hd,.int .i64 S.fault] (by rfl) I.1 I.2 ab hX;have bc:=ah bn bC;clear hX bn bC bE bg bh a3 am aJ;obtain⟨bE,bg,bh⟩:=bH.two;refine LK (v:=.tuple #[.agg #[.slice ae sm ar,.slice cD ax au,.slice bx hm hd,.int .i64 S.fault],.int .i64 (M.length:Int)]) (by simp[results,Tryz.results33,go_sem,bE]) rfl ?_;have j:=aZ.2.2.2.2.2.2 aO.o;rw[<-j.1,<-j.2];have bB:=bc.2.size;exact⟨⟨ae,sm,ar,cD,ax,au,bx,hm,hd⟩,rfl,(aZ.2.2.1.ai λb O=>bc.2.block b O.2.1 (aC O.1)).mono λb O=>⟨by have:=O.1;omega,by have:=O.2.1;omega⟩,bc.1⟩
 ):p:=h
end CK
open CK in
theorem I3(u:av)(l:List Int)(A:LP)(n c:Nat)(w:World)(p:UV)(hU:zo u)(hu:p.Ok w u)(hl:cK (EF b5) 1 w w.heap.size A n l)(hn:n<=100000) :
  Calls prog 33 #[.agg (p.val u),.slice A n c] w (zw w (iO u (eK u) l) (jO u (eK u) l).length):=by
 obtain⟨GA,gn,gc,MA,mn,mc,PA,pn,pc⟩:=p;have ch:=ah hu hl;have cv:=ad hU;clear hU hu hl;dsimp only[UV.val];go_enter func33,ntmps33;exact pD
end Go.Proofs.YtflecliffjbleaaGreat

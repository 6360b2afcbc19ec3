/- Part 30 of the proof. No condition of its own. -/
import Derived.Test.YtnigabjngpnbiaaGreatQ27
import Derived.Test.YtnigabjngpnbiaaGreatQ28
namespace Go.Proofs.YtnigabjngpnbiaaGreat
open Go.RowKit Go.Proofs.Tryz
set_option maxRecDepth 1000000
set_option maxHeartbeats 25600000
set_option linter.unusedVariables false
variable{p:Prop}
namespace B4
theorem gO(h:p:=by
 refine cY ?_;generalize hX:World.setCell _ _ _=Z;obtain⟨bq,a5,a4⟩:=bk (w:=w) [.slice bz gn c1,.slice bg (own u.af).length (own u.af).length,.slice bU 1 1,.int .i64 0] (by rfl) s.2.2.2.2.1 s.2.2.2.2.2 ad hX;have bn:=ak a5 a4;clear hX a5 a4 bh an aM;obtain⟨bh,an,aM⟩:=bq.two;clear bq;go_wp2_with(fail);refine Ke (v:=.agg #[.slice bz gn c1,.slice bg (own u.af).length (own u.af).length,.slice bU 1 1,.int .i64 0]) (by simp[results,Tryz.results28,go_sem,bh]) rfl ?_;have cF:=bn.2.size;have bC:u.globals.length=gn:=by have:=(ab.2.2).at_.g.1;rw[JM] at this;exact this
 have br:∀b,W.heap.size<=b->b<V.heap.size->Z.heap[b]?=V.heap[b]?:=λb ac ap=>bn.2.block b ap ad;have hm:∀b,W.heap.size<=b->b<V.heap.size->(False\/(w.heap.size<=b/\b<Z.heap.size)):=λb ac ap=>.inr ⟨ad,ad⟩;have g:=s.1.al (J:=Z) λb O=>br b (s.2.1 b O).1 (s.2.1 b O).2;rw[wq];have cI:cU u u.main [] []=⟨u.main,0,List.replicate L 0,[]⟩:=by unfold cU;rw[cx.2.1];simp
 rw[cI];exact⟨⟨bz,gn,c1,bg,(own u.af).length,(own u.af).length,bU,1,1⟩,rfl,⟨⟨g.sl (ck _) (by rw[JM];exact bC) λb O=>hm b (s.2.1 b O).1 (s.2.1 b O).2,(s.2.2.1.al λb O=>br b O.1 O.2.1).mono λb O=>hm b O.1 O.2.1,(s.2.2.2.1.al λb O=>br b O.1 O.2.1).mono λb O=>hm b O.1 O.2.1⟩,g.cap,JI _,JI _⟩,bn.1⟩
 ):p:=h
theorem kT(h:p:=by
 have ab:=av ar cq (bR.on ar);have cP:=ar.size;have dv:=cq.lt;have bA:=(ar.cell cx.2.2.1 λh=>h).trans cx.2.2.2;have bB:pb<W.heap.size:=JJ cx.2.2.1 ar.size;obtain⟨a0,al,af⟩:=aK.two;obtain⟨ws,l4⟩:∃ws,ws=W.heap.size:=⟨_,rfl⟩
 have b7:w.heap.size<ws:=ad;have dp:pb<ws:=ad;have aN:=ae l4;clear ba ar aK cq l4;refine uU (λk=>¬k<ws) [24] (.free 1 (.held 2 (.free 4 (.held 5 (.free 9 (.held 10 (.free 11 (.held 12 (.free 13 (.held 14 (.free 15 (.free 16 (.held 17 (gd 8 0 0)))))))))))))) ?_;refine tf ?_;refine pO ?_;refine tf ?_;refine pO ?_;refine tf ?_;refine pO ?_;refine tf ?_;refine pO ?_;refine tf ?_;refine pO ?_
 iterate 2 refine tf ?_
 refine pO ?_;have be:Ext W W.drew:=(Fr.refl _ W).drew;refine Ey (W:=W) (gs:=u.globals) (gn:=gn) (gc:=gc) (mn:=mn) (mc:=mc) (L:=L) (ws:=ws) (GA:=GA) (MA:=MA) (mi:=u.main) (X:=u.af) (p0:=?Jj) (a0:=?I3) (p3:=?Jr) (a3:=?Jb) (p6:=?JE) (a6:=?JA) (p7:=?Js) (a7:=?Jc) (p8:=?Jt) (a8:=?Jd) (p18:=?Jm) (a18:=?I6) (p19:=?Jn) (a19:=?I7) (p20:=?Jo) (a20:=?I8) (p21:=?Jp) (a21:=?I9) (p22:=?Jq) (a22:=?Ja) ?hG rU ?hM ?hX c5 ?l4 ?o0 ?o3 ?o6 ?o7 ?o8 ?Ip ?Iq ?Ir ?It ?Iu ?jP 8 0 0 ad ad ad undef undef undef undef undef undef undef undef undef undef [] W.drew be ?sA ?sB
 case hG=>exact ab.2.2.at_.g
 case hM=>exact ab.2.2.at_.m.na
 case hX=>exact cx.1.ok.xK
 case l4=>have:=aN.o;omega
 case o0=>rfl
 case o3=>rfl
 case o6=>rfl
 case o7=>rfl
 case o8=>rfl
 case Ip=>rfl
 case Iq=>rfl
 case Ir=>rfl
 case It=>rfl
 case Iu=>rfl
 case sA=>exact⟨.inl ⟨rfl,rfl,.inl ⟨rfl,rfl,rfl,rfl⟩⟩,λh=>ad,λh=>ad,λk aj=>by simp at aj⟩
 case sB=>exact⟨λh=>ad,λh=>ad,λh=>ad⟩
 case jP=>
  intro ax v6 bf v10 v11 q y H N R E V a9 bu aK;obtain⟨bz,c1,F,rfl,r,z⟩:∃A c F,v6=.slice A gn c/\Own V 3 1 A gn c (u.globals.map cX) F/\∀k∈F,W.heap.size<=k/\k<V.heap.size:=by
   rcases bu.g with⟨h,_⟩|⟨h,_⟩|⟨_,_,F,h,hF⟩
   .omega
   .omega
   .rcases h with⟨h,_⟩|⟨h,_⟩|⟨_,A,c,ac,ap⟩
    .omega
    .omega
    .exact⟨A,c,F,ac,ap,hF⟩
  obtain⟨bg,rfl,a1⟩:=bu.t ad;obtain⟨bU,rfl,aY⟩:=aK.h ad;have m:=ab.2.1.aj a9;have G:=ab.1.trans a9;have dn:=a9.size;have s:=dq r z a1 aY m G;obtain⟨bh,an,aM⟩:=m.two;clear r z a1 aY m G bu aK a9 a0 al af bA;refine tf ?_;exact gN
 ):p:=h
end B4
open B4 in
theorem Iz(u:ay)(w:World)(p:UV)(hU:xX u)(hu:p.Ok w u) :
  Calls prog 28 #[.agg (p.val u)] w (E8 (λ_=>False) w (dI u)):=by
 obtain⟨GA,gn,gc,MA,mn,mc,PA,pn,pc⟩:=p;obtain⟨dN,P,ag,bl,bS⟩:=hU.ok.main;have dl:=hU.ok.procs dN (JL ag);have cK:=dl.ints;have rU:gn<=100000:=by have ac:=hu.at_.g.1;have ap:=hU.ok.lN;rw[JM] at ac;have aD:u.globals.length=gn:=ac;omega
 have bB:=hu.at_.p.1;rw[JM] at bB;simp only at bB;have bI:=(List.getElem?_eq_some_iff.1 ag).1;obtain⟨pb,db,cZ,S,cN,bx,e,ch,aH,cD,b5,b3,bA,cO,_,_⟩:=hu.at_.proc (k:=u.main.toNat) (by show u.main.toNat<pn;omega);simp only at e;subst e;rw[ag] at aH;injection aH with aH;subst aH;obtain⟨L,bd⟩:=JN (a:=dN.locals) ad;rw[bd] at bA;have c5:L<=100000:=ad;have b4:u.main<(pn:Int):=ad;have aI:eu u u.main=L:=by unfold eu;rw[ag];simp[bd]
 have cx:=b9 hU aI ch bA;have bR:=ae hu;clear hU ag bl bS dl cK hu bB bI cD b5 b3 bA cO bd aI;dsimp only[UV.val];go_enter func28,ntmps28;exact kS
namespace Cd
theorem z4(h:p:=by
 rw[b6.o];exact ys
 ):p:=h
theorem zk(h:p:=by
 clear b2 b5 a0 al af d0 aQ aR e0 bl bm c0 c1 c2 c3 J flb Q a8 k aT b0 am aw;exact Fv
 ):p:=h
theorem qS(h:p:=by
 clear cX ch ca;rcases dp.o with h|h
 all_goals
  first
   | have q1:(x.op == 1)=true:=by simpa using h
   | have q1:(x.op == 1)=false:=by simp;omega
  first
   | have cM:(x.op == 2)=true:=by simpa using h
   | have cM:(x.op == 2)=false:=by simp;omega
  first
   | have c7:(x.op == 3)=true:=by simpa using h
   | have c7:(x.op == 3)=false:=by simp;omega
  first
   | have c8:(x.op == 4)=true:=by simpa using h
   | have c8:(x.op == 4)=false:=by simp;omega
  first
   | have q5:(x.op == 5)=true:=by simpa using h
   | have q5:(x.op == 5)=false:=by simp;omega
  first
   | have dl:(x.op == 6)=true:=by simpa using h
   | have dl:(x.op == 6)=false:=by simp;omega
  first
   | have q7:(x.op == 7)=true:=by simpa using h
   | have q7:(x.op == 7)=false:=by simp;omega
  first
   | have dF:(x.op == 8)=true:=by simpa using h
   | have dF:(x.op == 8)=false:=by simp;omega
  have cL:=ae h;clear h;go_wp2_with(fail);refine(oV u s t f x.place N X ⟨GA,gn,gc,MA,mn,mc,PA,pn,pc⟩ ⟨bP,cg,bQ,TA,tn,tc,HA,hn,hc⟩ QA qm qc ⟨l.hU.ok,l.hS,l.sm,l.ht,⟨cc,l.hp,cw.1⟩,ab.2.2.2.2.1.on aJ.2.2,ab.2.2.2.2.2.on aJ.2.2,(dC.on aJ.2.1).place⟩).mono ?_;rintro e cE ⟨rfl,aP⟩;rw[hE l.ht];have aA:Ext X cE:=Fr.of aP;have ce:=cw.2.2;have L:=ae ap.o;generalize bu u s f x.place=R at *;obtain⟨aD,z⟩:=R;have aZ:=ae ce;have H:=av (RO.aj aJ.1 aA) (aJ.2.1.trans aA) (aJ.2.2.trans aA);have b4:=ae H.2.2;have dI:=aA.size;clear ce aP aA a0 al af b0 am aw d0 aQ aR e0 bl bm c0 c1 c2 c3 J flb Q a8 k aT;obtain⟨b0,am,aw⟩:=(ab.2.2.1.aj H.2.2).two;obtain⟨d0,aQ,aR⟩:=(bN.aj H.2.1).two;obtain⟨e0,bl,bm⟩:=H.1.o.two;obtain⟨a8,k,flb,Q,J,c0,c1,c2,c3,aT⟩:=H.1.top;obtain⟨a0,al,af⟩:=(ab.2.1.aj b4.o).two;by_cases bi:z=0
  case neg=>
   have b6:=ae (L.bad bi);have bX:(z != 0)=true:=by simpa using bi
   exact zj
  have bX:(z != 0)=false:=by simpa using bi
  have aS:=aZ.2 bi;have bb:=kZ l.hU.ok;have cm:aD<=5000:=by simp only at aS;omega
  have bS:=ae bi;clear bi aS bb
 ·
  have K:=ae (L.lf bS.o cL.o);have ao:=ae (L.ln bS.o cL.o);go_wp2_with(fail);refine(sP MA TA mn mc tn tc u.af s.table aD t cE (ab.2.2.2.2.1.on b4.o).at_.m.na l.hU.ok.xK (ab.2.2.2.2.2.on b4.o).at_.t.holds cw.2.1 ad).mono ?_;intro e cy a6;have aq:(eV u.af s.table aD t).length=tn:=by rw[eD];exact br.2.2.2.1.symm
  obtain⟨a1,aW,rfl,cA,cj,aE,aa⟩:=a6.open_ (n:=tn) aq;have b5:Ext cE cy:=Fr.of aa;generalize hT:eV u.af s.table aD t=T at *;have r:Own cy 89 2 a1 tn aW (T.flatMap bA) (bd a1 tn aW):=⟨gC aE (J4 _),rfl⟩
  have aH:∀b∈bd a1 tn aW,cE.heap.size<=b/\b<cy.heap.size:=λb O=>aE.lt b (by simpa using O);have aG:Sl cy (λb=>cE.heap.size<=b/\b<cy.heap.size) a1 tn (T.map kE):=r.sl (dd _) (by rw[JM];exact aq) aH;have aj:=av (RO.aj H.1 b5) (H.2.1.trans b5) (H.2.2.trans b5);have b1:=ak aG cA;have aV:=b5.size;clear hT aq a6 cj aE aa b5 r aH aG cA a0 al af b0 am aw d0 aQ aR e0 bl bm c0 c1 c2 c3 J flb Q a8 k aT;obtain⟨b0,am,aw⟩:=(ab.2.2.1.aj aj.2.2).two;obtain⟨d0,aQ,aR⟩:=(bN.aj aj.2.1).two;obtain⟨e0,bl,bm⟩:=aj.1.o.two;obtain⟨a8,k,flb,Q,J,c0,c1,c2,c3,aT⟩:=aj.1.top;go_upto_region 38 with(fail);generalize hX:World.setCell _ _ _=Y;obtain⟨cp,bE⟩:=aj.1.G6 b1.1 b1.2 (λb aN=>.inr ⟨by have:=aJ.1.lo bV.heap.size (by simp);have:=aN.1;omega,aN.2,by have:=aJ.1.lo bV.heap.size (by simp);have:=aN.1;omega⟩) hX;have cD:=da hX;have dx:=(aJ.1.lo bV.heap.size (by simp)).1;have i:Ext V Y:=Fr.low (M:=λb=>b=bV.heap.size) (Fr.trans (Fr.mono aj.2.1 λ_ h=>h.elim) cD) λb O=>ad;have bw:=av cp bE (b9.trans i);have bs:=ae bw.2.2;have aK:=i.size;clear hX cp bE cD i b0 am aw d0 aQ aR e0 bl bm c0 c1 c2 c3 J flb Q a8 k aT
  cases bO:free u.af s.table aD t with
  | true=>
   exact Fp
  | false=>
   have b6:=ae (ao.o bO);obtain⟨b0,am,aw⟩:=(ab.2.2.1.aj bs.o).two;have a2:=ak (ab.2.2.2.1.aj bs.o) (ab.1.trans bs.o);obtain⟨bh,an,aM⟩:=a2.1.two;go_wp2_with(fail);generalize hX:World.setCell _ _ _=Z;obtain⟨bq,a5,a4⟩:=bk (w:=w) [.slice bP cg bQ,.slice TA tn tc,.slice HA hn hc,.int .i64 s.fault] (by rfl) a2.1 a2.2 ad hX;exact z3
 ·
  have K:=ae (L.uf bS.o cL.o);have ao:=ae (L.un bS.o cL.o);go_wp2_with(fail);refine(pM MA TA mn mc tn tc u.af s.table aD t cE (ab.2.2.2.2.1.on b4.o).at_.m.na l.hU.ok.xK (ab.2.2.2.2.2.on b4.o).at_.t.holds cw.2.1 ad).mono ?_;intro e cy a6;have aq:(cJ u.af s.table aD t).length=tn:=by rw[ez];exact br.2.2.2.1.symm
  obtain⟨a1,aW,rfl,cA,cj,aE,aa⟩:=a6.open_ (n:=tn) aq;have b5:Ext cE cy:=Fr.of aa;generalize hT:cJ u.af s.table aD t=T at *;have r:Own cy 89 2 a1 tn aW (T.flatMap bA) (bd a1 tn aW):=⟨gC aE (J4 _),rfl⟩
  have aH:∀b∈bd a1 tn aW,cE.heap.size<=b/\b<cy.heap.size:=λb O=>aE.lt b (by simpa using O);have aG:Sl cy (λb=>cE.heap.size<=b/\b<cy.heap.size) a1 tn (T.map kE):=r.sl (dd _) (by rw[JM];exact aq) aH;have aj:=av (RO.aj H.1 b5) (H.2.1.trans b5) (H.2.2.trans b5);have b1:=ak aG cA;have aV:=b5.size;clear hT aq a6 cj aE aa b5 r aH aG cA a0 al af b0 am aw d0 aQ aR e0 bl bm c0 c1 c2 c3 J flb Q a8 k aT;obtain⟨b0,am,aw⟩:=(ab.2.2.1.aj aj.2.2).two;obtain⟨d0,aQ,aR⟩:=(bN.aj aj.2.1).two;obtain⟨e0,bl,bm⟩:=aj.1.o.two;obtain⟨a8,k,flb,Q,J,c0,c1,c2,c3,aT⟩:=aj.1.top;go_upto_region 41 with(fail);generalize hX:World.setCell _ _ _=Y;obtain⟨cp,bE⟩:=aj.1.G6 b1.1 b1.2 (λb aN=>.inr ⟨by have:=aJ.1.lo bV.heap.size (by simp);have:=aN.1;omega,aN.2,by have:=aJ.1.lo bV.heap.size (by simp);have:=aN.1;omega⟩) hX;have cD:=da hX;have dx:=(aJ.1.lo bV.heap.size (by simp)).1;have i:Ext V Y:=Fr.low (M:=λb=>b=bV.heap.size) (Fr.trans (Fr.mono aj.2.1 λ_ h=>h.elim) cD) λb O=>ad;have bw:=av cp bE (b9.trans i);have bs:=ae bw.2.2;have aK:=i.size;clear hX cp bE cD i b0 am aw d0 aQ aR e0 bl bm c0 c1 c2 c3 J flb Q a8 k aT
  cases bO:heldBy u.af s.table aD t with
  | true=>
   exact Fp
  | false=>
   have b6:=ae (ao.o bO);obtain⟨b0,am,aw⟩:=(ab.2.2.1.aj bs.o).two;have dc:=bs.size;go_wp2_with(fail);refine(nC P s ⟨bP,cg,bQ,TA,tn,tc,HA,hn,hc⟩ 3 Y (bR.2.2.FZ G.o (ab.1.trans bs.o)) (λb O=>JJ (G.o b O) (ab.1.trans bs.o).size)).mono ?_;rintro e cy ⟨⟨dD,cW,cx,bI,bZ,bT,bK,bj,ck⟩,rfl,b2,b5⟩;have dj:=b5.size;have cT:=ae b2;have a2:=ak (ab.2.2.2.1.aj (bs.trans b5)) ((ab.1.trans bs.o).trans b5);clear b2 b5 b0 am aw;obtain⟨bh,an,aM⟩:=a2.1.two;go_wp2_with(fail);generalize hX:World.setCell _ _ _=Z;obtain⟨bq,a5,a4⟩:=bk (w:=w) [.slice dD cW cx,.slice bI bZ bT,.slice bK bj ck,.int .i64 3] (by rfl) a2.1 a2.2 ad hX;have bn:=ak a5 a4;clear hX a5 a4 bh an aM;obtain⟨bh,an,aM⟩:=bq.two;refine Ke (v:=.tuple #[.agg #[.slice dD cW cx,.slice bI bZ bT,.slice bK bj ck,.int .i64 3],.bool true]) (by simp[results,Tryz.results29,go_sem,bh]) rfl ?_;rw[b6.o];exact eE (B:=Y.heap.size) (aB:={s with fault:=3}) cT.o bn.2 (λb O=>⟨λhl=>by have:=G.o b hl;omega,ad⟩) (λb O=>by have:=G.o b O;omega) ad bn.1 rfl
 ):p:=h
theorem qU(h:p:=by
 exact qR
 ):p:=h
theorem qY(h:p:=by
 have bB:cQ (bp u) cc.locals cc.aq x.place:=by
  exact x1
 have az:=h.hS.xB;have cz:t<=1000:=ad;have cO:=h.hS.tok bo;have ce:=iJ (s:=s) (nl:=cc.locals) (nk:=f.aq.length) h.hU.ok h.hF (Int.le_refl _) (by rw[h.hF.ru h.hp];exact bB);have ap:=ae (IP (u:=u) (s:=s) (t:=t) (f:=f) (x:=x) cf);have cw:=av bB cO ce;clear bB cO ce az;exact qT
 ):p:=h
end Cd
open Cd in
theorem o2(u:ay)(s:ah)(t:Int)(f:ai)(cc:cG)(x:ax)(N:Nat)(P:Nat->Prop)(w:World)(p:UV)(q:SV)(h:je u s t f cc x N)(bo:N<=100000)(cf:x.op=4\/x.op=5)(hu:p.Ok w u)(aC:q.Is w P s)(S:∀b,P b->b<w.heap.size) :
  Calls prog 29 #[.agg (p.val u),.agg (q.val s),.int .i64 t] w (cH P w (bU u s t f x).1 (bU u s t f x).2):=by
 exact qX
end Go.Proofs.YtnigabjngpnbiaaGreat

/- Part 45 of the proof. No condition of its own. -/
import Derived.Test.YtnigabjngpnbiabGreatF31
import Derived.Test.YtnigabjngpnbiabGreatF36
namespace Go.Proofs.YtnigabjngpnbiabGreat
open Go.RowKit Go.Proofs.Tryz
set_option maxRecDepth 1000000
set_option maxHeartbeats 25600000
set_option linter.unusedVariables false
variable{p:Prop}
namespace DW
theorem fC(h:p:=by
 refine cj ?_;generalize hX:World.setCell _ _ _=Z;obtain⟨bm,bd,a4⟩:=a9 (w:=w) [.slice cR gn c1,.slice A2 (own u.af).length (own u.af).length,.slice cu 1 1,(0:Int)] (by rfl) j.2.2.2.2.1 j.2.2.2.2.2 ad hX;have bj:=ah bd a4;clear hX bd a4 bq a1 a5;obtain⟨bq,a1,a5⟩:=bm.two;clear bm;go_wp2_with(fail);refine NB (v:=.agg #[.slice cR gn c1,.slice A2 (own u.af).length (own u.af).length,.slice cu 1 1,(0:Int)]) (by simp[results,Tryz.results50,go_sem,bq]) rfl ?_;have cY:=bj.2.size;have cv:u.globals.length=gn:=by have:=(al.2.2).at_.g.1;rw[M5] at this;exact this
 have aS:∀b,W.heap.size<=b->b<V.heap.size->Z.heap[b]?=V.heap[b]?:=λb ac az=>bj.2.block b az ad;have hm:∀b,W.heap.size<=b->b<V.heap.size->(False\/(w.heap.size<=b/\b<Z.heap.size)):=λb ac az=>.inr ⟨ad,ad⟩;have ao:=j.1.ak (ab:=Z) λb O=>aS b (j.2.1 b O).1 (j.2.1 b O).2;rw[Ha];have bE:dt u u.main [] []=⟨u.main,0,List.replicate L 0,[]⟩:=by unfold dt;rw[cz.2.1];simp
 rw[bE];exact⟨⟨cR,gn,c1,A2,(own u.af).length,(own u.af).length,cu,1,1⟩,rfl,⟨⟨ao.sl (cO _) (by rw[M5];exact cv) λb O=>hm b (j.2.1 b O).1 (j.2.1 b O).2,(j.2.2.1.ak λb O=>aS b O.1 O.2.1).mono λb O=>hm b O.1 O.2.1,(j.2.2.2.1.ak λb O=>aS b O.1 O.2.1).mono λb O=>hm b O.1 O.2.1⟩,ao.cap,MU _,MU _⟩,bj.1⟩
 ):p:=h
theorem nG(h:p:=by
 have al:=ay aF cx (cc.on aF);have cZ:=aF.size;have dA:=cx.lt;have bv:=(aF.cell cz.2.2.1 λh=>h).trans cz.2.2.2;have bo:pb<W:=M0 cz.2.2.1 aF.size;obtain⟨a0,ak,af⟩:=aT.two;obtain⟨ws,mL⟩:∃ws,ws=W.heap.size:=⟨_,rfl⟩
 have ck:w<ws:=ad;have dk:pb<ws:=ad;have aX:=ae mL;clear be aF aT cx mL;refine sK (λk=>¬k<ws) [24] (.free 1 (.held 2 (.free 4 (.held 5 (.free 9 (.held 10 (.free 11 (.held 12 (.free 13 (.held 14 (.free 15 (.free 16 (.held 17 (g8 8 0 0)))))))))))))) ?_;refine tf ?_;refine pd ?_;refine tf ?_;refine pd ?_;refine tf ?_;refine pd ?_;refine tf ?_;refine pd ?_;refine tf ?_;refine pd ?_
 iterate 2 refine tf ?_
 refine pd ?_;have bc:Ext W W.drew:=(Fr.refl _ W).drew;refine Hd (W:=W) (gs:=u.globals) (gn:=gn) (gc:=gc) (mn:=mn) (mc:=mc) (L:=L) (ws:=ws) (GA:=GA) (MA:=MA) (mi:=u.main) (X:=u.af) (p0:=?Mo) (a0:=?L6) (p3:=?My) (a3:=?Me) (p6:=?MN) (a6:=?MH) (p7:=?Mz) (a7:=?Mf) (p8:=?MB) (a8:=?Mg) (p18:=?Mr) (a18:=?L9) (p19:=?Mt) (a19:=?Ma) (p20:=?Mu) (a20:=?Mb) (p21:=?Mw) (a21:=?Mc) (p22:=?Mx) (a22:=?Md) ?hG wi ?hM ?hX cC ?mL ?o0 ?o3 ?o6 ?o7 ?o8 ?Lr ?Ls ?Lt ?Lu ?Lv ?iq 8 0 0 ad ad ad undef undef undef undef undef undef undef undef undef undef [] W.drew bc ?sA ?sB
 case hG=>exact al.2.2.at_.g
 case hM=>exact al.2.2.at_.m.tO
 case hX=>exact cz.1.ok.Gq
 case mL=>have:=aX.o;omega
 case o0=>rfl
 case o3=>rfl
 case o6=>rfl
 case o7=>rfl
 case o8=>rfl
 case Lr=>rfl
 case Ls=>rfl
 case Lt=>rfl
 case Lu=>rfl
 case Lv=>rfl
 case sA=>exact⟨.inl ⟨rfl,rfl,.inl ⟨rfl,rfl,rfl,rfl⟩⟩,λh=>ad,λh=>ad,λk aj=>by simp at aj⟩
 case sB=>exact⟨λh=>ad,λh=>ad,λh=>ad⟩
 case iq=>
  intro ai v6 bz v10 v11 q s y G N E V aC bF aT;obtain⟨cR,c1,F,rfl,r,m⟩:∃A c F,v6=.slice A gn c/\Own V 3 1 A gn c (u.globals.map dv) F/\∀k∈F,W<=k/\k<V:=by
   rcases bF.g with⟨h,_⟩|⟨h,_⟩|⟨_,_,F,h,hF⟩
   .omega
   .omega
   .rcases h with⟨h,_⟩|⟨h,_⟩|⟨_,A,c,ac,az⟩
    .omega
    .omega
    .exact⟨A,c,F,ac,az,hF⟩
  obtain⟨A2,rfl,aR⟩:=bF.t ad;obtain⟨cu,rfl,aQ⟩:=aT.h ad;have z:=al.2.1.aj aC;have U:=al.1.trans aC;have dm:=aC.size;have j:=dH r m aR aQ z U;obtain⟨bq,a1,a5⟩:=z.two;clear r m aR aQ z U bF aT aC a0 ak af bv;refine tf ?_;exact fQ
 ):p:=h
end DW
open DW in
theorem LF(u:aw)(w:World)(p:UV)(hU:yj u)(hu:p.Ok w u) :
  Calls prog 50 #[.agg (p.val u)] w (Kh (λ_=>False) w (eS u)):=by
 obtain⟨GA,gn,gc,MA,mn,mc,PA,pn,pc⟩:=p;obtain⟨dV,b4,cw,aM,bN⟩:=hU.ok.main;have ds:=hU.ok.procs dV (M4 cw);have cm:=ds.ints;have wi:gn<=100000:=by have ac:=hu.at_.g.1;have az:=hU.ok.qM;rw[M5] at ac;have aV:u.globals.length=gn:=ac;omega
 have bo:=hu.at_.p.1;rw[M5] at bo;simp only at bo;have ce:=(List.getElem?_eq_some_iff.1 cw).1;obtain⟨pb,gR,dq,S,cB,bQ,e,bl,cU,ci,cr,cf,bv,cL,_,_⟩:=hu.at_.proc (k:=u.main.toNat) (by show u.main.toNat<pn;omega);simp only at e;subst e;rw[cw] at cU;injection cU with cU;subst cU;obtain⟨L,aE⟩:=M6 (a:=dV.locals) ad;rw[aE] at bv;have cC:L<=100000:=ad;have cK:u.main<(pn:Int):=ad;have aJ:fi u u.main=L:=by unfold fi;rw[cw];simp[aE]
 have cz:=br hU aJ bl bv;have cc:=ae hu;clear hU cw aM bN ds cm hu bo ce ci cr cf bv cL aE aJ;dsimp only[UV.val];go_enter func50,ntmps50;exact nF
namespace D5
theorem Cp(h:p:=by
 rw[bZ.o];exact AZ
 ):p:=h
theorem BE(h:p:=by
 clear ca bV a0 ak af d0 aQ aS e0 a6 ag c0 c1 c2 c3 J flb ab bu k ce bs am aK;exact H7
 ):p:=h
theorem s5(h:p:=by
 clear ci cf bt;rcases cX.o with h|h
 all_goals
  first
   | have q1:(x.op == 1)=true:=by simpa using h
   | have q1:(x.op == 1)=false:=by simp;omega
  first
   | have cL:(x.op == 2)=true:=by simpa using h
   | have cL:(x.op == 2)=false:=by simp;omega
  first
   | have de:(x.op == 3)=true:=by simpa using h
   | have de:(x.op == 3)=false:=by simp;omega
  first
   | have dc:(x.op == 4)=true:=by simpa using h
   | have dc:(x.op == 4)=false:=by simp;omega
  first
   | have q5:(x.op == 5)=true:=by simpa using h
   | have q5:(x.op == 5)=false:=by simp;omega
  first
   | have dj:(x.op == 6)=true:=by simpa using h
   | have dj:(x.op == 6)=false:=by simp;omega
  first
   | have q7:(x.op == 7)=true:=by simpa using h
   | have q7:(x.op == 7)=false:=by simp;omega
  first
   | have dJ:(x.op == 8)=true:=by simpa using h
   | have dJ:(x.op == 8)=false:=by simp;omega
  have cG:=ae h;clear h;go_wp2_with(fail);refine(q3 u s t f x.place N X ⟨GA,gn,gc,MA,mn,mc,PA,pn,pc⟩ ⟨bI,bU,bx,TA,tn,tc,HA,hn,hc⟩ QA qm qc ⟨i.hU.ok,i.hS,i.sm,i.ht,⟨cq,i.hp,ck.1⟩,al.2.2.2.2.1.on aP.2.2,al.2.2.2.2.2.on aP.2.2,(dy.on aP.2.1).place⟩).mono ?_;rintro e cO ⟨rfl,bE⟩;rw[iO i.ht];have cu:Ext X cO:=Fr.of bE;have aR:=ck.2.2;have ar:=ae r.o;generalize bH u s f x.place=R at *;obtain⟨K,z⟩:=R;have bz:=ae aR;have y:=ay (RO.aj aP.1 cu) (aP.2.1.trans cu) (aP.2.2.trans cu);have bQ:=ae y.2.2;have dI:=cu.size;clear aR bE cu a0 ak af bs am aK d0 aQ aS e0 a6 ag c0 c1 c2 c3 J flb ab bu k ce;obtain⟨bs,am,aK⟩:=(al.2.2.1.aj y.2.2).two;obtain⟨d0,aQ,aS⟩:=(b4.aj y.2.1).two;obtain⟨e0,a6,ag⟩:=y.1.o.two;obtain⟨bu,k,flb,ab,J,c0,c1,c2,c3,ce⟩:=y.1.top;obtain⟨a0,ak,af⟩:=(al.2.1.aj bQ.o).two;by_cases aI:z=0
  case neg=>
   have bZ:=ae (ar.bad aI);have cA:(z != 0)=true:=by simpa using aI
   exact BD
  have cA:(z != 0)=false:=by simpa using aI
  have aE:=bz.2 aI;have az:=mm i.hU.ok;have aV:K<=5000:=by simp only at aE;omega
  have bb:=ae aI;clear aI aE az
 ·
  have bC:=ae (ar.lf bb.o cG.o);have co:=ae (ar.ln bb.o cG.o);go_wp2_with(fail);refine(vC MA TA mn mc tn tc u.af s.table K t cO (al.2.2.2.2.1.on bQ.o).at_.m.tO i.hU.ok.Gq (al.2.2.2.2.2.on bQ.o).at_.t.holds ck.2.1 ad).mono ?_;intro e cV aj;have aa:(fJ u.af s.table K t).length=tn:=by rw[fu];exact bW.2.2.2.1.symm
  obtain⟨I,aD,rfl,bM,bS,aB,ax⟩:=aj.open_ (n:=tn) aa;have bV:Ext cO cV:=Fr.of ax;generalize hT:fJ u.af s.table K t=T at *;have l:Own cV 138 2 I tn aD (T.flatMap ch) (bA I tn aD):=⟨ja aB (Nq _),rfl⟩
  have av:∀b∈bA I tn aD,cO.heap.size<=b/\b<cV.heap.size:=λb O=>aB.lt b (by simpa using O);have au:Sl cV (λb=>cO.heap.size<=b/\b<cV.heap.size) I tn (T.map mq):=l.sl (dW _) (by rw[M5];exact aa) av;have aT:=ay (RO.aj y.1 bV) (y.2.1.trans bV) (y.2.2.trans bV);have Q:=ah au bM;have cy:=bV.size;clear hT aa aj bS aB ax bV l av au bM a0 ak af bs am aK d0 aQ aS e0 a6 ag c0 c1 c2 c3 J flb ab bu k ce;obtain⟨bs,am,aK⟩:=(al.2.2.1.aj aT.2.2).two;obtain⟨d0,aQ,aS⟩:=(b4.aj aT.2.1).two;obtain⟨e0,a6,ag⟩:=aT.1.o.two;obtain⟨bu,k,flb,ab,J,c0,c1,c2,c3,ce⟩:=aT.1.top;go_upto_region 38 with(fail);generalize hX:World.setCell _ _ _=Y;obtain⟨cw,bR⟩:=aT.1.J7 Q.1 Q.2 (λb aZ=>.inr ⟨by have:=aP.1.lo b6 (by simp);have:=aZ.1;omega,aZ.2,by have:=aP.1.lo b6 (by simp);have:=aZ.1;omega⟩) hX;have cM:=cP hX;have dF:=(aP.1.lo b6 (by simp)).1;have G:Ext V Y:=Fr.low (M:=λb=>b=b6.heap.size) (Fr.trans (Fr.mono aT.2.1 λ_ h=>h.elim) cM) λb O=>ad;have bB:=ay cw bR (bO.trans G);have cb:=ae bB.2.2;have bl:=G.size;clear hX cw bR cM G bs am aK d0 aQ aS e0 a6 ag c0 c1 c2 c3 J flb ab bu k ce
  cases b1:free u.af s.table K t with
  | true=>
   exact H3
  | false=>
   have bZ:=ae (co.o b1);obtain⟨bs,am,aK⟩:=(al.2.2.1.aj cb.o).two;have a3:=ah (al.2.2.2.1.aj cb.o) (al.1.trans cb.o);obtain⟨bq,a1,a5⟩:=a3.1.two;go_wp2_with(fail);generalize hX:World.setCell _ _ _=Z;obtain⟨bm,bd,a4⟩:=a9 (w:=w) [.slice bI bU bx,.slice TA tn tc,.slice HA hn hc,.int .i64 s.fault] (by rfl) a3.1 a3.2 ad hX;exact Co
 ·
  have bC:=ae (ar.uf bb.o cG.o);have co:=ae (ar.un bb.o cG.o);go_wp2_with(fail);refine(rU MA TA mn mc tn tc u.af s.table K t cO (al.2.2.2.2.1.on bQ.o).at_.m.tO i.hU.ok.Gq (al.2.2.2.2.2.on bQ.o).at_.t.holds ck.2.1 ad).mono ?_;intro e cV aj;have aa:(c8 u.af s.table K t).length=tn:=by rw[fp];exact bW.2.2.2.1.symm
  obtain⟨I,aD,rfl,bM,bS,aB,ax⟩:=aj.open_ (n:=tn) aa;have bV:Ext cO cV:=Fr.of ax;generalize hT:c8 u.af s.table K t=T at *;have l:Own cV 138 2 I tn aD (T.flatMap ch) (bA I tn aD):=⟨ja aB (Nq _),rfl⟩
  have av:∀b∈bA I tn aD,cO.heap.size<=b/\b<cV.heap.size:=λb O=>aB.lt b (by simpa using O);have au:Sl cV (λb=>cO.heap.size<=b/\b<cV.heap.size) I tn (T.map mq):=l.sl (dW _) (by rw[M5];exact aa) av;have aT:=ay (RO.aj y.1 bV) (y.2.1.trans bV) (y.2.2.trans bV);have Q:=ah au bM;have cy:=bV.size;clear hT aa aj bS aB ax bV l av au bM a0 ak af bs am aK d0 aQ aS e0 a6 ag c0 c1 c2 c3 J flb ab bu k ce;obtain⟨bs,am,aK⟩:=(al.2.2.1.aj aT.2.2).two;obtain⟨d0,aQ,aS⟩:=(b4.aj aT.2.1).two;obtain⟨e0,a6,ag⟩:=aT.1.o.two;obtain⟨bu,k,flb,ab,J,c0,c1,c2,c3,ce⟩:=aT.1.top;go_upto_region 41 with(fail);generalize hX:World.setCell _ _ _=Y;obtain⟨cw,bR⟩:=aT.1.J7 Q.1 Q.2 (λb aZ=>.inr ⟨by have:=aP.1.lo b6 (by simp);have:=aZ.1;omega,aZ.2,by have:=aP.1.lo b6 (by simp);have:=aZ.1;omega⟩) hX;have cM:=cP hX;have dF:=(aP.1.lo b6 (by simp)).1;have G:Ext V Y:=Fr.low (M:=λb=>b=b6.heap.size) (Fr.trans (Fr.mono aT.2.1 λ_ h=>h.elim) cM) λb O=>ad;have bB:=ay cw bR (bO.trans G);have cb:=ae bB.2.2;have bl:=G.size;clear hX cw bR cM G bs am aK d0 aQ aS e0 a6 ag c0 c1 c2 c3 J flb ab bu k ce
  cases b1:heldBy u.af s.table K t with
  | true=>
   exact H3
  | false=>
   have bZ:=ae (co.o b1);obtain⟨bs,am,aK⟩:=(al.2.2.1.aj cb.o).two;have dk:=cb.size;go_wp2_with(fail);refine(pK P s ⟨bI,bU,bx,TA,tn,tc,HA,hn,hc⟩ 3 Y (cc.2.2.IF H.o (al.1.trans cb.o)) (λb O=>M0 (H.o b O) (al.1.trans cb.o).size)).mono ?_;rintro e cV ⟨⟨dG,bJ,b7,dn,cz,bp,bY,cE,b8⟩,rfl,ca,bV⟩;have f2:=bV.size;have cT:=ae ca;have a3:=ah (al.2.2.2.1.aj (cb.trans bV)) ((al.1.trans cb.o).trans bV);clear ca bV bs am aK;obtain⟨bq,a1,a5⟩:=a3.1.two;go_wp2_with(fail);generalize hX:World.setCell _ _ _=Z;obtain⟨bm,bd,a4⟩:=a9 (w:=w) [.slice dG bJ b7,.slice dn cz bp,.slice bY cE b8,(3:Int)] (by rfl) a3.1 a3.2 ad hX;have bj:=ah bd a4;clear hX bd a4 bq a1 a5;obtain⟨bq,a1,a5⟩:=bm.two;refine NB (v:=.tuple #[.agg #[.slice dG bJ b7,.slice dn cz bp,.slice bY cE b8,(3:Int)],true]) (by simp[results,Tryz.results51,go_sem,bq]) rfl ?_;rw[bZ.o];exact fw (B:=Y.heap.size) (aq:={s with fault:=3}) cT.o bj.2 (λb O=>⟨λhl=>by have:=H.o b hl;omega,ad⟩) (λb O=>by have:=H.o b O;omega) ad bj.1 rfl
 ):p:=h
theorem s7(h:p:=by
 exact s4
 ):p:=h
theorem s9(h:p:=by
 have bo:cK (bg u) cq.locals cq.az x.place:=by
  exact Iw
 have aG:=h.hS.Ag;have cF:t<=1000:=ad;have dz:=h.hS.tok hN;have aR:=jN (s:=s) (nl:=cq.locals) (nk:=f.az.length) h.hU.ok h.hF (Int.le_refl _) (by rw[h.hF.tJ h.hp];exact bo);have r:=ae (LV (u:=u) (s:=s) (t:=t) (f:=f) (x:=x) cp);have ck:=ay bo dz aR;clear bo dz aR aG;exact s6
 ):p:=h
end D5
open D5 in
theorem rf(u:aw)(s:ai)(t:Int)(f:ao)(cq:cR)(x:aA)(N:Nat)(P:Nat->Prop)(w:World)(p:UV)(q:SV)(h:jJ u s t f cq x N)(hN:N<=100000)(cp:x.op=4\/x.op=5)(hu:p.Ok w u)(bn:q.Is w P s)(bh:∀b,P b->b<w.heap.size) :
  Calls prog 51 #[.agg (p.val u),.agg (q.val s),t] w (dd P w (b5 u s t f x).1 (b5 u s t f x).2):=by
 exact s8
end Go.Proofs.YtnigabjngpnbiabGreat

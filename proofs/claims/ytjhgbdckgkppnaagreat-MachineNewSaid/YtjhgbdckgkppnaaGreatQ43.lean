/- Part 43 of the proof (LawN), without conditions of its own. -/
import Derived.Test.YtjhgbdckgkppnaaGreatQ42
namespace Go.Proofs.YtjhgbdckgkppnaaGreat
open Go.RowKit Go.Proofs.Tryz
set_option maxRecDepth 1000000
set_option maxHeartbeats 25600000
set_option linter.unusedVariables false
theorem vV.eI{u:aF}(h:vV u):u.procs.length≤100000∧∀q∈u.procs,q.code.length≤100000:=by
 refine⟨by have:=h.ok.AU;omega,fun q bu=>?_⟩;obtain⟨s,hs,hl,_⟩:=(h.ok.procs q bu).code;rw[hs,Gd];simp only[Gp,Gw];omega
theorem vz(u:aF)(s:an)(N:Nat)(p:UV)(q:SV)(w:World)(hU:vV u)(hS:a1 u N s)(cj:N≤100000)(hu:p.Ok w u)(hs:q.Ok w s) :
  Calls prog 12 #[.agg (p.val u),.agg (q.val s)] w fun e ab=>e=.returned (.bool true)∧Ext w ab:=by
 have H:=hS.small hU.ok cj;have z:q.hn=s.threads.length:=by have:=hs.at_.h.1;simpa using this.symm
 refine(AR u s p q w hU.ok.BB hu hs hU.eI.1 hU.eI.2 (aB H.h) fun t ht=>⟨by have:=(H.f t ht).1;omega,fun f aw=>by have:=((H.f t ht).2 f aw);omega⟩).mono ?_;rintro e ab ⟨b,rfl,O,av⟩;exact⟨by rw[O.2 (pM hU.ok hS)],av⟩
theorem Bb(s:an)(q o:SV)(w:World)(h:q.Ok w s)(F:o.Ok w s)(H:Small s):Calls prog 9 #[.agg (q.val s),.agg (o.val s)] w fun e ab=>e=.returned (.bool true)∧Ext w ab:=
 (Fc s s q o w h F H).mono fun e ab ⟨b,he,O,av⟩=>⟨by rw[he,O.2 rfl],av⟩
theorem AQ(s:an)(q o:SV)(w:World)(h:q.Ok w s)(F:o.Ok w s)(H:Small s):Calls prog 11 #[.agg (q.val s),.agg (o.val s)] w fun e ab=>e=.returned (.bool true)∧Ext w ab:=
 (DD s s q o w h F H).mono fun e ab ⟨b,he,O,av⟩=>⟨by rw[he,O.2 rfl],av⟩
theorem machineNew_any(A:GR)(n c:Nat)(l:List Int)(w:World)(h:cG (EF dB) 1 w w.heap.size A n l)(hc:n≤c) :
  Calls prog 3 #[.slice A n c] w fun e ab=>e=.returned (.bool true)∧Below w.heap.size w ab:=by
 have H:=ae h;clear h;go_enter func3,ntmps3;go_wp2_with (fail);refine(Bw A n c l w H.o hc).mono ?_;rintro e aH ⟨u,a7,av,cW,i,b4,k,hO,cM,c9,a8,ao,b0,a6,ca,aP,cx,dd,de,GA,gn,gc,MA,mn,mc,PA,pn,pc,rfl,hU,_,_,_,bQ,aI⟩;have j:(⟨GA,gn,gc,MA,mn,mc,PA,pn,pc⟩:UV).Ok aH u:=Fl bQ fun b O=>O.2;have H1:=aK hU j aI;clear hU j aI bQ;go_upto_region 2 with(fail);generalize ah:World.alloc _ _=X;have br:Ext aH X:=ah▸((GN.alloc _).alloc _).alloc _;have bz:ag X (aH.heap.size+1) 30 #[.slice GA gn gc,.slice MA mn mc,.slice PA pn pc,.int .i64 u.main]:=ah▸(ag.bR _ _ _ (by simp)).alloc _;have aU:=aK (H1.2.1.on br) (H1.2.2.trans br) bz;obtain⟨bD,bE,b5⟩:=bz.two;clear ah br bz;go_wp2_with (fail);refine(Ed u X ⟨GA,gn,gc,MA,mn,mc,PA,pn,pc⟩ H1.1 aU.1).mono ?_;rintro e aQ ⟨⟨bI,bG,bq,TA,tn,tc,HA,hn,ce⟩,rfl,f,aO⟩;have bu:=f.ok fun b O=>(O.resolve_left fun h=>h).2;have bk:=ai bu aO;clear f bu aO bD bE b5;dsimp only[SV.val];go_upto_region 3 with(fail);generalize cb:World.alloc _ _=Y;have bw:Ext aQ Y:=cb▸GN.alloc _;have bA:ag Y aQ.heap.size 40 #[.slice bI bG bq,.slice TA tn tc,.slice HA hn ce,.int .i64 (iE u).fault]:=cb▸GO;have aJ:=bk.2.trans bw;have ch:=qo H1.1.ok;have bM:=cA (aU.1.on aJ) (bk.1.on bw) (aU.2.1.trans aJ) (ch.small H1.1.ok ad) ch;have a4:=ai (aU.2.2.al aJ) bA;obtain⟨bD,bE,b5⟩:=a4.1.two;obtain⟨b8,an,ar⟩:=a4.2.two;clear cb bw bA aJ ch;refine eh (fun _=>False) [(0,0),(1,0),(2,1),(3,1),(4,3),(5,0),(6,0),(7,1),(8,1),(9,3),(10,3),(11,0),(12,0),(13,1),(14,3),(15,3),(16,2),(17,3),(18,3)] ?_
 iterate 2 refine ph ?_
 refine aA rfl (fun K hK=>?_);go_simp;refine(Fb u Y.drew ⟨GA,gn,gc,MA,mn,mc,PA,pn,pc⟩ H1.1 (bM.1.on (Fr.refl _ Y).drew)).mono ?_;rintro e bJ ⟨cT,rfl,f,ay⟩;have g:=f.ok fun b O=>(O.resolve_left fun h=>h).2;have bH:=ai g (Fr.aE ay);refine hK _ _ (ay) ?_;clear hK K
 try simp only[PU]
 clear f g ay;refine aA rfl (fun K hK=>?_);go_simp;refine(Bb (iE u) ⟨bI,bG,bq,TA,tn,tc,HA,hn,ce⟩ cT bJ (bM.2.1.on bH.2) bH.1 bM.2.2.2.1).mono ?_;rintro e cy ⟨rfl,b3⟩;have cw:=ae (bH.2.trans b3);refine hK _ _ (b3) ?_;clear hK K
 try simp only[PU]
 clear b3 bD bE b5 b8 an ar;obtain⟨bD,bE,b5⟩:=(a4.1.al cw.o).two;obtain⟨b8,an,ar⟩:=(a4.2.al cw.o).two;refine pf ?_
 iterate 2 refine FM ?_
 refine aA rfl (fun K hK=>?_);go_simp;refine(Fb u cy ⟨GA,gn,gc,MA,mn,mc,PA,pn,pc⟩ H1.1 (bM.1.on cw.o)).mono ?_;rintro e cJ ⟨bb,rfl,f,cj⟩;have r:=f.ok fun b O=>(O.resolve_left fun h=>h).2;have c4:=ai r (cw.trans cj);refine hK _ _ (cj) ?_;clear hK K
 try simp only[PU]
 clear f r cj;refine aA rfl (fun K hK=>?_);go_simp;refine(AQ (iE u) ⟨bI,bG,bq,TA,tn,tc,HA,hn,ce⟩ bb cJ (bM.2.1.on c4.2) c4.1 bM.2.2.2.1).mono ?_;rintro e cv ⟨rfl,s⟩;have y:=ae (c4.2.trans s);refine hK _ _ (s) ?_;clear hK K
 try simp only[PU]
 clear s bD bE b5 b8 an ar;obtain⟨bD,bE,b5⟩:=(a4.1.al y.o).two;obtain⟨b8,an,ar⟩:=(a4.2.al y.o).two
 iterate 2 refine pf ?_
 iterate 2 refine FM ?_
 refine aA rfl (fun K hK=>?_);go_simp;refine(vz u (iE u) 0 ⟨GA,gn,gc,MA,mn,mc,PA,pn,pc⟩ ⟨bI,bG,bq,TA,tn,tc,HA,hn,ce⟩ cv H1.1 bM.2.2.2.2 ad (bM.1.on y.o) (bM.2.1.on y.o)).mono ?_;rintro e fg ⟨rfl,bC⟩;have ac:=ae (y.trans bC);refine hK _ _ (bC) ?_;clear hK K
 try simp only[PU]
 clear bC bD bE b5 b8 an ar
 iterate 2 refine pf ?_
 refine ax rfl (fun K hK=>?_);go_simp;refine(D2 fg).mono ?_;rintro e gL ⟨rfl,aN⟩;have dO:=ae (ac.trans aN);refine hK _ _ ?_;clear hK K
 try simp only[PU]
 clear aN
 iterate 2 refine pf ?_
 refine aD ?_;go_wp2_with (fail);go_ret;exact⟨rfl,Fr.ext (bM.2.2.1.trans dO.o)⟩
end Go.Proofs.YtjhgbdckgkppnaaGreat

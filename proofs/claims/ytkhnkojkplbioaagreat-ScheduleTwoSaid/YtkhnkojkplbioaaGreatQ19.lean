/- Part 19 of the proof. No condition of its own. -/
import Derived.Test.YtkhnkojkplbioaaGreatQ18
namespace Go.Proofs.YtkhnkojkplbioaaGreat
open Go.RowKit Go.Proofs.Tryz
set_option maxRecDepth 1000000
set_option maxHeartbeats 25600000
set_option linter.unusedVariables false
variable{nl t:Int}{P:Nat->Prop}{p:Prop}{x:az}
structure UV where
 GA:Option Addr
 gn:Nat
 gc:Nat
 MA:Option Addr
 mn:Nat
 mc:Nat
 PA:Option Addr
 pn:Nat
 pc:Nat
structure SV where
 GA:Option Addr
 gn:Nat
 gc:Nat
 TA:Option Addr
 tn:Nat
 tc:Nat
 HA:Option Addr
 hn:Nat
 hc:Nat
abbrev UV.val(p:UV)(u:ay):Array Value:=#[.slice p.GA p.gn p.gc,.slice p.MA p.mn p.mc,.slice p.PA p.pn p.pc,.int .i64 u.main]
abbrev SV.val(q:SV)(s:ai):Array Value:=#[.slice q.GA q.gn q.gc,.slice q.TA q.tn q.tc,.slice q.HA q.hn q.hc,.int .i64 s.fault]
structure UV.Ok(p:UV)(w:World)(u:ay):Prop where
 at_:hA w (av w) u p.GA p.gn p.MA p.mn p.PA p.pn
 gc:p.gn<=p.gc
 mc:p.mn<=p.mc
 pc:p.pn<=p.pc
structure SV.Ok(q:SV)(w:World)(s:ai):Prop where
 at_:lS w (av w) s q.GA q.gn q.TA q.tn q.HA q.hn
 gc:q.gn<=q.gc
 tc:q.tn<=q.tc
 hc:q.hn<=q.hc
theorem UV.Ok.on{p:UV}{w ab:World}{u:ay}(h:p.Ok w u)(he:Ext w ab):p.Ok ab u:=⟨h.at_.on he,h.gc,h.mc,h.pc⟩
theorem SV.Ok.on{q:SV}{w ab:World}{s:ai}(h:q.Ok w s)(he:Ext w ab):q.Ok ab s:=⟨h.at_.on he,h.gc,h.tc,h.hc⟩
theorem l4{u:ay}(hU:c5 u):elems u.af<=5000:=by
 have ac:=dz u.af;have au:=ch hU.vB;omega
theorem aX.small{u:ay}{N:Nat}{s:ai}(hU:c5 u)(h:aX u N s)(hD:N<=100000):Small s:=by
 refine⟨by have:=h.c7;have:=hU.ou;omega,by have:=h.table;have:=ch hU.vB;omega,by have:=h.xl;omega,λt ht=>⟨by have:=(h.ft t ht).1;omega,λf J=>?_⟩⟩;obtain⟨p,hp,_,ac,au⟩:=((h.ft t ht).2 f J).ex;have:=hU.procs p (Ln hp);have:=this.ints;have:=(hU.procs p (Ln hp)).au;omega
section
variable {u:ay} {N:Nat} {s:ai} {f:ak} {cn:cM} {pl:bN} {w:World} {GA MA IA QA:L3} {gn gc mn mc i ic qm qc:Nat}
theorem Eo(hU:c5 u)(hS:aX u N s)(hF:cc u f)(hp:u.procs[f.proc.toNat]?=some cn)(hx:cW (bC u) cn.locals cn.au pl)(j:pl.param=false)
  (hm:Sl w (av w) MA mn (u.af.map eD)) (a9:Sl w (av w) GA gn (s.globals.map D.i)) (an:Sl w (av w) IA i (f.ints.map D.i)) (bA:(dk pl).rep w (av w) [.bool pl.param,.int .i64 pl.index,.slice QA qm qc]) :
  (qm=0/\cK u s f pl=(0,0))\/∃(e:VE) (k:Nat) (m:bD) (b o:Nat) (c0 c1 c2 c3:Value),QA=some ⟨b,o,none⟩/\qm=1/\pl.index=(k:Nat)/\zx w MA mn u.af GA IA gn i s.globals f.ints e k m b o c0 c1 c2 c3/\n8 s.globals f.ints e/\cK u s f pl=idx m.size (ev s.globals f.ints e):=by
 rcases hx with⟨ac,_⟩|⟨_,m,au,aY,bR,cI⟩
 .rw[j] at ac;cases ac
 obtain⟨A2,n2,c2,e,_,hs⟩:=dX.1 bA;simp only[List.cons.injEq,and_true,true_and] at e;injection e with a6 cu bB;subst a6 cu bB;have aQ:u.af[pl.index.toNat]?=some m:=aY;by_cases bv:0<m.size
 .obtain⟨x,hx,rk⟩:=bR bv;right;rw[hx] at hs;simp only[Option.toList_some,Lq,LK] at hs;obtain rfl:qm=1:=hs.1.symm;obtain⟨b,o,bx,Z,a4,E,rfl,O,ba,c0,c1,c2,c3⟩:=hs.EI (db x);obtain⟨bn,y,_⟩:=x7 hS hF hp rk;have r3:=a9.1;have aG:=an.1;have b3:=hm.1;rw[Lo] at r3 aG b3;have ap:=(List.getElem?_eq_some_iff.1 aQ).1;refine⟨x,pl.index.toNat,m,b,o,bx,Z,a4,E,rfl,rfl,ad,⟨⟨a9.ints,an.ints,by rw[<-r3,<-aG];exact bn,kD x _ ba⟩,hm.mT,ad,aQ,O,c0,c1,c2,c3⟩,y,?_⟩;unfold cK;rw[hx,aQ];rfl
 .left;rw[cI bv] at hs;refine⟨hs.1.symm,?_⟩;unfold cK;rw[cI bv]
theorem H8(hU:c5 u)(hS:aX u N s)(hF:cc u f)(hp:u.procs[f.proc.toNat]?=some cn)(hx:cW (bC u) cn.locals cn.au pl)(j:pl.param=false)
  (hm:Sl w (av w) MA mn (u.af.map eD)) (a9:Sl w (av w) GA gn (s.globals.map D.i)) (an:Sl w (av w) IA i (f.ints.map D.i)) (bA:(dk pl).rep w (av w) [.bool pl.param,.int .i64 pl.index,.slice QA qm qc]) :
  Calls prog 79 #[.agg #[.bool false,.int .i64 pl.index,.slice QA qm qc],.slice MA mn mc,.slice GA gn gc,.slice IA i ic] w (gb w (cK u s f pl)):=by
 rcases Eo hU hS hF hp hx j hm a9 an bA with⟨rfl,h⟩|⟨e,k,m,b,o,c0,c1,c2,c3,rfl,rfl,ap,hI,_,h⟩
 .rw[h];exact vE _ _ _ _ _ _ _ _
 .rw[h,ap];exact yB _ _ _ _ _ _ _ _ _ _ _ _ _ _ _ _ _ _ _ _ _ _ _ hI
theorem Ik(hU:c5 u)(hS:aX u N s)(hF:cc u f)(hp:u.procs[f.proc.toNat]?=some cn)(hx:cW (bC u) cn.locals cn.au pl)(j:pl.param=false)
  (hm:Sl w (av w) MA mn (u.af.map eD)) (a9:Sl w (av w) GA gn (s.globals.map D.i)) (an:Sl w (av w) IA i (f.ints.map D.i)) (bA:(dk pl).rep w (av w) [.bool pl.param,.int .i64 pl.index,.slice QA qm qc]) :
  Calls prog 81 #[.agg #[.bool false,.int .i64 pl.index,.slice QA qm qc],.slice MA mn mc,.slice GA gn gc,.slice IA i ic] w (gb w (cK u s f pl)):=by
 rcases Eo hU hS hF hp hx j hm a9 an bA with⟨rfl,h⟩|⟨e,k,m,b,o,c0,c1,c2,c3,rfl,rfl,ap,hI,y,h⟩
 .rw[h];exact rA _ _ _ _ _ _ _ _
 .rw[h,ap];exact tA _ _ _ _ _ _ _ _ _ _ _ _ _ _ _ _ _ _ _ _ _ _ _ hI y
end
theorem iB{u:ay}{s:ai}{f:ak}{pl:bN}(h:de s t=some f):x5 u s t pl=bo u s f pl:=by unfold x5;rw[h]
theorem rS{u:ay}{s:ai}{f:ak}{pl:bN}(h:pl.param=true):bo u s f pl=(f.au.getD pl.index.toNat 0,0):=by unfold bo;rw[if_pos h]
theorem yO{u:ay}{s:ai}{f:ak}{pl:bN}(h:pl.param=false)(J:(cK u s f pl).2≠0):bo u s f pl=(0,(cK u s f pl).2):=by unfold bo;rw[if_neg (by simp[h]),if_pos J]
theorem p1{u:ay}{s:ai}{f:ak}{pl:bN}(h:pl.param=false)(J:(cK u s f pl).2=0):bo u s f pl=(eL u.af pl.index+(cK u s f pl).1,0):=by unfold bo;rw[if_neg (by simp[h]),if_neg ad]
theorem D6{u:ay}{s:ai}{f:ak}{pl:bN}{nk:Int}(hU:c5 u)(hF:cc u f)(ap:nk<=f.au.length)(hx:cW (bC u) nl nk pl)(h:pl.param=false)(J:(cK u s f pl).2=0):
  0<=eL u.af pl.index+(cK u s f pl).1/\eL u.af pl.index+(cK u s f pl).1<=5000:=by
 have ac:=(jA (s:=s) hU hF ap hx).2;rw[p1 h J] at ac;have:=l4 hU;have:=ac rfl;simp only at this;omega
theorem EM{u:ay}{f:ak}{pl:bN}{w:World}{S:L3}{l:Nat}(hx:cW (bC u) nl f.au.length pl)(h:pl.param=true)(hl:Sl w (av w) S l (f.au.map D.i)):
  0<=pl.index/\pl.index<l/\∃b o,S=some ⟨b,o,none⟩/\b<w.heap.size/\w.cell? ⟨b,o+pl.index.toNat,none⟩=some (.int .i64 (f.au.getD pl.index.toNat 0)):=by
 rcases hx with⟨_,ac,au,_⟩|⟨ac,_⟩
 .have hn:=hl.1;rw[Lo] at hn;obtain⟨b,o,x,aX,O,hx,hc⟩:=hl.ints.int (k:=pl.index.toNat) ad;refine⟨ac,ad,b,o,aX,O,?_⟩;rw[List.getD_eq_getElem?_getD,hx];exact hc
 .rw[h] at ac;cases ac
structure IN(u:ay)(s:ai)(t:Int)(f:ak)(pl:bN)(N:Nat)(w:World)(p:UV)(q:SV)(QA:L3)(qm qc:Nat):Prop where
 hU:c5 u
 hS:aX u N s
 sm:Small s
 ht:de s t=some f
 hx:∃cn,u.procs[f.proc.toNat]?=some cn/\cW (bC u) cn.locals cn.au pl
 u:p.Ok w u
 s:q.Ok w s
 pl:(dk pl).rep w (av w) [.bool pl.param,.int .i64 pl.index,.slice QA qm qc]
theorem cc.tr{u:ay}{f:ak}{cn:cM}(hF:cc u f)(hp:u.procs[f.proc.toNat]?=some cn):(f.au.length:Int)=cn.au:=by
 obtain⟨p,h,_,_,au⟩:=hF.ex;rw[hp] at h;injection h with h;rw[h];exact au
namespace CQ
theorem AY(h:p:=by
 clear k an o aZ bj a0 aj af a7 am aF d0 aL aM c2 c3;obtain⟨a0,aj,af⟩:=((ah.2.1.aj aX.1).aj aX.2).two;obtain⟨d0,aL,aM⟩:=((ah.2.2.2.1.aj aX.1).aj aX.2).two;refine dP hK ?_;clear hK K
 iterate 5 refine pf ?_
 refine aC ?_;by_cases bv:z=0
 .have q5:(z != 0)=false:=by simpa using bv
  have bI:=bq.1 bv;have cX:=ae (bq.2.2 bv);subst bv;generalize aR:eL u.af pl.index=B at *;have bO:=ae aR;clear aR bq;go_wp2_with(fail);refine(uh MA mn mc u.af pl.index aU ((ah.2.2.2.2.1.on aX.1).on aX.2).at_.m.mT aQ.1.vB cb).mono ?_;rintro e b6 ⟨rfl,aV⟩;rw[bO.o];have bd:=ae (((ah.1.trans aX.1).trans aX.2).trans (Fr.of aV));clear aV a0 aj af d0 aL aM;go_wp2
  go_ret2
  exact gb.mk' cX.o (Fr.ext bd.o)
 .have q5:(z != 0)=true:=by simpa using bv
  have cX:=ae (bq.2.1 bv);clear bv bq;go_wp2_with(fail)
  go_ret2
  exact gb.mk' cX.o (Fr.ext ((ah.1.trans aX.1).trans aX.2))
 ):p:=h
theorem AF(h:p:=by
 refine(lj aa.o _ _ _).mono ?_;rintro e aS ⟨rfl,aN⟩;have ab:=ae (aa.on aN);have bx:=ae aN;clear a0 aj af a7 am aF d0 aL aM;obtain⟨a0,aj,af⟩:=(ah.2.1.aj aN).two;obtain⟨a7,am,aF⟩:=(ah.2.2.1.aj aN).two;obtain⟨d0,aL,aM⟩:=(ah.2.2.2.1.aj aN).two;have cx:=ab.lf;have c2:=ab.c2;have c3:=ab.c3;clear aN aa
 cases j:pl.param with
 | true=>
  rw[j] at d0;obtain⟨f1,da,lb,lo,rfl,a8,a9⟩:=EM aQ.2.2.2.2.2 j ab.au;have ap:=rS (u:=u) (s:=s) (f:=f) j;generalize hV:f.au.getD pl.index.toNat 0=V at *;have a3:=ae ap;have q1:decide (pl.index<0)=false:=by simp;omega
  have cN:decide (pl.index>=l)=false:=by simp;omega
  clear ap hV;go_upto_region 5 with(fail);refine eC (λ_=>False) [(0,3),(1,0),(2,3),(3,3),(4,3),(5,0),(6,3),(7,3),(8,3),(9,0),(10,3),(11,3),(12,3)] ?_;refine pf ?_;refine ph ?_
  iterate 3 refine pf ?_
  refine ph ?_
  iterate 3 refine pf ?_
  refine ph ?_
  iterate 3 refine pf ?_
  refine aC ?_;go_upto_region 7 with(fail);refine eC (λ_=>False) [(0,3),(1,3),(2,3),(3,0),(4,3),(5,0),(6,3),(7,0),(8,3),(9,3)] ?_
  iterate 3 refine pf ?_
  refine bS (v:=?_) rfl (by rfl) (λV hV=>?_) ?_;rotate_left
  .obtain⟨hVc,hVf⟩:=Fr.jr hV
   (go_simp<;>with_reducible rfl)
  try simp only[PU]
  refine pf ?_;refine bS (v:=?_) rfl (by rfl) (λV hV=>?_) ?_;rotate_left
  .obtain⟨hVc,hVf⟩:=Fr.jr hV
   (go_simp<;>with_reducible rfl)
  try simp only[PU]
  refine pf ?_;refine bS (v:=?_) rfl (by rfl) (λV hV=>?_) ?_;rotate_left
  .obtain⟨hVc,hVf⟩:=Fr.jr hV
   (go_simp<;>with_reducible rfl)
  try simp only[PU]
  iterate 2 refine pf ?_
  refine aC ?_;go_wp2_with(fail)
  go_ret2
  exact gb.mk' a3.o (Fr.ext ((ah.1.trans bx.o).drew.drew))
 | false=>
  rw[j] at d0;go_upto_region 8 with(fail);refine eC (λ_=>False) [(0,0),(1,3),(2,0),(3,3),(4,0),(5,3),(6,3),(7,3),(8,0),(9,2),(10,3),(11,3),(12,3),(13,3),(14,3)] ?_;refine ph ?_;refine pf ?_;refine ph ?_;refine pf ?_;refine ph ?_
  iterate 3 refine pf ?_
  refine ph ?_;refine ax rfl (λK hK=>?_);go_simp;have aZ:Ext W aS.drew:=bx.drew;refine(H8 (u:=u) (s:=s) (f:=f) (pl:=pl) aQ.1 aQ.2.1 aQ.2.2.1 aQ.2.2.2.1 aQ.2.2.2.2.1 j (ah.2.2.2.2.1.on aZ).at_.m (ah.2.2.2.2.2.1.on aZ).at_.g (ab.on LW.drew).ints (D.on ah.2.2.2.2.2.2 (Fr.ext aZ))).mono ?_;rintro e aU ⟨rfl,bj⟩;have aX:=ag aZ (Fr.of (M:=λ_=>False) bj);exact AX
 ):p:=h
theorem Br(h:p:=by
 have cb:=hu.mc;simp only at cb;have aQ:=cH hU hS hF hp hx r;dsimp only[UV.val,SV.val];go_enter func28,ntmps28;exact AE
 ):p:=h
theorem hE(h:p:=by
 exact Bq
 ):p:=h
end CQ
open CQ in
theorem qq(u:ay)(s:ai)(t:Int)(f:ak)(pl:bN)(N:Nat)(w:World)(p:UV)(q:SV)(QA:L3)(qm qc:Nat)(h:IN u s t f pl N w p q QA qm qc) :
  Calls prog 28 #[.agg (p.val u),.agg (q.val s),.int .i64 t,.agg #[.bool pl.param,.int .i64 pl.index,.slice QA qm qc]] w (gb w (x5 u s t pl)):=by
 obtain⟨hU,hS,bI,ht,⟨cn,hp,hx⟩,hu,hs,bA⟩:=h;exact hB
namespace CR
theorem AY(h:p:=by
 clear k an o bj a0 aj af a7 am aF d0 aL aM e0 a6 aP;obtain⟨a0,aj,af⟩:=((ah.2.1.aj aX.1).aj aX.2).two;obtain⟨d0,aL,aM⟩:=((ah.2.2.2.1.aj aX.1).aj aX.2).two;by_cases bv:z=0
 .have q5:(z != 0)=false:=by simpa using bv
  have bI:=bq.1 bv;have cX:=ae (bq.2.2 bv);subst bv;generalize aR:eL u.af pl.index=B at *;have bO:=ae aR;clear aR bq;go_wp2_with(fail);refine(vb MA mn mc u.af pl.index aU ((ah.2.2.2.2.1.on aX.1).on aX.2).at_.m.mT aQ.1.vB).mono ?_;rintro e b6 ⟨rfl,aV⟩;rw[bO.o];have bd:=ae (((ah.1.trans aX.1).trans aX.2).trans (Fr.of aV));clear aV a0 aj af d0 aL aM;go_wp2
  go_ret2
  exact gb.mk' cX.o (Fr.ext bd.o)
 .have q5:(z != 0)=true:=by simpa using bv
  have cX:=ae (bq.2.1 bv);clear bv bq;go_wp2_with(fail)
  go_ret2
  exact gb.mk' cX.o (Fr.ext ((ah.1.trans aX.1).trans aX.2))
 ):p:=h
theorem AF(h:p:=by
 refine(nP aa.o _ _ _).mono ?_;rintro e aS ⟨rfl,aN⟩;have ab:=ae (aa.on aN);have bx:=ae aN;clear a0 aj af a7 am aF d0 aL aM aN aa;obtain⟨a0,aj,af⟩:=(ah.2.1.aj bx.o).two;obtain⟨a7,am,aF⟩:=(ah.2.2.1.aj bx.o).two;obtain⟨d0,aL,aM⟩:=(ah.2.2.2.1.aj bx.o).two
 cases j:pl.param with
 | true=>
  rw[j] at d0;obtain⟨f1,da,lb,lo,rfl,a8,a9⟩:=EM aQ.2.2.2.2.2 j ab.au;have ap:=rS (u:=u) (s:=s) (f:=f) j;generalize hV:f.au.getD pl.index.toNat 0=V at *;have a3:=ae ap;clear ap hV;go_wp2_with(fail)
  go_ret2
  exact gb.mk' a3.o (Fr.ext ((ah.1.trans bx.o).alloc _))
 | false=>
  rw[j] at d0;go_upto_region 4 with(fail);generalize hV:World.alloc _ _=V;have bm:=aW hV;have m:=aI hV;have aZ:Ext W V:=bx.trans bm;have ce:=ag aZ bm;clear hV aZ a0 aj af a7 am aF d0 aL aM;obtain⟨a0,aj,af⟩:=(ah.2.1.aj ce.1).two;obtain⟨a7,am,aF⟩:=(ah.2.2.1.aj ce.1).two;obtain⟨d0,aL,aM⟩:=(ah.2.2.2.1.aj ce.1).two;obtain⟨e0,a6,aP⟩:=m.two;rw[j] at d0;clear bm m;go_wp2_with(fail);refine(Ik (u:=u) (s:=s) (f:=f) (pl:=pl) aQ.1 aQ.2.1 aQ.2.2.1 aQ.2.2.2.1 aQ.2.2.2.2.1 j (ah.2.2.2.2.1.on ce.1).at_.m (ah.2.2.2.2.2.1.on ce.1).at_.g (ab.on ce.2).ints (D.on ah.2.2.2.2.2.2 (Fr.ext ce.1))).mono ?_;rintro e aU ⟨rfl,bj⟩;have aX:=ag ce.1 (Fr.of (M:=λ_=>False) bj);exact AX
 ):p:=h
theorem Br(h:p:=by
 have aQ:=cH hU hS hF hp hx r;dsimp only[UV.val,SV.val];go_enter func29,ntmps29;exact AE
 ):p:=h
theorem hE(h:p:=by
 exact Bq
 ):p:=h
end CR
open CR in
theorem qO(u:ay)(s:ai)(t:Int)(f:ak)(pl:bN)(N:Nat)(w:World)(p:UV)(q:SV)(QA:L3)(qm qc:Nat)(h:IN u s t f pl N w p q QA qm qc) :
  Calls prog 29 #[.agg (p.val u),.agg (q.val s),.int .i64 t,.agg #[.bool pl.param,.int .i64 pl.index,.slice QA qm qc]] w (gb w (x5 u s t pl)):=by
 obtain⟨hU,hS,bI,ht,⟨cn,hp,hx⟩,hu,hs,bA⟩:=h;exact hB
structure IV where
 eo:Int
 en:Int
 es:ByteArray
 EA:Option Addr
 em:Nat
 ec:Nat
 QA:Option Addr
 qm:Nat
 qc:Nat
 IA:Option Addr
 i:Nat
 ic:Nat
 KA:Option Addr
 k:Nat
 kc:Nat
abbrev IV.val(v:IV)(x:az):Array Value:=#[.int .i64 x.op,.int .i64 x.target,.bool x.c7,.int .i64 v.eo,.int .i64 v.en,.string v.es,.slice v.EA v.em v.ec,.bool x.place.param,.int .i64 x.place.index,.slice v.QA v.qm v.qc,.slice v.IA v.i v.ic,.slice v.KA v.k v.kc]
structure IV.Ok(v:IV)(w:World)(x:az):Prop where
 expr:(oO x.expr).rep w (av w) [.int .i64 v.eo,.int .i64 v.en,.string v.es,.slice v.EA v.em v.ec]
 place:(dk x.place).rep w (av w) [.bool x.place.param,.int .i64 x.place.index,.slice v.QA v.qm v.qc]
 ints:Sl w (av w) v.IA v.i (x.ints.map bp)
 H5:v.i<=v.ic
 places:Sl w (av w) v.KA v.k (x.places.map dk)
 H7:v.k<=v.kc
theorem IV.Ok.on{v:IV}{w ab:World}{x:az}(h:v.Ok w x)(he:Ext w ab):v.Ok ab x:=
 ⟨D.on h.expr (Fr.ext he),D.on h.place (Fr.ext he),h.ints.on (Fr.ext he),h.H5,h.places.on (Fr.ext he),h.H7⟩
def GC(w:World)(x:az)(e:Ending)(ab:World):Prop:=∃v:IV,e=.returned (.tuple #[.agg (v.val x),.bool true])/\v.Ok ab x/\Ext w ab
theorem uG{u:ay}{s:ai}{f:ak}{cn:cM}(h:de s t=some f)(hp:u.procs[f.proc.toNat]?=some cn)(hx:cn.code[f.pc.toNat]?=some x):cU u s t=some x:=by
 unfold cU;rw[h];simp only[Option.bind_some,hp,hx]
structure HE(u:ay)(s:ai)(t:Int)(f:ak)(cn:cM)(x:az)(w:World)(p:UV)(q:SV):Prop where
 sm:Small s
 ht:de s t=some f
 hp:u.procs[f.proc.toNat]?=some cn
 hx:cn.code[f.pc.toNat]?=some x
 p0:0<=f.proc
 c0:0<=f.pc
 il:x.ints.length<=200
 kl:x.places.length<=200
 u:p.Ok w u
 s:q.Ok w s
theorem hA.code{w:World}{u:ay}{GA MA PA:L3}{gn mn pn:Nat}(h:hA w (av w) u GA gn MA mn PA pn){f:ak}{cn:cM}(hp:u.procs[f.proc.toNat]?=some cn)(hx:cn.code[f.pc.toNat]?=some x)(p0:0<=f.proc)(c0:0<=f.pc):
  ∃b o N co n c,∃v:IV,PA=some ⟨b,o,none⟩/\b<w.heap.size/\f.proc<pn/\w.cell? ⟨b,o+f.proc.toNat*5+4,none⟩=some (.slice (some ⟨N,co,none⟩) n c)/\N<w.heap.size/\f.pc<n/\v.Ok w x/\∀j u,(v.val x)[j]?=some u->w.cell? ⟨N,co+f.pc.toNat*12+j,none⟩=some u:=by
 have ac:=(List.getElem?_eq_some_iff.1 hp).1;have au:=(List.getElem?_eq_some_iff.1 hx).1;have bp:=h.p.1;rw[Lo] at bp;obtain⟨b,o,dn,bz,n,c,rfl,O,cL,_,_,_,_,hc,aL,hs⟩:=h.proc (k:=f.proc.toNat) ad;rw[hp] at cL;injection cL with cL;subst cL;have ca:=hs.1;rw[Lo] at ca;obtain⟨N,co,d,cs,eo,en,es,EA,em,ec,QA,qm,qc,IA,i,ic,KA,m,mc,rfl,P,g,an,bi⟩:=hs.Er (k:=f.pc.toNat) ad;rw[hx] at g;injection g with g;subst g;refine⟨b,o,N,co,n,c,⟨eo,en,es,EA,em,ec,QA,qm,qc,IA,i,ic,KA,m,mc⟩,rfl,O,ad,hc,P,ad,⟨an.expr,an.place,an.ints,an.H5,an.places,an.H7⟩,λj u hu=>bi j u ?_⟩;rw[an.cells];simpa using hu
namespace CS
theorem Bf(h:p:=by
 clear hV bm m aZ bv z a8 eQ P T;go_upto_region 4 with(fail);refine eC (λ_=>False) [(0,3),(1,0),(2,3),(3,0),(4,3),(5,3),(6,0),(7,3),(8,0),(9,3),(10,0),(11,2),(12,3)] ?_;refine pf ?_;refine ph ?_;refine pf ?_;refine ph ?_
 iterate 2 refine pf ?_
 refine ph ?_;refine pf ?_;refine ph ?_;refine pf ?_;refine ph ?_;refine ax rfl (λK hK=>?_);go_simp;refine dP hK ?_;clear hK K;refine pf ?_;refine aC ?_;generalize hX:World.setCell _ _ _=X;obtain⟨br,bs,cz⟩:=bw (w:=w) [.int .i64 x.op,.int .i64 x.target,.bool x.c7,.int .i64 eo,.int .i64 en,.string es,.slice EA em ec,.bool x.place.param,.int .i64 x.place.index,.slice QA qm qc,.slice dg j dc,.slice KA k kc] (by rfl) ce.2.1 ce.1 ad hX;have aQ:=ae bs;clear hX bs cz a0 aj af d0 aL aM bl aA aO c8 cv bS cW H cm cc ca cd cl bM bT a6;obtain⟨bl,aA,aO⟩:=br.two;clear br;go_wp2_with(fail);refine LU (v:=.tuple #[.agg #[.int .i64 x.op,.int .i64 x.target,.bool x.c7,.int .i64 eo,.int .i64 en,.string es,.slice EA em ec,.bool x.place.param,.int .i64 x.place.index,.slice QA qm qc,.slice dg j dc,.slice KA k kc],.bool true]) (by simp[results,Tryz.results26,go_sem,bl]) rfl ?_;exact⟨⟨eo,en,es,EA,em,ec,QA,qm,qc,dg,j,dc,KA,k,kc⟩,rfl,ah.2.2.2.2.1.on aQ.drew,aQ.drew⟩
 ):p:=h
theorem BB(h:p:=by
 obtain⟨eo,en,es,EA,em,ec,QA,qm,qc,dg,j,dc,KA,k,kc⟩:=v;dsimp only[UV.val,SV.val,IV.val] at ck ⊢;go_enter func26,ntmps26;go_upto_region 1 with(fail);generalize be:World.alloc _ _=W;have aw:=lC be;have b4:=jw be;have cf:=h1 be;have cB:=jx be;have ah:=h2 aw b4 cf cB bG db ck;have aa:=ae (hT.on aw);obtain⟨a7,am,aF⟩:=cf.two;clear be aw b4 cf cB hT hu hs bI ht hp hx bG db ck;go_wp2_with(fail);refine(nP aa.o _ _ _).mono ?_;rintro e aS ⟨rfl,aN⟩;have bx:=ae aN;clear a7 am aF aN aa;go_upto_region 2 with(fail);generalize hV:World.alloc _ _=V;have bm:=aW hV;have m:=aI hV;have aZ:Ext W V:=bx.trans bm;have bv:Ext w V:=ah.1.trans aZ;have z:=ah.2.2.2.1.aj aZ;have ce:=bJ bv z aZ bm;obtain⟨a0,aj,af⟩:=(ah.2.1.aj aZ).two;obtain⟨d0,aL,aM⟩:=m.two;obtain⟨bl,aA,aO⟩:=z.two;have T:=bv.size;have bF:pb<V.heap.size:=ad;have bz:N<V.heap.size:=ad;have a6:=(bv.cell (j:=gP+f.proc.toNat*5+4) eQ λh=>h).trans ah.2.2.2.2.2.1;have a8:∀j u,_->V.cell? ⟨N,co+f.pc.toNat*12+j,none⟩=some u:=λj u bi=>(bv.cell (j:=co+f.pc.toNat*12+j) P λh=>h).trans (ah.2.2.2.2.2.2 j u bi);exact Be
 ):p:=h
theorem hE(h:p:=by
 exact BA
 ):p:=h
end CS
open CS in
theorem ox(u:ay)(s:ai)(t:Int)(f:ak)(cn:cM)(x:az)(w:World)(p:UV)(q:SV)(h:HE u s t f cn x w p q) :
  Calls prog 26 #[.agg (p.val u),.agg (q.val s),.int .i64 t] w (GC w x):=by
 obtain⟨bI,ht,hp,hx,p0,bY,cF,aV,hu,hs⟩:=h;exact hB
theorem HT:cj prog 56 55 (.agg #[.bool false,.int .i64 0,.slice none 0 0]) 3 40:=cj.mk' Tryz.underlying56 (by kernel_rfl) rfl ad
theorem km{X V:World}{g:Nat}{t:TypeId}{cs:Array Value}(i:Nat)(vs:List Value)(aR:aq V g t cs)(hX:rZ g V i vs=X):aq X g t (je cs i vs)/\Fr (λb=>b=g) V X:=by
 subst hX;exact⟨k8 vs i V cs aR,mM vs i V⟩
namespace CT
theorem sT(h:p:=by
 refine pf ?_;refine ax rfl (λK hK=>?_);go_simp;refine dP hK ?_;clear hK K;refine aC ?_;generalize hX:World.setCell _ _ _=X;have bj:Ext w cK:=((ce.1.trans bc.1).trans bP.1).trans b5.2.2.1;obtain⟨bO,J⟩:=km 3 [.int .i64 eo,.int .i64 en,.string es,.slice m au an,.bool x.place.param,.int .i64 x.place.index,.slice ac aP aJ,.slice R a5 aX] b5.2.2.2 hX;have aR:aq X aS.heap.size 58 #[.int .i64 x.op,.int .i64 x.target,.bool x.c7,.int .i64 eo,.int .i64 en,.string es,.slice m au an,.bool x.place.param,.int .i64 x.place.index,.slice ac aP aJ,.slice R a5 aX,.slice KA dj kc]:=by
  simpa[je] using bO
 clear bO;have bN:=bc.1.size;have cQ:=bP.1.size;have dh:=b5.2.2.1.size;have b9:V.drew.heap.size=V.heap.size:=rfl;have dI:=J.size;have ct:D.rep X (λb=>aS.heap.size<b/\b<X.heap.size) (oO x.expr) [.int .i64 eo,.int .i64 en,.string es,.slice m au an]:=
  D.aL (λb O=>(⟨by have:=O.1;omega,by have:=O.2;omega⟩:aS.heap.size<b/\b<X.heap.size)) _ _ (D.aS (λb O=>(J.block b (aD O.2) (aD O.1)).trans ((b5.2.2.1.block b (aD O.2) λh=>h).trans (bP.1.block b O.2 λh=>h))) _ _ bc.2)
 have cC:D.rep X (λb=>aS.heap.size<b/\b<X.heap.size) (dk x.place) [.bool x.place.param,.int .i64 x.place.index,.slice ac aP aJ]:=
  D.aL (λb O=>(⟨by have:=O.1;omega,by have:=O.2;omega⟩:aS.heap.size<b/\b<X.heap.size)) _ _ (D.aS (λb O=>(J.block b (aD O.2) (aD O.1)).trans (b5.2.2.1.block b O.2 λh=>h)) _ _ bP.2)
 have cu:Sl X (λb=>aS.heap.size<b/\b<X.heap.size) R a5 (x.ints.map bp):=
  (b5.2.1.al λb O=>J.block b O.2 (aD O.1)).mono λb O=>⟨by have:=O.1;omega,by have:=O.2;omega⟩
 have bs:Ext w X:=Fr.low (M:=λb=>b=aS.heap.size) (Fr.trans (Fr.mono bj λ_ h=>h.elim) J) λb O=>ad;have bo:=(((ce.2.2.1.aj bc.1).aj bP.1).aj b5.2.2.1).on J ad;have aQ:=cH bs bo ct cC cu b5.1;have br:=aR;clear hX bj J aR bN cQ dh dI b9 ct cC cu bs bo a0 aj af;obtain⟨a0,aj,af⟩:=br.two;go_upto_region 8 with(fail);generalize hX:World.setCell _ _ _=Y;obtain⟨bO,J⟩:=km 11 [.slice none 0 0] br hX;have bK:aq Y aS.heap.size 58 #[.int .i64 x.op,.int .i64 x.target,.bool x.c7,.int .i64 eo,.int .i64 en,.string es,.slice m au an,.bool x.place.param,.int .i64 x.place.index,.slice ac aP aJ,.slice R a5 aX,.slice none 0 0]:=by
  simpa[je] using bO
 have bt:Ext w Y:=Fr.low (M:=λb=>b=aS.heap.size) (Fr.trans (Fr.mono aQ.1 λ_ h=>h.elim) J) λb O=>by have:=bx.1.size;omega
 have dl:=J.size;have bu:=bJ bt (aQ.2.1.on J (aD bx.2.lt)) J bK;have ao:=bx.2.lt;have b0:aS.heap.size<X.heap.size:=by have:=br.lt;omega
 clear hX bO J bK bt br a0 aj af;go_wp2_with(fail);go_loopw [51] (λcy wr=>∃(k:Nat) (I:L3) (aK:Nat),cy=.int .i64 k/\k<=dj/\Ext w wr/\Fr (λb=>b=aS.heap.size) Y wr/\aq wr (w.heap.size+2) 58 #[.int .i64 0,.int .i64 0,.bool false,.int .i64 0,.int .i64 0,.string ⟨#[]⟩,.slice none 0 0,.bool false,.int .i64 0,.slice none 0 0,.slice none 0 0,.slice none 0 0]/\
   aq wr aS.heap.size 58 #[.int .i64 x.op,.int .i64 x.target,.bool x.c7,.int .i64 eo,.int .i64 en,.string es,.slice m au an,.bool x.place.param,.int .i64 x.place.index,.slice ac aP aJ,.slice R a5 aX,.slice I k aK]/\Gr (λb=>Y.heap.size<=b) Y.heap.size 55 3 wr I k aK ((x.places.take k).map dk)) (λcy _=>dj - (intOf cy).toNat)
 case atStart=>exact⟨0,none,0,rfl,ad,bu.1,LW,bu.2.1,bu.2.2.2,Gr.nil _ _ _ _ _⟩
 case round=>
  obtain⟨k,I,aK,rfl,ap,aw,bf,cB,aR,hG⟩:=hrel;have bV:=cJ aw bf cB aR hG;have gr:=bf.size;by_cases al:k<dj
  .obtain⟨b,o,y,b1,cI,zc,rfl,O,bb,b2,cG,ch,cg,cR⟩:=(ah.2.2.2.2.1.places.on (Fr.ext aw)).pq al;have aT:b<wr.heap.size:=O;have cq:=aE bb cg cR;clear aw bf cB aR hG bb cg cR O;go_upto_region 11 with(fail);generalize hU:World.alloc _ _=U;have cw:=aW hU;have c4:=aI hU;have cX:=cw.size;have bC:=bV.2.2.2.1.aj cw;have cD:=cH (bV.1.trans cw) (Fr.trans bV.2.1 (cw.mono λ_ h=>h.elim)) (bV.2.2.1.aj cw) bC (bV.2.2.2.2.aj cw) (dX.2 ⟨b1,cI,zc,rfl,cq.2.1,cq.2.2.on (Fr.ext cw)⟩:(dk y).rep U (av U) [.bool y.param,.int .i64 y.index,.slice b1 cI zc]);obtain⟨d0,aL,aM⟩:=c4.two;obtain⟨a0,aj,af⟩:=bC.two;clear hU cw c4 bC b2 cG ch aT;refine eC (λ_=>False) [(0,3),(1,0),(2,0),(3,1),(4,1),(5,2),(6,3),(7,2)] ?_;refine pf ?_
   iterate 2 refine ph ?_
   refine aG rfl (λK hK=>?_);go_simp;refine(qu y _ b1 cI zc (D.on cD.2.2.2.2.2 (Fr.ext (Fr.refl _ U).drew))).mono ?_;rintro e v1 ⟨aY,cP,cZ,rfl,Q,ar⟩;have H1:=ag Q ar;refine dq hK (ar) ?_;clear hK K;have aN:Ext U v1:=Fr.aF ar;have cA:=cD.2.2.2.2.1.aj aN;have cr:=aN.size;have aB:∀b,(Value.slice I k aK).ownBlock=some b->b<U.heap.size:=λb O=>(cD.2.2.2.2.1.lt O).2;have hd:(dk y).rep v1 (lL (λb=>Y.heap.size<=b) v1 (.slice I k aK)) (#[.bool y.param,.int .i64 y.index,.slice aY cP cZ]:Array Value).toList:=
    D.aL (λb O=>⟨by have:=O.1;have:U.drew.heap.size=U.heap.size:=rfl;omega,O.2,λh=>by have:=aB b h;have:=O.1;have:U.drew.heap.size=U.heap.size:=rfl;omega⟩) _ _ Q
   have a3:=ag cA hd;clear Q ar cA hd aB;refine rz ?_;refine ax rfl (λK hK=>?_);rw[if_pos (by rfl)];refine q9 HT (.tmp 56) (.tmp 59) rfl a3.1 a3.2 rfl rfl rfl ad ad ad ?_;intro cE c3 v2 cb g2 cT da;have bB:∀b,(Value.slice I k aK).ownBlock=some b->Y.heap.size<=b:=λb O=>(a3.1.lt O).1;have bD:=(cD.2.2.2.1.aj aN).on g2 (λh=>by have:=bB _ h;omega);have cz:=(cD.2.2.1.aj aN).on g2 (λh=>by have:=bB _ h;omega);have a4:Ext w v2:=Fr.low (M:=λb=>(Value.slice I k aK).ownBlock=some b) (Fr.trans (Fr.mono (cD.1.trans aN) λ_ h=>h.elim) g2) λb O=>by have:=bB b O;omega
   have a2:Fr (λb=>b=aS.heap.size) Y v2:=(Fr.trans cD.2.1 (aN.mono λ_ h=>h.elim)).eR (g2.below ad λb O hm=>by have:=bB b hm;omega);have bc:=cJ a4 a2 cz bD cb;clear cb g2 cT da bB cz a4 a2 a0 aj af d0 aL aM;obtain⟨a0,aj,af⟩:=bD.two;refine dP hK ?_;clear hK K;refine pf ?_;refine ax rfl (λK hK=>?_);go_simp;refine dP hK ?_;clear hK K;refine aC ?_;generalize hX:World.setCell v2 _ _=Z;obtain⟨bO,bR⟩:=km 11 [.slice cE (k+1) c3] bc.2.2.2.1 hX;have bk:aq Z aS.heap.size 58 #[.int .i64 x.op,.int .i64 x.target,.bool x.c7,.int .i64 eo,.int .i64 en,.string es,.slice m au an,.bool x.place.param,.int .i64 x.place.index,.slice ac aP aJ,.slice R a5 aX,.slice cE (k+1) c3]:=by
    simpa[je] using bO
   have r:=cJ (Fr.low (M:=λb=>b=aS.heap.size) (Fr.trans (Fr.mono bc.1 λ_ h=>h.elim) bR) (λb O=>ad):Ext w Z) (Fr.trans bc.2.1 bR) (bc.2.2.1.on bR ad) bk (bc.2.2.2.2.c8 bR λb O _=>⟨ad,ad⟩);clear hX bR bO bk a0 aj af bD;go_wp2;go_roundw
   case rel=>exact⟨k+1,cE,c3,by go_num,ad,r.1,r.2.1,r.2.2.1,r.2.2.2.1,by rw[a1 cq.1,Lr];exact r.2.2.2.2⟩
   case measure=>exact aH
  .obtain rfl:k=dj:=ad;obtain⟨a0,aj,af⟩:=aR.two;obtain⟨bl,aA,aO⟩:=cB.two;clear aw bf cB aR hG;go_wp2_with(fail);generalize hX:World.setCell _ _ _=Z;obtain⟨bk,bd,bg⟩:=bw (w:=w) [.int .i64 x.op,.int .i64 x.target,.bool x.c7,.int .i64 eo,.int .i64 en,.string es,.slice m au an,.bool x.place.param,.int .i64 x.place.index,.slice ac aP aJ,.slice R a5 aX,.slice I k aK] (by rfl) bV.2.2.1 bV.1 ad hX;have bh:=ag bd bg;clear hX bd bg a0 aj af bl aA aO;obtain⟨bl,aA,aO⟩:=bk.two;clear bk;refine LU (v:=.tuple #[.agg #[.int .i64 x.op,.int .i64 x.target,.bool x.c7,.int .i64 eo,.int .i64 en,.string es,.slice m au an,.bool x.place.param,.int .i64 x.place.index,.slice ac aP aJ,.slice R a5 aX,.slice I k aK],.bool true]) (by simp[results,Tryz.results25,go_sem,bl]) rfl ?_;have a9:=bV.2.2.2.2.c8 bh.2 λb O _=>⟨ad,ad⟩
   rw[Ls (aD b8.2)] at a9;have cR:=bh.2.size;have bZ:∀b,(aS.heap.size<b/\b<X.heap.size)->Z.heap[b]?=X.heap[b]?:=λb O=>(bh.2.block b ad ad).trans ((bV.2.1.block b ad ad).trans (bu.2.2.1.block b O.2 ad));have eG:∀b,(aS.heap.size<b/\b<X.heap.size)->av Z b:=λb O=>by show b<Z.heap.size;omega
   exact⟨⟨eo,en,es,m,au,an,ac,aP,aJ,R,a5,aX,I,k,aK⟩,rfl,⟨D.aL eG _ _ (D.aS bZ _ _ aQ.2.2.1),D.aL eG _ _ (D.aS bZ _ _ aQ.2.2.2.1),(aQ.2.2.2.2.1.al bZ).mono eG,aQ.2.2.2.2.2,a9.sl (λb al O=>al) (λb al O=>al),a9.cap.1⟩,bh.1⟩
 ):p:=h
theorem dE(h:p:=by
 go_upto_region 5 with(fail);generalize hV:World.drew (World.alloc _ _)=V;have bm:Ext w V:=hV▸(bx.1.alloc _).drew;have b7:aq V aS.heap.size 58 #[.int .i64 x.op,.int .i64 x.target,.bool x.c7,.int .i64 eo,.int .i64 en,.string es,.slice EA em ec,.bool x.place.param,.int .i64 x.place.index,.slice QA qm qc,.slice dg j dc,.slice KA dj kc]:=hV▸LX;have z:aq V (w.heap.size+2) 58 #[.int .i64 0,.int .i64 0,.bool false,.int .i64 0,.int .i64 0,.string ⟨#[]⟩,.slice none 0 0,.bool false,.int .i64 0,.slice none 0 0,.slice none 0 0,.slice none 0 0]:=hV▸bx.2.aj ((Fr.refl _ aS).alloc _).drew;have dm:=b7.lt;have ce:=bJ bm b7 z (ah.2.2.2.2.1.on bm);clear hV bm z a0 aj af c8 cv bS cW H cm cc ca cd cl bM bT c0 c1 a6;obtain⟨a0,aj,af⟩:=b7.two;clear b7;refine eC (λ_=>False) [(0,3),(1,0),(3,3),(4,0),(6,3),(7,0),(2,1),(9,3),(5,1),(8,2),(10,2),(11,3),(12,2),(13,3),(14,2)] ?_;refine pf ?_;refine ph ?_;refine pf ?_;refine ph ?_;refine pf ?_;refine ph ?_;refine aG rfl (λK hK=>?_);go_simp;refine(y6 x.expr _ eo en es EA em ec (D.on ce.2.2.2.expr (Fr.ext (Fr.refl _ V).drew))).mono ?_;rintro e aU ⟨m,au,an,rfl,L,bL⟩;have bc:=ag (Fr.aF bL) L;refine dq hK (bL) ?_;clear hK K;refine pf ?_;clear L bL;refine aG rfl (λK hK=>?_);go_simp;refine(qu x.place aU QA qm qc (D.on ce.2.2.2.place (Fr.ext bc.1))).mono ?_;rintro e b6 ⟨ac,aP,aJ,rfl,bA,bX⟩;have bP:=ag bX bA;refine dq hK (bX) ?_;clear hK K;clear bA bX;refine ax rfl (λK hK=>?_);go_simp
 refine(qs x.ints (aD b8.1) b6 dg j dc ((ce.2.2.2.ints.on (Fr.ext bc.1)).on (Fr.ext bP.1))).mono ?_;rintro e cK ⟨R,a5,aX,rfl,ba,bv,dr⟩;obtain rfl:a5=j:=by have:=bv.1;simp at this;have:=b8.1;omega
 have b4:=((ce.2.1.aj bc.1).aj bP.1).aj dr;have b5:=bJ ba bv dr b4;clear ba bv dr a0 aj af;obtain⟨a0,aj,af⟩:=b4.two;clear b4;refine dP hK ?_;clear hK K;exact sS
 ):p:=h
theorem Bf(h:p:=by
 have cx:=ab.lf;have c0:=ab.c0;have c1:=ab.c1;clear aN aZ a8 eQ P T;go_upto_region 4 with(fail);refine eC (λ_=>False) [(0,3),(1,0),(2,3),(3,3),(4,3),(5,0),(6,3),(7,3),(8,0),(9,3),(10,3),(11,3),(12,0),(13,3),(14,0),(15,1),(16,2)] ?_;refine pf ?_;refine ph ?_
 iterate 3 refine pf ?_
 refine ph ?_
 iterate 2 refine pf ?_
 refine ph ?_
 iterate 3 refine pf ?_
 refine ph ?_;refine pf ?_;refine ph ?_;refine rz ?_;exact eT
 ):p:=h
theorem BB(h:p:=by
 obtain⟨eo,en,es,EA,em,ec,QA,qm,qc,dg,j,dc,KA,dj,kc⟩:=v;have bq:x.ints.length=j:=by have:=bG.ints.1;simpa using this
 have bH:x.places.length=dj:=by have:=bG.places.1;simpa using this
 have ci:j<=200:=ad;have cN:dj<=200:=ad;dsimp only[UV.val,SV.val,IV.val] at ck ⊢;go_enter func25,ntmps25;go_upto_region 1 with(fail);generalize be:World.alloc _ _=W;have aw:=lC be;have b4:=jw be;have cf:=h1 be;have cB:=jx be;have ah:=h2 aw b4 cf cB bG db ck;have aa:=ae (hT.on aw);have b8:=ag bq bH;obtain⟨a7,am,aF⟩:=cf.two;clear be aw b4 cf cB hT hu hs bI ht hp hx bG db ck bq bH cF aV;go_wp2_with(fail);refine(lj aa.o _ _ _).mono ?_;rintro e aS ⟨rfl,aN⟩;have ab:=ae (aa.on aN);have aZ:Ext w aS:=ah.1.trans aN;have bx:=ag aZ (ah.2.2.2.1.aj aN);clear a7 am aF aa;obtain⟨a0,aj,af⟩:=(ah.2.1.aj aN).two;have T:=aZ.size;have c6:=bx.2.lt;have bF:pb<aS.heap.size:=ad;have bz:N<aS.heap.size:=ad;have a6:=(aZ.cell (j:=gP+f.proc.toNat*5+4) eQ λh=>h).trans ah.2.2.2.2.2.1;have a8:∀j u,_->aS.cell? ⟨N,co+f.pc.toNat*12+j,none⟩=some u:=λj u bi=>(aZ.cell (j:=co+f.pc.toNat*12+j) P λh=>h).trans (ah.2.2.2.2.2.2 j u bi);exact Be
 ):p:=h
theorem hE(h:p:=by
 exact BA
 ):p:=h
end CT
open CT in
theorem uL(u:ay)(s:ai)(t:Int)(f:ak)(cn:cM)(x:az)(w:World)(p:UV)(q:SV)(h:HE u s t f cn x w p q) :
  Calls prog 25 #[.agg (p.val u),.agg (q.val s),.int .i64 t] w (GC w x):=by
 obtain⟨bI,ht,hp,hx,p0,bY,cF,aV,hu,hs⟩:=h;exact hB
abbrev tU:Array Value:=#[.int .i64 0,.int .i64 0,.bool false,.int .i64 0,.int .i64 0,.string ⟨#[]⟩,.slice none 0 0,.bool false,.int .i64 0,.slice none 0 0,.slice none 0 0,.slice none 0 0]
structure SV.Is(q:SV)(w:World)(P:Nat->Prop)(s:ai):Prop where
 at_:lS w P s q.GA q.gn q.TA q.tn q.HA q.hn
 gc:q.gn<=q.gc
 tc:q.tn<=q.tc
 hc:q.hn<=q.hc
def cV(P:Nat->Prop)(w:World)(s:ai)(b:Bool)(e:Ending)(ab:World):Prop:=∃q:SV,e=.returned (.tuple #[.agg (q.val s),.bool b])/\q.Is ab (λk=>P k\/(w.heap.size<=k/\k<ab.heap.size)) s/\Ext w ab
abbrev mW:Nat->Prop:=λ_=>False
theorem SV.Is.ok{q:SV}{w:World}{s:ai}(h:q.Is w P s)(a1:∀b,P b->b<w.heap.size):q.Ok w s:=⟨h.at_.mono a1,h.gc,h.tc,h.hc⟩
theorem SV.Is.mono{q:SV}{w:World}{P c9:Nat->Prop}{s:ai}(h:q.Is w P s)(a1:∀b,P b->c9 b):q.Is w c9 s:=⟨h.at_.mono a1,h.gc,h.tc,h.hc⟩
theorem SV.Is.al{q:SV}{w ab:World}{P:Nat->Prop}{s:ai}(h:q.Is w P s)(ap:∀b,P b->ab.heap[b]?=w.heap[b]?):q.Is ab P s:=⟨⟨h.at_.g.al ap,h.at_.t.al ap,h.at_.h.al ap⟩,h.gc,h.tc,h.hc⟩
theorem ri.sv{w:World}{s:ai}{GA TA HA:L3}{gn gc tn tc hn hc:Nat}{xs:List Value}{F1 F2 bT b2:List Nat}(h:ri w s GA gn gc TA tn tc HA hn hc xs F1 F2 bT b2)(hl:∀b∈F1++(F2++(bT++b2)),P b):(⟨GA,gn,gc,TA,tn,tc,HA,hn,hc⟩:SV).Is w P s:=
 ⟨h.at_ hl,h.g.cap,h.t.cap,h.h.cap⟩
theorem ts(s:ai)(q:SV)(w:World)(h:q.Ok w s)(bI:Small s):Calls prog 51 #[.agg (q.val s)] w λe ab=>∃ar:SV,e=.returned (.agg (ar.val s))/\ar.Is ab (fresh w ab) s/\Ext w ab:=by
 refine(fK s q.GA q.TA q.HA q.gn q.gc q.tn q.tc q.hn q.hc w h.at_ bI).mono ?_;rintro e ab ⟨GA,gc,TA,tc,HA,hc,xs,F1,F2,bT,b2,rfl,ch,bB,aw⟩;exact⟨⟨GA,q.gn,gc,TA,q.tn,tc,HA,q.hn,hc⟩,rfl,ch.sv bB,aw⟩
namespace CU
theorem hE(h:p:=by
 have bq:=ag hs ht;clear hs ht;dsimp only[UV.val,SV.val];go_enter func25,ntmps25;go_upto_region 1 with(fail);generalize be:World.alloc _ _=W;have aw:=lC be;have cf:=h1 be;have cB:=jx be;have ah:=ag aw cB;obtain⟨a7,am,aF⟩:=cf.two;clear be aw cf cB;go_wp2_with(fail);refine(y7 s bU TA HA bW bE tn tc hn hc t W (bq.1.on ah.1).at_ bq.2).mono ?_;rintro e aS ⟨rfl,aN⟩;have f:=ah.2.aj aN;have bx:=ag (ah.1.trans aN) f;clear a7 am aF aN;obtain⟨bl,aA,aO⟩:=f.two;clear f;go_wp2_with(fail);generalize hX:World.setCell _ _ _=Z;obtain⟨bk,bd,bg⟩:=bw (w:=w) [.int .i64 0,.int .i64 0,.bool false,.int .i64 0,.int .i64 0,.string ⟨#[]⟩,.slice none 0 0,.bool false,.int .i64 0,.slice none 0 0,.slice none 0 0,.slice none 0 0] (by rfl) bx.2 bx.1 ad hX;have bh:=ae bd;clear hX bd bg bl aA aO;obtain⟨bl,aA,aO⟩:=bk.two;refine LU (v:=.tuple #[.agg tU,.bool false]) (by simp[results,Tryz.results25,go_sem,bl]) rfl ?_;exact⟨rfl,bh.o⟩
 ):p:=h
end CU
open CU in
theorem uK(u:ay)(s:ai)(t:Int)(w:World)(p:UV)(q:SV)(hs:q.Ok w s)(ht:de s t=none) :
  Calls prog 25 #[.agg (p.val u),.agg (q.val s),.int .i64 t] w λe ab=>e=.returned (.tuple #[.agg tU,.bool false])/\Ext w ab:=by
 exact hB
namespace CV
theorem hE(h:p:=by
 have bq:=ag hs ht;clear hs ht;dsimp only[UV.val,SV.val];go_enter func26,ntmps26;go_upto_region 1 with(fail);generalize be:World.alloc _ _=W;have aw:=lC be;have cf:=h1 be;have cB:=jx be;have ah:=ag aw cB;obtain⟨a7,am,aF⟩:=cf.two;clear be aw cf cB;go_wp2_with(fail);refine(zi s bU TA HA bW bE tn tc hn hc t W (bq.1.on ah.1).at_ bq.2).mono ?_;rintro e aS ⟨rfl,aN⟩;have f:=ah.2.aj aN;have bx:=ag (ah.1.trans aN) f;clear a7 am aF aN f;go_upto_region 2 with(fail);generalize hV:World.alloc _ _=V;have bm:=aW hV;have z:=bx.2.aj bm;have ce:=ag (bx.1.trans bm) z;obtain⟨bl,aA,aO⟩:=z.two;clear hV bm z;go_wp2_with(fail);generalize hX:World.setCell _ _ _=Z;obtain⟨bk,bd,bg⟩:=bw (w:=w) [.int .i64 0,.int .i64 0,.bool false,.int .i64 0,.int .i64 0,.string ⟨#[]⟩,.slice none 0 0,.bool false,.int .i64 0,.slice none 0 0,.slice none 0 0,.slice none 0 0] (by rfl) ce.2 ce.1 ad hX;have bh:=ae bd;clear hX bd bg bl aA aO;obtain⟨bl,aA,aO⟩:=bk.two;refine LU (v:=.tuple #[.agg tU,.bool false]) (by simp[results,Tryz.results26,go_sem,bl]) rfl ?_;exact⟨rfl,bh.o⟩
 ):p:=h
end CV
open CV in
theorem ow(u:ay)(s:ai)(t:Int)(w:World)(p:UV)(q:SV)(hs:q.Ok w s)(ht:de s t=none) :
  Calls prog 26 #[.agg (p.val u),.agg (q.val s),.int .i64 t] w λe ab=>e=.returned (.tuple #[.agg tU,.bool false])/\Ext w ab:=by
 exact hB
namespace CW
theorem lX(h:p:=by
 have ah:=aE aw aR cB;obtain⟨a7,am,aF⟩:=aR.two;clear be aw aR cB;go_wp2_with(fail);refine(ts s ⟨bU,bW,bE,TA,tn,tc,HA,hn,hc⟩ W (bq.1.on ah.1) bq.2).mono ?_;rintro e aS ⟨⟨bF,cp,a5,a1,m,L,bf,ct,aZ⟩,rfl,bM,aN⟩;have cG:=ah.2.1.aj aN;have H1:=bJ bM (ah.1.trans aN) cG (ah.2.2.aj aN);clear a7 am aF bM aN;obtain⟨a7,am,aF⟩:=cG.two;clear cG;go_upto_region 3 with(fail);generalize hX:World.setCell _ _ _=X;obtain⟨bC,J⟩:=km 3 [.int .i64 z] (km 0 [.slice bF cp a5,.slice a1 m L,.slice bf ct aZ,.int .i64 s.fault] H1.2.2.1 rfl).1 hX;have az:Fr (λb=>b=w.heap.size) aS X:=(km 0 [.slice bF cp a5,.slice a1 m L,.slice bf ct aZ,.int .i64 s.fault] H1.2.2.1 rfl).2.trans J;have bD:aq X w.heap.size 40 #[.slice bF cp a5,.slice a1 m L,.slice bf ct aZ,.int .i64 z]:=by simpa[je] using bC
 have bo:=H1.2.2.2.on az ad;have bs:Ext w X:=Fr.low (M:=λb=>b=w.heap.size) (Fr.trans (Fr.mono H1.2.1 λ_ h=>h.elim) az) λb O=>ad;have aQ:=aE bs bo az;clear hX bC J az a7 am aF bs;obtain⟨a7,am,aF⟩:=bD.two;obtain⟨bl,aA,aO⟩:=bo.two;clear bD bo;go_wp2_with(fail);generalize hX:World.setCell _ _ _=Z;obtain⟨bk,bd,bg⟩:=bw (w:=w) [.slice bF cp a5,.slice a1 m L,.slice bf ct aZ,.int .i64 z] (by rfl) aQ.2.1 aQ.1 ad hX;have bh:=ag bd bg;clear hX bd bg bl aA aO a7 am aF;obtain⟨bl,aA,aO⟩:=bk.two;refine LU (v:=.tuple #[.agg #[.slice bF cp a5,.slice a1 m L,.slice bf ct aZ,.int .i64 z],.bool true]) (by simp[results,Tryz.results99,go_sem,bl]) rfl ?_;have ao:=aQ.2.2.size;have cR:=bh.2.size;have aI:w.heap.size+1<W.heap.size:=ah.2.2.lt;have an:(⟨bF,cp,a5,a1,m,L,bf,ct,aZ⟩:SV).Is Z (fresh W aS) {s with fault:=z}:=SV.Is.al (w:=aS) ⟨⟨H1.1.at_.g,H1.1.at_.t,H1.1.at_.h⟩,H1.1.gc,H1.1.tc,H1.1.hc⟩ λb O=>(bh.2.block b (aD O.2) (aD O.1)).trans (aQ.2.2.block b O.2 (aD O.1));exact⟨⟨bF,cp,a5,a1,m,L,bf,ct,aZ⟩,rfl,an.mono λb O=>.inr ⟨by have:=O.1;omega,by have:=O.2;omega⟩,bh.1⟩
 ):p:=h
end CW
open CW in
theorem lg(s:ai)(q:SV)(z:Int)(w:World)(h:q.Ok w s)(bI:Small s):Calls prog 99 #[.agg (q.val s),.int .i64 z] w (cV mW w {s with fault:=z} true):=by
 obtain⟨bU,bW,bE,TA,tn,tc,HA,hn,hc⟩:=q;have bq:=ag h bI;clear h bI;dsimp only[SV.val];go_enter func99,ntmps99;exact lW
namespace CX
theorem lX(h:p:=by
 have ah:=aE aw aR cB;obtain⟨a7,am,aF⟩:=aR.two;clear be aw aR cB;go_upto_region 2 with(fail);generalize hX:World.setCell _ _ _=X;obtain⟨bC,J⟩:=km 3 [.int .i64 z] ah.2.1 hX;have bD:aq X w.heap.size 40 #[.slice bU bW bE,.slice TA tn tc,.slice HA hn hc,.int .i64 z]:=by simpa[je] using bC
 have bo:=ah.2.2.on J ad;have bs:Ext w X:=Fr.low (M:=λb=>b=w.heap.size) (Fr.trans (Fr.mono ah.1 λ_ h=>h.elim) J) λb O=>ad;have aQ:=ag bs bo;clear hX bC J a7 am aF bs;obtain⟨a7,am,aF⟩:=bD.two;obtain⟨bl,aA,aO⟩:=bo.two;clear bD bo;go_wp2_with(fail);generalize hX:World.setCell _ _ _=Z;obtain⟨bk,bd,bg⟩:=bw (w:=w) [.slice bU bW bE,.slice TA tn tc,.slice HA hn hc,.int .i64 z] (by rfl) aQ.2 aQ.1 ad hX;have bh:=ae bd;clear hX bd bg bl aA aO a7 am aF;obtain⟨bl,aA,aO⟩:=bk.two;refine LU (v:=.tuple #[.agg #[.slice bU bW bE,.slice TA tn tc,.slice HA hn hc,.int .i64 z],.bool true]) (by simp[results,Tryz.results58,go_sem,bl]) rfl ?_;have bn:=bq.1.al (ab:=Z) λb O=>bh.block b (bq.2 b O) λh=>h;exact⟨⟨bU,bW,bE,TA,tn,tc,HA,hn,hc⟩,rfl,SV.Is.mono ⟨⟨bn.at_.g,bn.at_.t,bn.at_.h⟩,bn.gc,bn.tc,bn.hc⟩ λb O=>.inl O,bh.o⟩
 ):p:=h
end CX
open CX in
theorem pw(P:Nat->Prop)(s:ai)(q:SV)(z:Int)(w:World)(h:q.Is w P s)(a1:∀b,P b->b<w.heap.size):Calls prog 58 #[.agg (q.val s),.int .i64 z] w (cV P w {s with fault:=z} true):=by
 obtain⟨bU,bW,bE,TA,tn,tc,HA,hn,hc⟩:=q;have bq:=ag h a1;clear h a1;dsimp only[SV.val];go_enter func58,ntmps58;exact lW
end Go.Proofs.YtkhnkojkplbioaaGreat

/- Part 19 of the proof. No condition of its own. -/
import Derived.Test.YtflecliffjbleaaGreatS18
namespace Go.Proofs.YtflecliffjbleaaGreat
open Go.RowKit Go.Proofs.Tryz
set_option maxRecDepth 1000000
set_option maxHeartbeats 25600000
set_option linter.unusedVariables false
variable{nl t:Int}{p:Prop}{x:ay}
structure UV where
 GA:Option Addr
 gn:Nat
 gc:Nat
 MA:Option Addr
 mn:Nat
 mc:Nat
 PA:Option Addr
 pn:Nat
 pc:Nat
structure SV where
 GA:Option Addr
 gn:Nat
 gc:Nat
 TA:Option Addr
 tn:Nat
 tc:Nat
 HA:Option Addr
 hn:Nat
 hc:Nat
abbrev UV.val(p:UV)(u:aw):Array Value:=#[.slice p.GA p.gn p.gc,.slice p.MA p.mn p.mc,.slice p.PA p.pn p.pc,.int .i64 u.main]
abbrev SV.val(q:SV)(s:ai):Array Value:=#[.slice q.GA q.gn q.gc,.slice q.TA q.tn q.tc,.slice q.HA q.hn q.hc,.int .i64 s.fault]
structure UV.Ok(p:UV)(w:World)(u:aw):Prop where
 at_:hY w (av w) u p.GA p.gn p.MA p.mn p.PA p.pn
 gc:p.gn<=p.gc
 mc:p.mn<=p.mc
 pc:p.pn<=p.pc
structure SV.Ok(q:SV)(w:World)(s:ai):Prop where
 at_:l0 w (av w) s q.GA q.gn q.TA q.tn q.HA q.hn
 gc:q.gn<=q.gc
 tc:q.tn<=q.tc
 hc:q.hn<=q.hc
theorem UV.Ok.on{p:UV}{w ab:World}{u:aw}(h:p.Ok w u)(he:Ext w ab):p.Ok ab u:=⟨h.at_.on he,h.gc,h.mc,h.pc⟩
theorem SV.Ok.on{q:SV}{w ab:World}{s:ai}(h:q.Ok w s)(he:Ext w ab):q.Ok ab s:=⟨h.at_.on he,h.gc,h.tc,h.hc⟩
theorem j0{u:aw}(hU:dg u):elems u.af<=5000:=by
 have ac:=ff u.af;have ax:=dt hU.zH;omega
theorem aT.small{u:aw}{N:Nat}{s:ai}(hU:dg u)(h:aT u N s)(hD:N<=100000):Small s:=by
 refine⟨by have:=h.du;have:=hU.qA;omega,by have:=h.table;have:=dt hU.zH;omega,by have:=h.yz;omega,λt ht=>⟨by have:=(h.fV t ht).1;omega,λf J=>?_⟩⟩;obtain⟨p,hp,_,ac,ax⟩:=((h.fV t ht).2 f J).ex;have:=hU.procs p (LF hp);have:=this.ints;have:=(hU.procs p (LF hp)).ax;omega
section
variable {u:aw} {N:Nat} {s:ai} {f:an} {cp:cM} {pl:bP} {w:World} {GA MA IA QA:Mk} {gn gc mn mc i ic qm qc:Nat}
theorem Ek(hU:dg u)(hS:aT u N s)(hF:ca u f)(hp:u.procs[f.proc.toNat]?=some cp)(hx:cL (br u) cp.locals cp.ax pl)(j:pl.param=false)
  (hm:Sl w (av w) MA mn (u.af.map eC)) (aY:Sl w (av w) GA gn (s.globals.map D.i)) (al:Sl w (av w) IA i (f.ints.map D.i)) (bv:(ds pl).rep w (av w) [.bool pl.param,.int .i64 pl.index,.slice QA qm qc]) :
  (qm=0/\cW u s f pl=(0,0))\/∃(e:VE) (k:Nat) (m:bL) (b o:Nat) (c0 c1 c2 c3:Value),QA=some ⟨b,o,none⟩/\qm=1/\pl.index=(k:Nat)/\zJ w MA mn u.af GA IA gn i s.globals f.ints e k m b o c0 c1 c2 c3/\oh s.globals f.ints e/\cW u s f pl=idx m.size (ev s.globals f.ints e):=by
 rcases hx with⟨ac,_⟩|⟨_,m,ax,a1,aU,cy⟩
 .rw[j] at ac;cases ac
 obtain⟨A2,n2,c2,e,_,hs⟩:=dZ.1 bv;simp only[List.cons.injEq,and_true,true_and] at e;injection e with bH cq cu;subst bH cq cu;have aR:u.af[pl.index.toNat]?=some m:=a1;by_cases aG:0<m.size
 .obtain⟨x,hx,rj⟩:=aU aG;right;rw[hx] at hs;simp only[Option.toList_some,LI,L4] at hs;obtain rfl:qm=1:=hs.1.symm;obtain⟨b,o,bU,Z,bm,E,rfl,O,a9,c0,c1,c2,c3⟩:=hs.ED (db x);obtain⟨bn,a,_⟩:=x6 hS hF hp rj;have vz:=aY.1;have az:=al.1;have dQ:=hm.1;rw[LG] at vz az dQ;have aj:=(List.getElem?_eq_some_iff.1 aR).1;refine⟨x,pl.index.toNat,m,b,o,bU,Z,bm,E,rfl,rfl,ad,⟨⟨aY.ints,al.ints,by rw[<-vz,<-az];exact bn,kI x _ a9⟩,hm.qx,ad,aR,O,c0,c1,c2,c3⟩,a,?_⟩;unfold cW;rw[hx,aR];rfl
 .left;rw[cy aG] at hs;refine⟨hs.1.symm,?_⟩;unfold cW;rw[cy aG]
theorem Ij(hU:dg u)(hS:aT u N s)(hF:ca u f)(hp:u.procs[f.proc.toNat]?=some cp)(hx:cL (br u) cp.locals cp.ax pl)(j:pl.param=false)
  (hm:Sl w (av w) MA mn (u.af.map eC)) (aY:Sl w (av w) GA gn (s.globals.map D.i)) (al:Sl w (av w) IA i (f.ints.map D.i)) (bv:(ds pl).rep w (av w) [.bool pl.param,.int .i64 pl.index,.slice QA qm qc]) :
  Calls prog 77 #[.agg #[.bool false,.int .i64 pl.index,.slice QA qm qc],.slice MA mn mc,.slice GA gn gc,.slice IA i ic] w (gp w (cW u s f pl)):=by
 rcases Ek hU hS hF hp hx j hm aY al bv with⟨rfl,h⟩|⟨e,k,m,b,o,c0,c1,c2,c3,rfl,rfl,aj,hI,_,h⟩
 .rw[h];exact vD _ _ _ _ _ _ _ _
 .rw[h,aj];exact yE _ _ _ _ _ _ _ _ _ _ _ _ _ _ _ _ _ _ _ _ _ _ _ hI
theorem It(hU:dg u)(hS:aT u N s)(hF:ca u f)(hp:u.procs[f.proc.toNat]?=some cp)(hx:cL (br u) cp.locals cp.ax pl)(j:pl.param=false)
  (hm:Sl w (av w) MA mn (u.af.map eC)) (aY:Sl w (av w) GA gn (s.globals.map D.i)) (al:Sl w (av w) IA i (f.ints.map D.i)) (bv:(ds pl).rep w (av w) [.bool pl.param,.int .i64 pl.index,.slice QA qm qc]) :
  Calls prog 82 #[.agg #[.bool false,.int .i64 pl.index,.slice QA qm qc],.slice MA mn mc,.slice GA gn gc,.slice IA i ic] w (gp w (cW u s f pl)):=by
 rcases Ek hU hS hF hp hx j hm aY al bv with⟨rfl,h⟩|⟨e,k,m,b,o,c0,c1,c2,c3,rfl,rfl,aj,hI,a,h⟩
 .rw[h];exact rz _ _ _ _ _ _ _ _
 .rw[h,aj];exact ts _ _ _ _ _ _ _ _ _ _ _ _ _ _ _ _ _ _ _ _ _ _ _ hI a
end
theorem gS{u:aw}{s:ai}{f:an}{pl:bP}(h:dO s t=some f):x4 u s t pl=bj u s f pl:=by unfold x4;rw[h]
theorem rQ{u:aw}{s:ai}{f:an}{pl:bP}(h:pl.param=true):bj u s f pl=(f.ax.getD pl.index.toNat 0,0):=by unfold bj;rw[if_pos h]
theorem yT{u:aw}{s:ai}{f:an}{pl:bP}(h:pl.param=false)(J:(cW u s f pl).2≠0):bj u s f pl=(0,(cW u s f pl).2):=by unfold bj;rw[if_neg (by simp[h]),if_pos J]
theorem p5{u:aw}{s:ai}{f:an}{pl:bP}(h:pl.param=false)(J:(cW u s f pl).2=0):bj u s f pl=(e4 u.af pl.index+(cW u s f pl).1,0):=by unfold bj;rw[if_neg (by simp[h]),if_neg ad]
theorem D3{u:aw}{s:ai}{f:an}{pl:bP}{nk:Int}(hU:dg u)(hF:ca u f)(aj:nk<=f.ax.length)(hx:cL (br u) nl nk pl)(h:pl.param=false)(J:(cW u s f pl).2=0):
  0<=e4 u.af pl.index+(cW u s f pl).1/\e4 u.af pl.index+(cW u s f pl).1<=5000:=by
 have ac:=(iF (s:=s) hU hF aj hx).2;rw[p5 h J] at ac;have:=j0 hU;have:=ac rfl;simp only at this;omega
theorem EJ{u:aw}{f:an}{pl:bP}{w:World}{bB:Mk}{l:Nat}(hx:cL (br u) nl f.ax.length pl)(h:pl.param=true)(hl:Sl w (av w) bB l (f.ax.map D.i)):
  0<=pl.index/\pl.index<l/\∃b o,bB=some ⟨b,o,none⟩/\b<w.heap.size/\w.cell? ⟨b,o+pl.index.toNat,none⟩=some (.int .i64 (f.ax.getD pl.index.toNat 0)):=by
 rcases hx with⟨_,ac,ax,_⟩|⟨ac,_⟩
 .have hn:=hl.1;rw[LG] at hn;obtain⟨b,o,x,bO,O,hx,hc⟩:=hl.ints.int (k:=pl.index.toNat) ad;refine⟨ac,ad,b,o,bO,O,?_⟩;rw[List.getD_eq_getElem?_getD,hx];exact hc
 .rw[h] at ac;cases ac
structure IY(u:aw)(s:ai)(t:Int)(f:an)(pl:bP)(N:Nat)(w:World)(p:UV)(q:SV)(QA:Mk)(qm qc:Nat):Prop where
 hU:dg u
 hS:aT u N s
 sm:Small s
 ht:dO s t=some f
 hx:∃cp,u.procs[f.proc.toNat]?=some cp/\cL (br u) cp.locals cp.ax pl
 u:p.Ok w u
 s:q.Ok w s
 pl:(ds pl).rep w (av w) [.bool pl.param,.int .i64 pl.index,.slice QA qm qc]
theorem ca.qq{u:aw}{f:an}{cp:cM}(hF:ca u f)(hp:u.procs[f.proc.toNat]?=some cp):(f.ax.length:Int)=cp.ax:=by
 obtain⟨p,h,_,_,ax⟩:=hF.ex;rw[hp] at h;injection h with h;rw[h];exact ax
namespace Cs
theorem Bc(h:p:=by
 clear k aq m aT bg a0 ak af a8 am aJ d0 aK aO c2 c3;obtain⟨a0,ak,af⟩:=((ag.2.1.aj a7.1).aj a7.2).two;obtain⟨d0,aK,aO⟩:=((ag.2.2.2.1.aj a7.1).aj a7.2).two;refine dU hK ?_;clear hK K
 iterate 5 refine pf ?_
 refine aC ?_;by_cases aG:z=0
 .have q5:(z != 0)=false:=by simpa using aG
  have b7:=bM.1 aG;have I:=ae (bM.2.2 aG);subst aG;generalize aS:e4 u.af pl.index=B at *;have bH:=ae aS;clear aS bM;go_wp2_with(fail);refine(DS MA mn mc u.af pl.index aW ((ag.2.2.2.2.1.on a7.1).on a7.2).at_.m.qx aR.1.zH cG).mono ?_;rintro e b4 ⟨rfl,aD⟩;rw[bH.o];have ba:=ae (((ag.1.trans a7.1).trans a7.2).trans (Fr.of aD));clear aD a0 ak af d0 aK aO;go_wp2
  go_ret2
  exact gp.mk' I.o (Fr.ext ba.o)
 .have q5:(z != 0)=true:=by simpa using aG
  have I:=ae (bM.2.1 aG);clear aG bM;go_wp2_with(fail)
  go_ret2
  exact gp.mk' I.o (Fr.ext ((ag.1.trans a7.1).trans a7.2))
 ):p:=h
theorem AQ(h:p:=by
 refine(lD Q.o _ _ _).mono ?_;rintro e aP ⟨rfl,aL⟩;have ab:=ae (Q.on aL);have bu:=ae aL;clear a0 ak af a8 am aJ d0 aK aO;obtain⟨a0,ak,af⟩:=(ag.2.1.aj aL).two;obtain⟨a8,am,aJ⟩:=(ag.2.2.1.aj aL).two;obtain⟨d0,aK,aO⟩:=(ag.2.2.2.1.aj aL).two;have cA:=ab.lf;have c2:=ab.c2;have c3:=ab.c3;clear aL Q
 cases j:pl.param with
 | true=>
  rw[j] at d0;obtain⟨f1,cZ,lb,lo,rfl,bq,aY⟩:=EJ aR.2.2.2.2.2 j ab.ax;have aj:=rQ (u:=u) (s:=s) (f:=f) j;generalize hV:f.ax.getD pl.index.toNat 0=V at *;have a2:=ae aj;have q1:decide (pl.index<0)=false:=by simp;omega
  have cO:decide (pl.index>=l)=false:=by simp;omega
  clear aj hV;go_upto_region 5 with(fail);refine eK (λ_=>False) [(0,3),(1,0),(2,3),(3,3),(4,3),(5,0),(6,3),(7,3),(8,3),(9,0),(10,3),(11,3),(12,3)] ?_;refine pf ?_;refine ph ?_
  iterate 3 refine pf ?_
  refine ph ?_
  iterate 3 refine pf ?_
  refine ph ?_
  iterate 3 refine pf ?_
  refine aC ?_;go_upto_region 7 with(fail);refine eK (λ_=>False) [(0,3),(1,3),(2,3),(3,0),(4,3),(5,0),(6,3),(7,0),(8,3),(9,3)] ?_
  iterate 3 refine pf ?_
  refine bO (v:=?_) rfl (by rfl) (λV hV=>?_) ?_;rotate_left
  .obtain⟨hVc,hVf⟩:=Fr.jy hV
   (go_simp<;>with_reducible rfl)
  try simp only[PU]
  refine pf ?_;refine bO (v:=?_) rfl (by rfl) (λV hV=>?_) ?_;rotate_left
  .obtain⟨hVc,hVf⟩:=Fr.jy hV
   (go_simp<;>with_reducible rfl)
  try simp only[PU]
  refine pf ?_;refine bO (v:=?_) rfl (by rfl) (λV hV=>?_) ?_;rotate_left
  .obtain⟨hVc,hVf⟩:=Fr.jy hV
   (go_simp<;>with_reducible rfl)
  try simp only[PU]
  iterate 2 refine pf ?_
  refine aC ?_;go_wp2_with(fail)
  go_ret2
  exact gp.mk' a2.o (Fr.ext ((ag.1.trans bu.o).drew.drew))
 | false=>
  rw[j] at d0;go_upto_region 8 with(fail);refine eK (λ_=>False) [(0,0),(1,3),(2,0),(3,3),(4,0),(5,3),(6,3),(7,3),(8,0),(9,2),(10,3),(11,3),(12,3),(13,3),(14,3)] ?_;refine ph ?_;refine pf ?_;refine ph ?_;refine pf ?_;refine ph ?_
  iterate 3 refine pf ?_
  refine ph ?_;refine au rfl (λK hK=>?_);go_simp;have aT:Ext W aP.drew:=bu.drew;refine(Ij (u:=u) (s:=s) (f:=f) (pl:=pl) aR.1 aR.2.1 aR.2.2.1 aR.2.2.2.1 aR.2.2.2.2.1 j (ag.2.2.2.2.1.on aT).at_.m (ag.2.2.2.2.2.1.on aT).at_.g (ab.on Mg.drew).ints (D.on ag.2.2.2.2.2.2 (Fr.ext aT))).mono ?_;rintro e aW ⟨rfl,bg⟩;have a7:=ah aT (Fr.of (M:=λ_=>False) bg);exact Bb
 ):p:=h
theorem BE(h:p:=by
 have cG:=hu.mc;simp only at cG;have aR:=dI hU hS hF hp hx o;dsimp only[UV.val,SV.val];go_enter func40,ntmps40;exact AP
 ):p:=h
theorem eZ(h:p:=by
 exact BD
 ):p:=h
end Cs
open Cs in
theorem mq(u:aw)(s:ai)(t:Int)(f:an)(pl:bP)(N:Nat)(w:World)(p:UV)(q:SV)(QA:Mk)(qm qc:Nat)(h:IY u s t f pl N w p q QA qm qc) :
  Calls prog 40 #[.agg (p.val u),.agg (q.val s),.int .i64 t,.agg #[.bool pl.param,.int .i64 pl.index,.slice QA qm qc]] w (gp w (x4 u s t pl)):=by
 obtain⟨hU,hS,b7,ht,⟨cp,hp,hx⟩,hu,hs,bv⟩:=h;exact eY
namespace Ct
theorem Bc(h:p:=by
 clear k aq m bg a0 ak af a8 am aJ d0 aK aO e0 a6 aQ;obtain⟨a0,ak,af⟩:=((ag.2.1.aj a7.1).aj a7.2).two;obtain⟨d0,aK,aO⟩:=((ag.2.2.2.1.aj a7.1).aj a7.2).two;by_cases aG:z=0
 .have q5:(z != 0)=false:=by simpa using aG
  have b7:=bM.1 aG;have I:=ae (bM.2.2 aG);subst aG;generalize aS:e4 u.af pl.index=B at *;have bH:=ae aS;clear aS bM;go_wp2_with(fail);refine(uS MA mn mc u.af pl.index aW ((ag.2.2.2.2.1.on a7.1).on a7.2).at_.m.qx aR.1.zH).mono ?_;rintro e b4 ⟨rfl,aD⟩;rw[bH.o];have ba:=ae (((ag.1.trans a7.1).trans a7.2).trans (Fr.of aD));clear aD a0 ak af d0 aK aO;go_wp2
  go_ret2
  exact gp.mk' I.o (Fr.ext ba.o)
 .have q5:(z != 0)=true:=by simpa using aG
  have I:=ae (bM.2.1 aG);clear aG bM;go_wp2_with(fail)
  go_ret2
  exact gp.mk' I.o (Fr.ext ((ag.1.trans a7.1).trans a7.2))
 ):p:=h
theorem AQ(h:p:=by
 refine(nX Q.o _ _ _).mono ?_;rintro e aP ⟨rfl,aL⟩;have ab:=ae (Q.on aL);have bu:=ae aL;clear a0 ak af a8 am aJ d0 aK aO aL Q;obtain⟨a0,ak,af⟩:=(ag.2.1.aj bu.o).two;obtain⟨a8,am,aJ⟩:=(ag.2.2.1.aj bu.o).two;obtain⟨d0,aK,aO⟩:=(ag.2.2.2.1.aj bu.o).two
 cases j:pl.param with
 | true=>
  rw[j] at d0;obtain⟨f1,cZ,lb,lo,rfl,bq,aY⟩:=EJ aR.2.2.2.2.2 j ab.ax;have aj:=rQ (u:=u) (s:=s) (f:=f) j;generalize hV:f.ax.getD pl.index.toNat 0=V at *;have a2:=ae aj;clear aj hV;go_wp2_with(fail)
  go_ret2
  exact gp.mk' a2.o (Fr.ext ((ag.1.trans bu.o).alloc _))
 | false=>
  rw[j] at d0;go_upto_region 4 with(fail);generalize hV:World.alloc _ _=V;have bo:=aZ hV;have L:=aN hV;have aT:Ext W V:=bu.trans bo;have cc:=ah aT bo;clear hV aT a0 ak af a8 am aJ d0 aK aO;obtain⟨a0,ak,af⟩:=(ag.2.1.aj cc.1).two;obtain⟨a8,am,aJ⟩:=(ag.2.2.1.aj cc.1).two;obtain⟨d0,aK,aO⟩:=(ag.2.2.2.1.aj cc.1).two;obtain⟨e0,a6,aQ⟩:=L.two;rw[j] at d0;clear bo L;go_wp2_with(fail);refine(It (u:=u) (s:=s) (f:=f) (pl:=pl) aR.1 aR.2.1 aR.2.2.1 aR.2.2.2.1 aR.2.2.2.2.1 j (ag.2.2.2.2.1.on cc.1).at_.m (ag.2.2.2.2.2.1.on cc.1).at_.g (ab.on cc.2).ints (D.on ag.2.2.2.2.2.2 (Fr.ext cc.1))).mono ?_;rintro e aW ⟨rfl,bg⟩;have a7:=ah cc.1 (Fr.of (M:=λ_=>False) bg);exact Bb
 ):p:=h
theorem BE(h:p:=by
 have aR:=dI hU hS hF hp hx o;dsimp only[UV.val,SV.val];go_enter func46,ntmps46;exact AP
 ):p:=h
theorem eZ(h:p:=by
 exact BD
 ):p:=h
end Ct
open Ct in
theorem my(u:aw)(s:ai)(t:Int)(f:an)(pl:bP)(N:Nat)(w:World)(p:UV)(q:SV)(QA:Mk)(qm qc:Nat)(h:IY u s t f pl N w p q QA qm qc) :
  Calls prog 46 #[.agg (p.val u),.agg (q.val s),.int .i64 t,.agg #[.bool pl.param,.int .i64 pl.index,.slice QA qm qc]] w (gp w (x4 u s t pl)):=by
 obtain⟨hU,hS,b7,ht,⟨cp,hp,hx⟩,hu,hs,bv⟩:=h;exact eY
structure IV where
 eo:Int
 en:Int
 es:ByteArray
 EA:Option Addr
 em:Nat
 ec:Nat
 QA:Option Addr
 qm:Nat
 qc:Nat
 IA:Option Addr
 i:Nat
 ic:Nat
 KA:Option Addr
 k:Nat
 kc:Nat
abbrev IV.val(v:IV)(x:ay):Array Value:=#[.int .i64 x.op,.int .i64 x.target,.bool x.du,.int .i64 v.eo,.int .i64 v.en,.string v.es,.slice v.EA v.em v.ec,.bool x.place.param,.int .i64 x.place.index,.slice v.QA v.qm v.qc,.slice v.IA v.i v.ic,.slice v.KA v.k v.kc]
structure IV.Ok(v:IV)(w:World)(x:ay):Prop where
 expr:(oS x.expr).rep w (av w) [.int .i64 v.eo,.int .i64 v.en,.string v.es,.slice v.EA v.em v.ec]
 place:(ds x.place).rep w (av w) [.bool x.place.param,.int .i64 x.place.index,.slice v.QA v.qm v.qc]
 ints:Sl w (av w) v.IA v.i (x.ints.map bk)
 Ic:v.i<=v.ic
 places:Sl w (av w) v.KA v.k (x.places.map ds)
 Ih:v.k<=v.kc
theorem IV.Ok.on{v:IV}{w ab:World}{x:ay}(h:v.Ok w x)(he:Ext w ab):v.Ok ab x:=
 ⟨D.on h.expr (Fr.ext he),D.on h.place (Fr.ext he),h.ints.on (Fr.ext he),h.Ic,h.places.on (Fr.ext he),h.Ih⟩
def GL(w:World)(x:ay)(e:Ending)(ab:World):Prop:=∃v:IV,e=.returned (.tuple #[.agg (v.val x),.bool true])/\v.Ok ab x/\Ext w ab
theorem uA{u:aw}{s:ai}{f:an}{cp:cM}(h:dO s t=some f)(hp:u.procs[f.proc.toNat]?=some cp)(hx:cp.code[f.pc.toNat]?=some x):dz u s t=some x:=by
 unfold dz;rw[h];simp only[Option.bind_some,hp,hx]
structure HN(u:aw)(s:ai)(t:Int)(f:an)(cp:cM)(x:ay)(w:World)(p:UV)(q:SV):Prop where
 sm:Small s
 ht:dO s t=some f
 hp:u.procs[f.proc.toNat]?=some cp
 hx:cp.code[f.pc.toNat]?=some x
 p0:0<=f.proc
 c0:0<=f.pc
 il:x.ints.length<=200
 kl:x.places.length<=200
 u:p.Ok w u
 s:q.Ok w s
theorem hY.code{w:World}{u:aw}{GA MA PA:Mk}{gn mn pn:Nat}(h:hY w (av w) u GA gn MA mn PA pn){f:an}{cp:cM}(hp:u.procs[f.proc.toNat]?=some cp)(hx:cp.code[f.pc.toNat]?=some x)(p0:0<=f.proc)(c0:0<=f.pc):
  ∃b o R co n c,∃v:IV,PA=some ⟨b,o,none⟩/\b<w.heap.size/\f.proc<pn/\w.cell? ⟨b,o+f.proc.toNat*5+4,none⟩=some (.slice (some ⟨R,co,none⟩) n c)/\R<w.heap.size/\f.pc<n/\v.Ok w x/\∀j u,(v.val x)[j]?=some u->w.cell? ⟨R,co+f.pc.toNat*12+j,none⟩=some u:=by
 have ac:=(List.getElem?_eq_some_iff.1 hp).1;have ax:=(List.getElem?_eq_some_iff.1 hx).1;have bk:=h.p.1;rw[LG] at bk;obtain⟨b,o,cQ,S,n,c,rfl,O,ci,_,_,_,_,hc,aK,hs⟩:=h.proc (k:=f.proc.toNat) ad;rw[hp] at ci;injection ci with ci;subst ci;have cu:=hs.1;rw[LG] at cu;obtain⟨R,co,d,cs,eo,en,es,EA,em,ec,QA,qm,qc,IA,i,ic,KA,m,mc,rfl,aQ,g,al,bi⟩:=hs.El (k:=f.pc.toNat) ad;rw[hx] at g;injection g with g;subst g;refine⟨b,o,R,co,n,c,⟨eo,en,es,EA,em,ec,QA,qm,qc,IA,i,ic,KA,m,mc⟩,rfl,O,ad,hc,aQ,ad,⟨al.expr,al.place,al.ints,al.Ic,al.places,al.Ih⟩,λj u hu=>bi j u ?_⟩;rw[al.cells];simpa using hu
namespace Cu
theorem Bs(h:p:=by
 clear hV bo L aT J m bq dT aQ T;go_upto_region 4 with(fail);refine eK (λ_=>False) [(0,3),(1,0),(2,3),(3,0),(4,3),(5,3),(6,0),(7,3),(8,0),(9,3),(10,0),(11,2),(12,3)] ?_;refine pf ?_;refine ph ?_;refine pf ?_;refine ph ?_
 iterate 2 refine pf ?_
 refine ph ?_;refine pf ?_;refine ph ?_;refine pf ?_;refine ph ?_;refine au rfl (λK hK=>?_);go_simp;refine dU hK ?_;clear hK K;refine pf ?_;refine aC ?_;generalize hX:World.setCell _ _ _=X;obtain⟨bC,bz,ct⟩:=bs (w:=w) [.int .i64 x.op,.int .i64 x.target,.bool x.du,.int .i64 eo,.int .i64 en,.string es,.slice EA em ec,.bool x.place.param,.int .i64 x.place.index,.slice QA qm qc,.slice dk j df,.slice KA k kc] (by rfl) cc.2.1 cc.1 ad hX;have aR:=ae bz;clear hX bz ct a0 ak af d0 aK aO bp aM aV cS cv bR cR H b0 cU cf ci ck bO b9 bH;obtain⟨bp,aM,aV⟩:=bC.two;clear bC;go_wp2_with(fail);refine Mf (v:=.tuple #[.agg #[.int .i64 x.op,.int .i64 x.target,.bool x.du,.int .i64 eo,.int .i64 en,.string es,.slice EA em ec,.bool x.place.param,.int .i64 x.place.index,.slice QA qm qc,.slice dk j df,.slice KA k kc],.bool true]) (by simp[results,Tryz.results26,go_sem,bp]) rfl ?_;exact⟨⟨eo,en,es,EA,em,ec,QA,qm,qc,dk,j,df,KA,k,kc⟩,rfl,ag.2.2.2.2.1.on aR.drew,aR.drew⟩
 ):p:=h
theorem BN(h:p:=by
 obtain⟨eo,en,es,EA,em,ec,QA,qm,qc,dk,j,df,KA,k,kc⟩:=v;dsimp only[UV.val,SV.val,IV.val] at cb ⊢;go_enter func26,ntmps26;go_upto_region 1 with(fail);generalize bd:World.alloc _ _=W;have aF:=l3 bd;have bQ:=kr bd;have be:=iC bd;have cB:=ks bd;have ag:=hj aF bQ be cB bG c9 cb;have Q:=ae (hT.on aF);obtain⟨a8,am,aJ⟩:=be.two;clear bd aF bQ be cB hT hu hs b7 ht hp hx bG c9 cb;go_wp2_with(fail);refine(nX Q.o _ _ _).mono ?_;rintro e aP ⟨rfl,aL⟩;have bu:=ae aL;clear a8 am aJ aL Q;go_upto_region 2 with(fail);generalize hV:World.alloc _ _=V;have bo:=aZ hV;have L:=aN hV;have aT:Ext W V:=bu.trans bo;have J:Ext w V:=ag.1.trans aT;have m:=ag.2.2.2.1.aj aT;have cc:=bA J m aT bo;obtain⟨a0,ak,af⟩:=(ag.2.1.aj aT).two;obtain⟨d0,aK,aO⟩:=L.two;obtain⟨bp,aM,aV⟩:=m.two;have T:=J.size;have N:pb<V.heap.size:=ad;have bv:R<V.heap.size:=ad;have bH:=(J.cell (j:=gW+f.proc.toNat*5+4) dT λh=>h).trans ag.2.2.2.2.2.1;have bq:∀j u,_->V.cell? ⟨R,co+f.pc.toNat*12+j,none⟩=some u:=λj u bi=>(J.cell (j:=co+f.pc.toNat*12+j) aQ λh=>h).trans (ag.2.2.2.2.2.2 j u bi);exact Br
 ):p:=h
theorem eZ(h:p:=by
 exact BM
 ):p:=h
end Cu
open Cu in
theorem k1(u:aw)(s:ai)(t:Int)(f:an)(cp:cM)(x:ay)(w:World)(p:UV)(q:SV)(h:HN u s t f cp x w p q) :
  Calls prog 26 #[.agg (p.val u),.agg (q.val s),.int .i64 t] w (GL w x):=by
 obtain⟨b7,ht,hp,hx,p0,ca,cE,bN,hu,hs⟩:=h;exact eY
theorem H0:cm prog 59 58 (.agg #[.bool false,.int .i64 0,.slice none 0 0]) 3 40:=cm.mk' Tryz.underlying59 (by kernel_rfl) rfl ad
theorem kO{X V:World}{g:Nat}{t:TypeId}{cs:Array Value}(i:Nat)(vs:List Value)(aS:ao V g t cs)(hX:rX g V i vs=X):ao X g t (jm cs i vs)/\Fr (λb=>b=g) V X:=by
 subst hX;exact⟨lr vs i V cs aS,kN vs i V⟩
namespace Cv
theorem dd(h:p:=by
 go_upto_region 5 with(fail);generalize hV:World.drew (World.alloc _ _)=V;have bo:Ext w V:=hV▸(bu.1.alloc _).drew;have b5:ao V aP.heap.size 61 #[.int .i64 x.op,.int .i64 x.target,.bool x.du,.int .i64 eo,.int .i64 en,.string es,.slice EA em ec,.bool x.place.param,.int .i64 x.place.index,.slice QA qm qc,.slice dk j df,.slice KA dg kc]:=hV▸Mh;have m:ao V (w.heap.size+2) 61 #[.int .i64 0,.int .i64 0,.bool false,.int .i64 0,.int .i64 0,.string ⟨#[]⟩,.slice none 0 0,.bool false,.int .i64 0,.slice none 0 0,.slice none 0 0,.slice none 0 0]:=hV▸bu.2.aj ((Fr.refl _ aP).alloc _).drew;have dj:=b5.lt;have cc:=bA bo b5 m (ag.2.2.2.2.1.on bo);clear hV bo m a0 ak af cS cv bR cR H b0 cU cf ci ck bO b9 c0 c1 bH;obtain⟨a0,ak,af⟩:=b5.two;clear b5;refine eK (λ_=>False) [(0,3),(1,0),(3,3),(4,0),(6,3),(7,0),(2,1),(9,3),(5,1),(8,2),(10,2),(11,3),(12,2),(13,3),(14,2)] ?_;refine pf ?_;refine ph ?_;refine pf ?_;refine ph ?_;refine pf ?_;refine ph ?_;refine aI rfl (λK hK=>?_);go_simp;refine(zd x.expr _ eo en es EA em ec (D.on cc.2.2.2.expr (Fr.ext (Fr.refl _ V).drew))).mono ?_;rintro e aW ⟨z,aq,al,rfl,a6,bL⟩;have bZ:=ah (Fr.aF bL) a6;refine dP hK (bL) ?_;clear hK K;refine pf ?_;clear a6 bL;refine aI rfl (λK hK=>?_);go_simp;refine(qv x.place aW QA qm qc (D.on cc.2.2.2.place (Fr.ext bZ.1))).mono ?_;rintro e b4 ⟨ac,aH,ax,rfl,bj,bT⟩;have bY:=ah bT bj;refine dP hK (bT) ?_;clear hK K;clear bj bT;refine au rfl (λK hK=>?_);go_simp
 refine(qt x.ints (aB b2.1) b4 dk j df ((cc.2.2.2.ints.on (Fr.ext bZ.1)).on (Fr.ext bY.1))).mono ?_;rintro e cI ⟨L,a9,aX,rfl,bI,bl,dr⟩;obtain rfl:a9=j:=by have:=bl.1;simp at this;have:=b2.1;omega
 have bQ:=((cc.2.1.aj bZ.1).aj bY.1).aj dr;have P:=bA bI bl dr bQ;clear bI bl dr a0 ak af;obtain⟨a0,ak,af⟩:=bQ.two;clear bQ;refine dU hK ?_;clear hK K;refine au rfl (λK hK=>?_);go_simp;refine dU hK ?_;clear hK K;refine pf ?_;refine au rfl (λK hK=>?_);go_simp;refine dU hK ?_;clear hK K;refine pf ?_;refine au rfl (λK hK=>?_);go_simp;refine dU hK ?_;clear hK K;refine aC ?_;generalize hX:World.setCell _ _ _=X;have bg:Ext w cI:=((cc.1.trans bZ.1).trans bY.1).trans P.2.2.1;obtain⟨bS,J⟩:=kO 3 [.int .i64 eo,.int .i64 en,.string es,.slice z aq al,.bool x.place.param,.int .i64 x.place.index,.slice ac aH ax,.slice L a9 aX] P.2.2.2 hX;have aS:ao X aP.heap.size 61 #[.int .i64 x.op,.int .i64 x.target,.bool x.du,.int .i64 eo,.int .i64 en,.string es,.slice z aq al,.bool x.place.param,.int .i64 x.place.index,.slice ac aH ax,.slice L a9 aX,.slice KA dg kc]:=by
  simpa[jm] using bS
 clear bS;have bP:=bZ.1.size;have cF:=bY.1.size;have dm:=P.2.2.1.size;have cd:V.drew.heap.size=V.heap.size:=rfl;have dF:=J.size;have cq:D.rep X (λb=>aP.heap.size<b/\b<X.heap.size) (oS x.expr) [.int .i64 eo,.int .i64 en,.string es,.slice z aq al]:=
  D.aK (λb O=>(⟨by have:=O.1;omega,by have:=O.2;omega⟩:aP.heap.size<b/\b<X.heap.size)) _ _ (D.aP (λb O=>(J.block b (aB O.2) (aB O.1)).trans ((P.2.2.1.block b (aB O.2) λh=>h).trans (bY.1.block b O.2 λh=>h))) _ _ bZ.2)
 have ct:D.rep X (λb=>aP.heap.size<b/\b<X.heap.size) (ds x.place) [.bool x.place.param,.int .i64 x.place.index,.slice ac aH ax]:=
  D.aK (λb O=>(⟨by have:=O.1;omega,by have:=O.2;omega⟩:aP.heap.size<b/\b<X.heap.size)) _ _ (D.aP (λb O=>(J.block b (aB O.2) (aB O.1)).trans (P.2.2.1.block b O.2 λh=>h)) _ _ bY.2)
 have cr:Sl X (λb=>aP.heap.size<b/\b<X.heap.size) L a9 (x.ints.map bk):=
  (P.2.1.ak λb O=>J.block b O.2 (aB O.1)).mono λb O=>⟨by have:=O.1;omega,by have:=O.2;omega⟩
 have bz:Ext w X:=Fr.low (M:=λb=>b=aP.heap.size) (Fr.trans (Fr.mono bg λ_ h=>h.elim) J) λb O=>ad;have b3:=(((cc.2.2.1.aj bZ.1).aj bY.1).aj P.2.2.1).on J ad;have aR:=dI bz b3 cq ct cr P.1;have bC:=aS;clear hX bg J aS bP cF dm dF cd cq ct cr bz b3 a0 ak af;obtain⟨a0,ak,af⟩:=bC.two;go_upto_region 8 with(fail);generalize hX:World.setCell _ _ _=Y;obtain⟨bS,J⟩:=kO 11 [.slice none 0 0] bC hX;have bD:ao Y aP.heap.size 61 #[.int .i64 x.op,.int .i64 x.target,.bool x.du,.int .i64 eo,.int .i64 en,.string es,.slice z aq al,.bool x.place.param,.int .i64 x.place.index,.slice ac aH ax,.slice L a9 aX,.slice none 0 0]:=by
  simpa[jm] using bS
 have bx:Ext w Y:=Fr.low (M:=λb=>b=aP.heap.size) (Fr.trans (Fr.mono aR.1 λ_ h=>h.elim) J) λb O=>by have:=bu.1.size;omega
 have dh:=J.size;have bF:=bA bx (aR.2.1.on J (aB bu.2.lt)) J bD;have aG:=bu.2.lt;have cH:aP.heap.size<X.heap.size:=by have:=bC.lt;omega
 clear hX bS J bD bx bC a0 ak af;go_wp2_with(fail);go_loopw [51] (λcw wr=>∃(k:Nat) (I:Mk) (aD:Nat),cw=.int .i64 k/\k<=dg/\Ext w wr/\Fr (λb=>b=aP.heap.size) Y wr/\ao wr (w.heap.size+2) 61 #[.int .i64 0,.int .i64 0,.bool false,.int .i64 0,.int .i64 0,.string ⟨#[]⟩,.slice none 0 0,.bool false,.int .i64 0,.slice none 0 0,.slice none 0 0,.slice none 0 0]/\
   ao wr aP.heap.size 61 #[.int .i64 x.op,.int .i64 x.target,.bool x.du,.int .i64 eo,.int .i64 en,.string es,.slice z aq al,.bool x.place.param,.int .i64 x.place.index,.slice ac aH ax,.slice L a9 aX,.slice I k aD]/\Gr (λb=>Y.heap.size<=b) Y.heap.size 58 3 wr I k aD ((x.places.take k).map ds)) (λcw _=>dg - (intOf cw).toNat)
 case atStart=>exact⟨0,none,0,rfl,ad,bF.1,Mg,bF.2.1,bF.2.2.2,Gr.nil _ _ _ _ _⟩
 case round=>
  obtain⟨k,I,aD,rfl,aj,aF,bc,cB,aS,hG⟩:=hrel;have bW:=cX aF bc cB aS hG;have dL:=bc.size;by_cases ap:k<dg
  .obtain⟨b,o,y,bX,b6,zc,rfl,O,bb,b1,cn,cm,bM,cT⟩:=(ag.2.2.2.2.1.places.on (Fr.ext aF)).pv ap;have a4:b<wr.heap.size:=O;have cj:=aA bb bM cT;clear aF bc cB aS hG bb bM cT O;go_upto_region 11 with(fail);generalize hU:World.alloc _ _=U;have cl:=aZ hU;have cV:=aN hU;have c7:=cl.size;have bV:=bW.2.2.2.1.aj cl;have cz:=dI (bW.1.trans cl) (Fr.trans bW.2.1 (cl.mono λ_ h=>h.elim)) (bW.2.2.1.aj cl) bV (bW.2.2.2.2.aj cl) (dZ.2 ⟨bX,b6,zc,rfl,cj.2.1,cj.2.2.on (Fr.ext cl)⟩:(ds y).rep U (av U) [.bool y.param,.int .i64 y.index,.slice bX b6 zc]);obtain⟨d0,aK,aO⟩:=cV.two;obtain⟨a0,ak,af⟩:=bV.two;clear hU cl cV bV b1 cn cm a4;refine eK (λ_=>False) [(0,3),(1,0),(2,0),(3,1),(4,1),(5,2),(6,3),(7,2)] ?_;refine pf ?_
   iterate 2 refine ph ?_
   refine aI rfl (λK hK=>?_);go_simp;refine(qv y _ bX b6 zc (D.on cz.2.2.2.2.2 (Fr.ext (Fr.refl _ U).drew))).mono ?_;rintro e v1 ⟨cY,c5,c6,rfl,aa,ar⟩;have H1:=ah aa ar;refine dP hK (ar) ?_;clear hK K;have aL:Ext U v1:=Fr.aF ar;have r:=cz.2.2.2.2.1.aj aL;have cg:=aL.size;have az:∀b,(Value.slice I k aD).ownBlock=some b->b<U.heap.size:=λb O=>(cz.2.2.2.2.1.lt O).2;have hd:(ds y).rep v1 (ly (λb=>Y.heap.size<=b) v1 (.slice I k aD)) (#[.bool y.param,.int .i64 y.index,.slice cY c5 c6]:Array Value).toList:=
    D.aK (λb O=>⟨by have:=O.1;have:U.drew.heap.size=U.heap.size:=rfl;omega,O.2,λh=>by have:=az b h;have:=O.1;have:U.drew.heap.size=U.heap.size:=rfl;omega⟩) _ _ aa
   have a2:=ah r hd;clear aa ar r hd az;refine ry ?_;refine au rfl (λK hK=>?_);rw[if_pos (by rfl)];refine q8 H0 (.tmp 56) (.tmp 59) rfl a2.1 a2.2 rfl rfl rfl ad ad ad ?_;intro cD c3 v2 ce g2 cN cZ;have bm:∀b,(Value.slice I k aD).ownBlock=some b->Y.heap.size<=b:=λb O=>(a2.1.lt O).1;have bU:=(cz.2.2.2.1.aj aL).on g2 (λh=>by have:=bm _ h;omega);have cC:=(cz.2.2.1.aj aL).on g2 (λh=>by have:=bm _ h;omega);have a3:Ext w v2:=Fr.low (M:=λb=>(Value.slice I k aD).ownBlock=some b) (Fr.trans (Fr.mono (cz.1.trans aL) λ_ h=>h.elim) g2) λb O=>by have:=bm b O;omega
   have a5:Fr (λb=>b=aP.heap.size) Y v2:=(Fr.trans cz.2.1 (aL.mono λ_ h=>h.elim)).eU (g2.below ad λb O hm=>by have:=bm b hm;omega);have bZ:=cX a3 a5 cC bU ce;clear ce g2 cN cZ bm cC a3 a5 a0 ak af d0 aK aO;obtain⟨a0,ak,af⟩:=bU.two;refine dU hK ?_;clear hK K;refine pf ?_;refine au rfl (λK hK=>?_);go_simp;refine dU hK ?_;clear hK K;refine aC ?_;generalize hX:World.setCell v2 _ _=Z;obtain⟨bS,bJ⟩:=kO 11 [.slice cD (k+1) c3] bZ.2.2.2.1 hX;have bt:ao Z aP.heap.size 61 #[.int .i64 x.op,.int .i64 x.target,.bool x.du,.int .i64 eo,.int .i64 en,.string es,.slice z aq al,.bool x.place.param,.int .i64 x.place.index,.slice ac aH ax,.slice L a9 aX,.slice cD (k+1) c3]:=by
    simpa[jm] using bS
   have S:=cX (Fr.low (M:=λb=>b=aP.heap.size) (Fr.trans (Fr.mono bZ.1 λ_ h=>h.elim) bJ) (λb O=>ad):Ext w Z) (Fr.trans bZ.2.1 bJ) (bZ.2.2.1.on bJ ad) bt (bZ.2.2.2.2.cS bJ λb O _=>⟨ad,ad⟩);clear hX bJ bS bt a0 ak af bU;go_wp2;go_roundw
   case rel=>exact⟨k+1,cD,c3,by go_num,ad,S.1,S.2.1,S.2.2.1,S.2.2.2.1,by rw[aU cj.1,LJ];exact S.2.2.2.2⟩
   case measure=>exact aE
  .obtain rfl:k=dg:=ad;obtain⟨a0,ak,af⟩:=aS.two;obtain⟨bp,aM,aV⟩:=cB.two;clear aF bc cB aS hG;go_wp2_with(fail);generalize hX:World.setCell _ _ _=Z;obtain⟨bt,ba,bf⟩:=bs (w:=w) [.int .i64 x.op,.int .i64 x.target,.bool x.du,.int .i64 eo,.int .i64 en,.string es,.slice z aq al,.bool x.place.param,.int .i64 x.place.index,.slice ac aH ax,.slice L a9 aX,.slice I k aD] (by rfl) bW.2.2.1 bW.1 ad hX;have bh:=ah ba bf;clear hX ba bf a0 ak af bp aM aV;obtain⟨bp,aM,aV⟩:=bt.two;clear bt;refine Mf (v:=.tuple #[.agg #[.int .i64 x.op,.int .i64 x.target,.bool x.du,.int .i64 eo,.int .i64 en,.string es,.slice z aq al,.bool x.place.param,.int .i64 x.place.index,.slice ac aH ax,.slice L a9 aX,.slice I k aD],.bool true]) (by simp[results,Tryz.results39,go_sem,bp]) rfl ?_;have aY:=bW.2.2.2.2.cS bh.2 λb O _=>⟨ad,ad⟩
   rw[LK (aB b2.2)] at aY;have cT:=bh.2.size;have b8:∀b,(aP.heap.size<b/\b<X.heap.size)->Z.heap[b]?=X.heap[b]?:=λb O=>(bh.2.block b ad ad).trans ((bW.2.1.block b ad ad).trans (bF.2.2.1.block b O.2 ad));have eD:∀b,(aP.heap.size<b/\b<X.heap.size)->av Z b:=λb O=>by show b<Z.heap.size;omega
   exact⟨⟨eo,en,es,z,aq,al,ac,aH,ax,L,a9,aX,I,k,aD⟩,rfl,⟨D.aK eD _ _ (D.aP b8 _ _ aR.2.2.1),D.aK eD _ _ (D.aP b8 _ _ aR.2.2.2.1),(aR.2.2.2.2.1.ak b8).mono eD,aR.2.2.2.2.2,aY.sl (λb ap O=>ap) (λb ap O=>ap),aY.cap.1⟩,bh.1⟩
 ):p:=h
theorem Bs(h:p:=by
 have cA:=ab.lf;have c0:=ab.c0;have c1:=ab.c1;clear aL aT bq dT aQ T;go_upto_region 4 with(fail);refine eK (λ_=>False) [(0,3),(1,0),(2,3),(3,3),(4,3),(5,0),(6,3),(7,3),(8,0),(9,3),(10,3),(11,3),(12,0),(13,3),(14,0),(15,1),(16,2)] ?_;refine pf ?_;refine ph ?_
 iterate 3 refine pf ?_
 refine ph ?_
 iterate 2 refine pf ?_
 refine ph ?_
 iterate 3 refine pf ?_
 refine ph ?_;refine pf ?_;refine ph ?_;refine ry ?_;exact eM
 ):p:=h
theorem BN(h:p:=by
 obtain⟨eo,en,es,EA,em,ec,QA,qm,qc,dk,j,df,KA,dg,kc⟩:=v;have a1:x.ints.length=j:=by have:=bG.ints.1;simpa using this
 have a7:x.places.length=dg:=by have:=bG.places.1;simpa using this
 have cL:j<=200:=ad;have cW:dg<=200:=ad;dsimp only[UV.val,SV.val,IV.val] at cb ⊢;go_enter func39,ntmps39;go_upto_region 1 with(fail);generalize bd:World.alloc _ _=W;have aF:=l3 bd;have bQ:=kr bd;have be:=iC bd;have cB:=ks bd;have ag:=hj aF bQ be cB bG c9 cb;have Q:=ae (hT.on aF);have b2:=ah a1 a7;obtain⟨a8,am,aJ⟩:=be.two;clear bd aF bQ be cB hT hu hs b7 ht hp hx bG c9 cb a1 a7 cE bN;go_wp2_with(fail);refine(lD Q.o _ _ _).mono ?_;rintro e aP ⟨rfl,aL⟩;have ab:=ae (Q.on aL);have aT:Ext w aP:=ag.1.trans aL;have bu:=ah aT (ag.2.2.2.1.aj aL);clear a8 am aJ Q;obtain⟨a0,ak,af⟩:=(ag.2.1.aj aL).two;have T:=aT.size;have de:=bu.2.lt;have N:pb<aP.heap.size:=ad;have bv:R<aP.heap.size:=ad;have bH:=(aT.cell (j:=gW+f.proc.toNat*5+4) dT λh=>h).trans ag.2.2.2.2.2.1;have bq:∀j u,_->aP.cell? ⟨R,co+f.pc.toNat*12+j,none⟩=some u:=λj u bi=>(aT.cell (j:=co+f.pc.toNat*12+j) aQ λh=>h).trans (ag.2.2.2.2.2.2 j u bi);exact Br
 ):p:=h
theorem eZ(h:p:=by
 exact BM
 ):p:=h
end Cv
open Cv in
theorem kT(u:aw)(s:ai)(t:Int)(f:an)(cp:cM)(x:ay)(w:World)(p:UV)(q:SV)(h:HN u s t f cp x w p q) :
  Calls prog 39 #[.agg (p.val u),.agg (q.val s),.int .i64 t] w (GL w x):=by
 obtain⟨b7,ht,hp,hx,p0,ca,cE,bN,hu,hs⟩:=h;exact eY
end Go.Proofs.YtflecliffjbleaaGreat

/- Part 18 of the proof. No condition of its own. -/
import Derived.Test.YtnhhdaggkiomoaaGreatQ17
namespace Go.Proofs.YtnhhdaggkiomoaaGreat
open Go.RowKit Go.Proofs.Tryz
set_option maxRecDepth 1000000
set_option maxHeartbeats 25600000
set_option linter.unusedVariables false
variable{nl t:Int}{gn:Nat}{P:Nat→Prop}{GA:Ls}{p:Prop}{w:World}{s:aj}{f:al}{u:ay}{x:az}{pl:bR}{cq:cJ}
theorem ix(h:ef s t=some f):xz u s t pl=bG u s f pl:=by unfold xz;rw[h]
theorem rp(h:pl.param=true):bG u s f pl=(f.av.getD pl.index.toNat 0,0):=by unfold bG;rw[if_pos h]
theorem yg(h:pl.param=false)(J:(cS u s f pl).2≠0):bG u s f pl=(0,(cS u s f pl).2):=by unfold bG;rw[if_neg (by simp[h]),if_pos J]
theorem pF(h:pl.param=false)(J:(cS u s f pl).2=0):bG u s f pl=(eR u.af pl.index+(cS u s f pl).1,0):=by unfold bG;rw[if_neg (by simp[h]),if_neg ad]
theorem Dt{nk:Int}(hU:cZ u)(hF:cb u f)(ap:nk≤f.av.length)(hx:cU (bx u) nl nk pl)(h:pl.param=false)(J:(cS u s f pl).2=0):
  0≤eR u.af pl.index+(cS u s f pl).1∧eR u.af pl.index+(cS u s f pl).1≤5000:=by
 have ac:=(jt (s:=s) hU hF ap hx).2;rw[pF h J] at ac;have:=lR hU;have:=ac rfl;simp only at this;omega
theorem D6{S:Ls}{l:Nat}(hx:cU (bx u) nl f.av.length pl)(h:pl.param=true)(hl:Sl w (au w) S l (f.av.map D.i)):
  0≤pl.index∧pl.index<l∧∃b o,S=some ⟨b,o,none⟩∧b<w.heap.size∧w.cell? ⟨b,o+pl.index.toNat,none⟩=some (.int .i64 (f.av.getD pl.index.toNat 0)):=by
 rcases hx with⟨_,ac,av,_⟩|⟨ac,_⟩
 ·have hn:=hl.1;rw[KK] at hn;obtain⟨b,o,x,bw,O,hx,hc⟩:=hl.ints.int (k:=pl.index.toNat) ad;refine⟨ac,ad,b,o,bw,O,?_⟩;rw[List.getD_eq_getElem?_getD,hx];exact hc
 ·rw[h] at ac;cases ac
structure HY(u:ay)(s:aj)(t:Int)(f:al)(pl:bR)(N:Nat)(w:World)(p:UV)(q:SV)(QA:Ls)(qm qc:Nat):Prop where
 hU:cZ u
 hS:aX u N s
 sm:Small s
 ht:ef s t=some f
 hx:∃cq,u.procs[f.proc.toNat]?=some cq∧cU (bx u) cq.locals cq.av pl
 u:p.Ok w u
 s:q.Ok w s
 pl:(di pl).rep w (au w) [.bool pl.param,.int .i64 pl.index,.slice QA qm qc]
theorem cb.sR(hF:cb u f)(hp:u.procs[f.proc.toNat]?=some cq):(f.av.length:Int)=cq.av:=by
 obtain⟨p,h,_,_,av⟩:=hF.ex;rw[hp] at h;injection h with h;rw[h];exact av
namespace Cg
theorem An(h:p:=by
 clear k an o a3 bg a0 ai af a8 am aF d0 aL aM c2 c3;obtain⟨a0,ai,af⟩:=((ah.2.1.ai a4.1).ai a4.2).two;obtain⟨d0,aL,aM⟩:=((ah.2.2.2.1.ai a4.1).ai a4.2).two;refine dO hK ?_;clear hK K
 iterate 5 refine pf ?_
 refine aE ?_;by_cases bt:z=0
 ·have q5:(z != 0)=false:=by simpa using bt
  have a1:=bm.1 bt;have cC:=ae (bm.2.2 bt);subst bt;generalize aR:eR u.af pl.index=B at *;have b2:=ae aR;clear aR bm;go_wp2_with(fail);refine(Di MA mn mc u.af pl.index aT ((ah.2.2.2.2.1.on a4.1).on a4.2).at_.m.ou aQ.1.yW co).mono ?_;rintro e b6 ⟨rfl,ct⟩;rw[b2.o];have a9:=ae (((ah.1.trans a4.1).trans a4.2).trans (Fr.of ct));clear ct a0 ai af d0 aL aM;go_wp2
  go_ret2
  exact fX.mk' cC.o (Fr.ext a9.o)
 ·have q5:(z != 0)=true:=by simpa using bt
  have cC:=ae (bm.2.1 bt);clear bt bm;go_wp2_with(fail)
  go_ret2
  exact fX.mk' cC.o (Fr.ext ((ah.1.trans a4.1).trans a4.2))
 ):p:=h
theorem z4(h:p:=by
 refine(k3 aa.o _ _ _).mono ?_;rintro e aS ⟨rfl,aN⟩;have ab:=ae (aa.on aN);have bu:=ae aN;clear a0 ai af a8 am aF d0 aL aM;obtain⟨a0,ai,af⟩:=(ah.2.1.ai aN).two;obtain⟨a8,am,aF⟩:=(ah.2.2.1.ai aN).two;obtain⟨d0,aL,aM⟩:=(ah.2.2.2.1.ai aN).two;have cx:=ab.lf;have c2:=ab.c2;have c3:=ab.c3;clear aN aa
 cases j:pl.param with
 | true=>
  rw[j] at d0;obtain⟨f1,c9,lb,lo,rfl,bp,a2⟩:=D6 aQ.2.2.2.2.2 j ab.av;have ap:=rp (u:=u) (s:=s) (f:=f) j;generalize hV:f.av.getD pl.index.toNat 0=V at *;have aW:=ae ap;have q1:decide (pl.index<0)=false:=by simp;omega
  have cB:decide (pl.index≥l)=false:=by simp;omega
  clear ap hV;go_upto_region 5 with(fail);refine eK (fun _=>False) [(0,3),(1,0),(2,3),(3,3),(4,3),(5,0),(6,3),(7,3),(8,3),(9,0),(10,3),(11,3),(12,3)] ?_;refine pf ?_;refine ph ?_
  iterate 3 refine pf ?_
  refine ph ?_
  iterate 3 refine pf ?_
  refine ph ?_
  iterate 3 refine pf ?_
  refine aE ?_;go_upto_region 7 with(fail);refine eK (fun _=>False) [(0,3),(1,3),(2,3),(3,0),(4,3),(5,0),(6,3),(7,0),(8,3),(9,3)] ?_
  iterate 3 refine pf ?_
  refine bP (v:=?_) rfl (by rfl) (fun V hV=>?_) ?_;rotate_left
  ·obtain⟨hVc,hVf⟩:=Fr.jk hV
   (go_simp<;>with_reducible rfl)
  try simp only[PU]
  refine pf ?_;refine bP (v:=?_) rfl (by rfl) (fun V hV=>?_) ?_;rotate_left
  ·obtain⟨hVc,hVf⟩:=Fr.jk hV
   (go_simp<;>with_reducible rfl)
  try simp only[PU]
  refine pf ?_;refine bP (v:=?_) rfl (by rfl) (fun V hV=>?_) ?_;rotate_left
  ·obtain⟨hVc,hVf⟩:=Fr.jk hV
   (go_simp<;>with_reducible rfl)
  try simp only[PU]
  iterate 2 refine pf ?_
  refine aE ?_;go_wp2_with(fail)
  go_ret2
  exact fX.mk' aW.o (Fr.ext ((ah.1.trans bu.o).drew.drew))
 | false=>
  rw[j] at d0;go_upto_region 8 with(fail);refine eK (fun _=>False) [(0,0),(1,3),(2,0),(3,3),(4,0),(5,3),(6,3),(7,3),(8,0),(9,2),(10,3),(11,3),(12,3),(13,3),(14,3)] ?_;refine ph ?_;refine pf ?_;refine ph ?_;refine pf ?_;refine ph ?_
  iterate 3 refine pf ?_
  refine ph ?_;refine ax rfl (fun K hK=>?_);go_simp;have a3:Ext W aS.drew:=bu.drew;refine(Ho (u:=u) (s:=s) (f:=f) (pl:=pl) aQ.1 aQ.2.1 aQ.2.2.1 aQ.2.2.2.1 aQ.2.2.2.2.1 j (ah.2.2.2.2.1.on a3).at_.m (ah.2.2.2.2.2.1.on a3).at_.g (ab.on Lo.drew).ints (D.on ah.2.2.2.2.2.2 (Fr.ext a3))).mono ?_;rintro e aT ⟨rfl,bg⟩;have a4:=ag a3 (Fr.of (M:=fun _=>False) bg);exact Am
 ):p:=h
theorem AQ(h:p:=by
 have co:=hu.mc;simp only at co;have aQ:=cT hU hS hF hp hx r;dsimp only[UV.val,SV.val];go_enter func24,ntmps24;exact z3
 ):p:=h
theorem hv(h:p:=by
 exact AP
 ):p:=h
end Cg
open Cg in
theorem pX(u:ay)(s:aj)(t:Int)(f:al)(pl:bR)(N:Nat)(w:World)(p:UV)(q:SV)(QA:Ls)(qm qc:Nat)(h:HY u s t f pl N w p q QA qm qc) :
  Calls prog 24 #[.agg (p.val u),.agg (q.val s),.int .i64 t,.agg #[.bool pl.param,.int .i64 pl.index,.slice QA qm qc]] w (fX w (xz u s t pl)):=by
 obtain⟨hU,hS,a1,ht,⟨cq,hp,hx⟩,hu,hs,bK⟩:=h;exact hr
namespace Ch
theorem An(h:p:=by
 clear k an o bg a0 ai af a8 am aF d0 aL aM e0 a6 aP;obtain⟨a0,ai,af⟩:=((ah.2.1.ai a4.1).ai a4.2).two;obtain⟨d0,aL,aM⟩:=((ah.2.2.2.1.ai a4.1).ai a4.2).two;by_cases bt:z=0
 ·have q5:(z != 0)=false:=by simpa using bt
  have a1:=bm.1 bt;have cC:=ae (bm.2.2 bt);subst bt;generalize aR:eR u.af pl.index=B at *;have b2:=ae aR;clear aR bm;go_wp2_with(fail);refine(uo MA mn mc u.af pl.index aT ((ah.2.2.2.2.1.on a4.1).on a4.2).at_.m.ou aQ.1.yW).mono ?_;rintro e b6 ⟨rfl,ct⟩;rw[b2.o];have a9:=ae (((ah.1.trans a4.1).trans a4.2).trans (Fr.of ct));clear ct a0 ai af d0 aL aM;go_wp2
  go_ret2
  exact fX.mk' cC.o (Fr.ext a9.o)
 ·have q5:(z != 0)=true:=by simpa using bt
  have cC:=ae (bm.2.1 bt);clear bt bm;go_wp2_with(fail)
  go_ret2
  exact fX.mk' cC.o (Fr.ext ((ah.1.trans a4.1).trans a4.2))
 ):p:=h
theorem z4(h:p:=by
 refine(nz aa.o _ _ _).mono ?_;rintro e aS ⟨rfl,aN⟩;have ab:=ae (aa.on aN);have bu:=ae aN;clear a0 ai af a8 am aF d0 aL aM aN aa;obtain⟨a0,ai,af⟩:=(ah.2.1.ai bu.o).two;obtain⟨a8,am,aF⟩:=(ah.2.2.1.ai bu.o).two;obtain⟨d0,aL,aM⟩:=(ah.2.2.2.1.ai bu.o).two
 cases j:pl.param with
 | true=>
  rw[j] at d0;obtain⟨f1,c9,lb,lo,rfl,bp,a2⟩:=D6 aQ.2.2.2.2.2 j ab.av;have ap:=rp (u:=u) (s:=s) (f:=f) j;generalize hV:f.av.getD pl.index.toNat 0=V at *;have aW:=ae ap;clear ap hV;go_wp2_with(fail)
  go_ret2
  exact fX.mk' aW.o (Fr.ext ((ah.1.trans bu.o).alloc _))
 | false=>
  rw[j] at d0;go_upto_region 4 with(fail);generalize hV:World.alloc _ _=V;have bj:=aU hV;have m:=aG hV;have a3:Ext W V:=bu.trans bj;have cc:=ag a3 bj;clear hV a3 a0 ai af a8 am aF d0 aL aM;obtain⟨a0,ai,af⟩:=(ah.2.1.ai cc.1).two;obtain⟨a8,am,aF⟩:=(ah.2.2.1.ai cc.1).two;obtain⟨d0,aL,aM⟩:=(ah.2.2.2.1.ai cc.1).two;obtain⟨e0,a6,aP⟩:=m.two;rw[j] at d0;clear bj m;go_wp2_with(fail);refine(Hz (u:=u) (s:=s) (f:=f) (pl:=pl) aQ.1 aQ.2.1 aQ.2.2.1 aQ.2.2.2.1 aQ.2.2.2.2.1 j (ah.2.2.2.2.1.on cc.1).at_.m (ah.2.2.2.2.2.1.on cc.1).at_.g (ab.on cc.2).ints (D.on ah.2.2.2.2.2.2 (Fr.ext cc.1))).mono ?_;rintro e aT ⟨rfl,bg⟩;have a4:=ag cc.1 (Fr.of (M:=fun _=>False) bg);exact Am
 ):p:=h
theorem AQ(h:p:=by
 have aQ:=cT hU hS hF hp hx r;dsimp only[UV.val,SV.val];go_enter func25,ntmps25;exact z3
 ):p:=h
theorem hv(h:p:=by
 exact AP
 ):p:=h
end Ch
open Ch in
theorem qs(u:ay)(s:aj)(t:Int)(f:al)(pl:bR)(N:Nat)(w:World)(p:UV)(q:SV)(QA:Ls)(qm qc:Nat)(h:HY u s t f pl N w p q QA qm qc) :
  Calls prog 25 #[.agg (p.val u),.agg (q.val s),.int .i64 t,.agg #[.bool pl.param,.int .i64 pl.index,.slice QA qm qc]] w (fX w (xz u s t pl)):=by
 obtain⟨hU,hS,a1,ht,⟨cq,hp,hx⟩,hu,hs,bK⟩:=h;exact hr
structure IV where
 eo:Int
 en:Int
 es:ByteArray
 EA:Option Addr
 em:Nat
 ec:Nat
 QA:Option Addr
 qm:Nat
 qc:Nat
 IA:Option Addr
 i:Nat
 ic:Nat
 KA:Option Addr
 k:Nat
 kc:Nat
abbrev IV.val(v:IV)(x:az):Array Value:=#[.int .i64 x.op,.int .i64 x.target,.bool x.dg,.int .i64 v.eo,.int .i64 v.en,.string v.es,.slice v.EA v.em v.ec,.bool x.place.param,.int .i64 x.place.index,.slice v.QA v.qm v.qc,.slice v.IA v.i v.ic,.slice v.KA v.k v.kc]
structure IV.Ok(v:IV)(w:World)(x:az):Prop where
 expr:(oq x.expr).rep w (au w) [.int .i64 v.eo,.int .i64 v.en,.string v.es,.slice v.EA v.em v.ec]
 place:(di x.place).rep w (au w) [.bool x.place.param,.int .i64 x.place.index,.slice v.QA v.qm v.qc]
 ints:Sl w (au w) v.IA v.i (x.ints.map bk)
 Hl:v.i≤v.ic
 places:Sl w (au w) v.KA v.k (x.places.map di)
 Hn:v.k≤v.kc
theorem IV.Ok.on{v:IV}{w ab:World}{x:az}(h:v.Ok w x)(he:Ext w ab):v.Ok ab x:=
 ⟨D.on h.expr (Fr.ext he),D.on h.place (Fr.ext he),h.ints.on (Fr.ext he),h.Hl,h.places.on (Fr.ext he),h.Hn⟩
def FV(w:World)(x:az)(e:Ending)(ab:World):Prop:=∃v:IV,e=.returned (.tuple #[.agg (v.val x),.bool true])∧v.Ok ab x∧Ext w ab
theorem tQ(h:ef s t=some f)(hp:u.procs[f.proc.toNat]?=some cq)(hx:cq.code[f.pc.toNat]?=some x):dW u s t=some x:=by
 unfold dW;rw[h];simp only[Option.bind_some,hp,hx]
structure H3(u:ay)(s:aj)(t:Int)(f:al)(cq:cJ)(x:az)(w:World)(p:UV)(q:SV):Prop where
 sm:Small s
 ht:ef s t=some f
 hp:u.procs[f.proc.toNat]?=some cq
 hx:cq.code[f.pc.toNat]?=some x
 p0:0≤f.proc
 c0:0≤f.pc
 il:x.ints.length≤200
 kl:x.places.length≤200
 u:p.Ok w u
 s:q.Ok w s
theorem hq.code{MA PA:Ls}{mn pn:Nat}(h:hq w (au w) u GA gn MA mn PA pn)(hp:u.procs[f.proc.toNat]?=some cq)(hx:cq.code[f.pc.toNat]?=some x)(p0:0≤f.proc)(c0:0≤f.pc):
  ∃b o N co n c,∃v:IV,PA=some ⟨b,o,none⟩∧b<w.heap.size∧f.proc<pn∧w.cell? ⟨b,o+f.proc.toNat*5+4,none⟩=some (.slice (some ⟨N,co,none⟩) n c)∧N<w.heap.size∧f.pc<n∧v.Ok w x∧∀j u,(v.val x)[j]?=some u→w.cell? ⟨N,co+f.pc.toNat*12+j,none⟩=some u:=by
 have ac:=(List.getElem?_eq_some_iff.1 hp).1;have av:=(List.getElem?_eq_some_iff.1 hx).1;have bk:=h.p.1;rw[KK] at bk;obtain⟨b,o,dD,bx,n,c,rfl,O,cM,_,_,_,_,hc,U,hs⟩:=h.proc (k:=f.proc.toNat) ad;rw[hp] at cM;injection cM with cM;subst cM;have b9:=hs.1;rw[KK] at b9;obtain⟨N,co,d,cs,eo,en,es,EA,em,ec,QA,qm,qc,IA,i,ic,KA,m,mc,rfl,P,g,an,bi⟩:=hs.DN (k:=f.pc.toNat) ad;rw[hx] at g;injection g with g;subst g;refine⟨b,o,N,co,n,c,⟨eo,en,es,EA,em,ec,QA,qm,qc,IA,i,ic,KA,m,mc⟩,rfl,O,ad,hc,P,ad,⟨an.expr,an.place,an.ints,an.Hl,an.places,an.Hn⟩,fun j u hu=>bi j u ?_⟩;rw[an.cells];simpa using hu
namespace Ci
theorem AE(h:p:=by
 clear hV bj m a3 bb z bp eN P T;go_upto_region 4 with(fail);refine eK (fun _=>False) [(0,3),(1,0),(2,3),(3,0),(4,3),(5,3),(6,0),(7,3),(8,0),(9,3),(10,0),(11,2),(12,3)] ?_;refine pf ?_;refine ph ?_;refine pf ?_;refine ph ?_
 iterate 2 refine pf ?_
 refine ph ?_;refine pf ?_;refine ph ?_;refine pf ?_;refine ph ?_;refine ax rfl (fun K hK=>?_);go_simp;refine dO hK ?_;clear hK K;refine pf ?_;refine aE ?_;generalize hX:World.setCell _ _ _=X;obtain⟨bo,br,cg⟩:=bA (w:=w) [.int .i64 x.op,.int .i64 x.target,.bool x.dg,.int .i64 eo,.int .i64 en,.string es,.slice EA em ec,.bool x.place.param,.int .i64 x.place.index,.slice QA qm qc,.slice dh j db,.slice KA k kc] (by rfl) cc.2.1 cc.1 ad hX;have aQ:=ae br;clear hX br cg a0 ai af d0 aL aM bl aA aO cK cv bP cU H b2 cO b0 b3 b4 bN bX cH;obtain⟨bl,aA,aO⟩:=bo.two;clear bo;go_wp2_with(fail);refine Ln (v:=.tuple #[.agg #[.int .i64 x.op,.int .i64 x.target,.bool x.dg,.int .i64 eo,.int .i64 en,.string es,.slice EA em ec,.bool x.place.param,.int .i64 x.place.index,.slice QA qm qc,.slice dh j db,.slice KA k kc],.bool true]) (by simp[results,Tryz.results22,go_sem,bl]) rfl ?_;exact⟨⟨eo,en,es,EA,em,ec,QA,qm,qc,dh,j,db,KA,k,kc⟩,rfl,ah.2.2.2.2.1.on aQ.drew,aQ.drew⟩
 ):p:=h
theorem A0(h:p:=by
 obtain⟨eo,en,es,EA,em,ec,QA,qm,qc,dh,j,db,KA,k,kc⟩:=v;dsimp only[UV.val,SV.val,IV.val] at cm ⊢;go_enter func22,ntmps22;go_upto_region 1 with(fail);generalize ba:World.alloc _ _=W;have aw:=kq ba;have b7:=jo ba;have ce:=g5 ba;have cA:=jq ba;have ah:=hR aw b7 ce cA bM c4 cm;have aa:=ae (hT.on aw);obtain⟨a8,am,aF⟩:=ce.two;clear ba aw b7 ce cA hT hu hs a1 ht hp hx bM c4 cm;go_wp2_with(fail);refine(nz aa.o _ _ _).mono ?_;rintro e aS ⟨rfl,aN⟩;have bu:=ae aN;clear a8 am aF aN aa;go_upto_region 2 with(fail);generalize hV:World.alloc _ _=V;have bj:=aU hV;have m:=aG hV;have a3:Ext W V:=bu.trans bj;have bb:Ext w V:=ah.1.trans a3;have z:=ah.2.2.2.1.ai a3;have cc:=bH bb z a3 bj;obtain⟨a0,ai,af⟩:=(ah.2.1.ai a3).two;obtain⟨d0,aL,aM⟩:=m.two;obtain⟨bl,aA,aO⟩:=z.two;have T:=bb.size;have bQ:pb<V.heap.size:=ad;have bK:N<V.heap.size:=ad;have cH:=(bb.cell (j:=fu+f.proc.toNat*5+4) eN fun h=>h).trans ah.2.2.2.2.2.1;have bp:∀j u,_→V.cell? ⟨N,co+f.pc.toNat*12+j,none⟩=some u:=fun j u bi=>(bb.cell (j:=co+f.pc.toNat*12+j) P fun h=>h).trans (ah.2.2.2.2.2.2 j u bi);exact AD
 ):p:=h
theorem hv(h:p:=by
 exact AZ
 ):p:=h
end Ci
open Ci in
theorem ux(u:ay)(s:aj)(t:Int)(f:al)(cq:cJ)(x:az)(w:World)(p:UV)(q:SV)(h:H3 u s t f cq x w p q) :
  Calls prog 22 #[.agg (p.val u),.agg (q.val s),.int .i64 t] w (FV w x):=by
 obtain⟨a1,ht,hp,hx,p0,bY,cD,bc,hu,hs⟩:=h;exact hr
theorem Ha:ch prog 57 56 (.agg #[.bool false,.int .i64 0,.slice none 0 0]) 3 40:=ch.mk' Tryz.underlying57 (by kernel_rfl) rfl ad
theorem ke{X V:World}{g:Nat}{t:TypeId}{cs:Array Value}(i:Nat)(vs:List Value)(aR:aq V g t cs)(hX:rA g V i vs=X):aq X g t (iZ cs i vs)∧Fr (fun b=>b=g) V X:=by
 subst hX;exact⟨kX vs i V cs aR,mA vs i V⟩
namespace Cj
theorem sk(h:p:=by
 refine pf ?_;refine ax rfl (fun K hK=>?_);go_simp;refine dO hK ?_;clear hK K;refine aE ?_;generalize hX:World.setCell _ _ _=X;have bg:Ext w cN:=((cc.1.trans bG.1).trans bT.1).trans b8.2.2.1;obtain⟨cy,J⟩:=ke 3 [.int .i64 eo,.int .i64 en,.string es,.slice m av an,.bool x.place.param,.int .i64 x.place.index,.slice ac aP aI,.slice R a6 a4] b8.2.2.2 hX;have aR:aq X aS.heap.size 59 #[.int .i64 x.op,.int .i64 x.target,.bool x.dg,.int .i64 eo,.int .i64 en,.string es,.slice m av an,.bool x.place.param,.int .i64 x.place.index,.slice ac aP aI,.slice R a6 a4,.slice KA dk kc]:=by
  simpa[iZ] using cy
 clear cy;have bO:=bG.1.size;have cP:=bT.1.size;have dx:=b8.2.2.1.size;have bZ:V.drew.heap.size=V.heap.size:=rfl;have dM:=J.size;have b9:D.rep X (fun b=>aS.heap.size<b∧b<X.heap.size) (oq x.expr) [.int .i64 eo,.int .i64 en,.string es,.slice m av an]:=
  D.aL (fun b O=>(⟨by have:=O.1;omega,by have:=O.2;omega⟩:aS.heap.size<b∧b<X.heap.size)) _ _ (D.aS (fun b O=>(J.block b (aD O.2) (aD O.1)).trans ((b8.2.2.1.block b (aD O.2) fun h=>h).trans (bT.1.block b O.2 fun h=>h))) _ _ bG.2)
 have ch:D.rep X (fun b=>aS.heap.size<b∧b<X.heap.size) (di x.place) [.bool x.place.param,.int .i64 x.place.index,.slice ac aP aI]:=
  D.aL (fun b O=>(⟨by have:=O.1;omega,by have:=O.2;omega⟩:aS.heap.size<b∧b<X.heap.size)) _ _ (D.aS (fun b O=>(J.block b (aD O.2) (aD O.1)).trans (b8.2.2.1.block b O.2 fun h=>h)) _ _ bT.2)
 have cb:Sl X (fun b=>aS.heap.size<b∧b<X.heap.size) R a6 (x.ints.map bk):=
  (b8.2.1.ak fun b O=>J.block b O.2 (aD O.1)).mono fun b O=>⟨by have:=O.1;omega,by have:=O.2;omega⟩
 have br:Ext w X:=Fr.low (M:=fun b=>b=aS.heap.size) (Fr.trans (Fr.mono bg fun _ h=>h.elim) J) fun b O=>ad;have bq:=(((cc.2.2.1.ai bG.1).ai bT.1).ai b8.2.2.1).on J ad;have aQ:=cT br bq b9 ch cb b8.1;have bo:=aR;clear hX bg J aR bO cP dx dM bZ b9 ch cb br bq a0 ai af;obtain⟨a0,ai,af⟩:=bo.two;go_upto_region 8 with(fail);generalize hX:World.setCell _ _ _=Y;obtain⟨cy,J⟩:=ke 11 [.slice none 0 0] bo hX;have bI:aq Y aS.heap.size 59 #[.int .i64 x.op,.int .i64 x.target,.bool x.dg,.int .i64 eo,.int .i64 en,.string es,.slice m av an,.bool x.place.param,.int .i64 x.place.index,.slice ac aP aI,.slice R a6 a4,.slice none 0 0]:=by
  simpa[iZ] using cy
 have bE:Ext w Y:=Fr.low (M:=fun b=>b=aS.heap.size) (Fr.trans (Fr.mono aQ.1 fun _ h=>h.elim) J) fun b O=>by have:=bu.1.size;omega
 have cZ:=J.size;have bC:=bH bE (aQ.2.1.on J (aD bu.2.lt)) J bI;have ao:=bu.2.lt;have cf:aS.heap.size<X.heap.size:=by have:=bo.lt;omega
 clear hX cy J bI bE bo a0 ai af;go_wp2_with(fail);go_loopw [51] (fun cu wr=>∃(k:Nat) (I:Ls) (aK:Nat),cu=.int .i64 k∧k≤dk∧Ext w wr∧Fr (fun b=>b=aS.heap.size) Y wr∧aq wr (w.heap.size+2) 59 #[.int .i64 0,.int .i64 0,.bool false,.int .i64 0,.int .i64 0,.string ⟨#[]⟩,.slice none 0 0,.bool false,.int .i64 0,.slice none 0 0,.slice none 0 0,.slice none 0 0]∧
   aq wr aS.heap.size 59 #[.int .i64 x.op,.int .i64 x.target,.bool x.dg,.int .i64 eo,.int .i64 en,.string es,.slice m av an,.bool x.place.param,.int .i64 x.place.index,.slice ac aP aI,.slice R a6 a4,.slice I k aK]∧Gr (fun b=>Y.heap.size≤b) Y.heap.size 56 3 wr I k aK ((x.places.take k).map di)) (fun cu _=>dk - (intOf cu).toNat)
 case atStart=>exact⟨0,none,0,rfl,ad,bC.1,Lo,bC.2.1,bC.2.2.2,Gr.nil _ _ _ _ _⟩
 case round=>
  obtain⟨k,I,aK,rfl,ap,aw,bf,cA,aR,hG⟩:=hrel;have bR:=cI aw bf cA aR hG;have e5:=bf.size;by_cases ak:k<dk
  ·obtain⟨b,o,y,bU,cQ,zc,rfl,O,bb,cE,cw,cG,bm,cR⟩:=(ah.2.2.2.2.1.places.on (Fr.ext aw)).oQ ak;have aX:b<wr.heap.size:=O;have ck:=aB bb bm cR;clear aw bf cA aR hG bb bm cR O;go_upto_region 11 with(fail);generalize hU:World.alloc _ _=U;have cl:=aU hU;have cX:=aG hU;have cV:=cl.size;have bs:=bR.2.2.2.1.ai cl;have cz:=cT (bR.1.trans cl) (Fr.trans bR.2.1 (cl.mono fun _ h=>h.elim)) (bR.2.2.1.ai cl) bs (bR.2.2.2.2.ai cl) (dT.2 ⟨bU,cQ,zc,rfl,ck.2.1,ck.2.2.on (Fr.ext cl)⟩:(di y).rep U (au U) [.bool y.param,.int .i64 y.index,.slice bU cQ zc]);obtain⟨d0,aL,aM⟩:=cX.two;obtain⟨a0,ai,af⟩:=bs.two;clear hU cl cX bs cE cw cG aX;refine eK (fun _=>False) [(0,3),(1,0),(2,0),(3,1),(4,1),(5,2),(6,3),(7,2)] ?_;refine pf ?_
   iterate 2 refine ph ?_
   refine aJ rfl (fun K hK=>?_);go_simp;refine(p1 y _ bU cQ zc (D.on cz.2.2.2.2.2 (Fr.ext (Fr.refl _ U).drew))).mono ?_;rintro e v1 ⟨da,c8,dc,rfl,Q,ar⟩;have H1:=ag Q ar;refine dz hK (ar) ?_;clear hK K;have aN:Ext U v1:=Fr.aF ar;have cg:=cz.2.2.2.2.1.ai aN;have cn:=aN.size;have aC:∀b,(Value.slice I k aK).ownBlock=some b→b<U.heap.size:=fun b O=>(cz.2.2.2.2.1.lt O).2;have hd:(di y).rep v1 (lv (fun b=>Y.heap.size≤b) v1 (.slice I k aK)) (#[.bool y.param,.int .i64 y.index,.slice da c8 dc]:Array Value).toList:=
    D.aL (fun b O=>⟨by have:=O.1;have:U.drew.heap.size=U.heap.size:=rfl;omega,O.2,fun h=>by have:=aC b h;have:=O.1;have:U.drew.heap.size=U.heap.size:=rfl;omega⟩) _ _ Q
   have a5:=ag cg hd;clear Q ar cg hd aC;refine q0 ?_;refine ax rfl (fun K hK=>?_);rw[if_pos (by rfl)];refine qJ Ha (.tmp 56) (.tmp 59) rfl a5.1 a5.2 rfl rfl rfl ad ad ad ?_;intro cC c3 v2 cd g2 cS c9;have bv:∀b,(Value.slice I k aK).ownBlock=some b→Y.heap.size≤b:=fun b O=>(a5.1.lt O).1;have bF:=(cz.2.2.2.1.ai aN).on g2 (fun h=>by have:=bv _ h;omega);have cF:=(cz.2.2.1.ai aN).on g2 (fun h=>by have:=bv _ h;omega);have a7:Ext w v2:=Fr.low (M:=fun b=>(Value.slice I k aK).ownBlock=some b) (Fr.trans (Fr.mono (cz.1.trans aN) fun _ h=>h.elim) g2) fun b O=>by have:=bv b O;omega
   have aY:Fr (fun b=>b=aS.heap.size) Y v2:=(Fr.trans cz.2.1 (aN.mono fun _ h=>h.elim)).eN (g2.below ad fun b O hm=>by have:=bv b hm;omega);have bG:=cI a7 aY cF bF cd;clear cd g2 cS c9 bv cF a7 aY a0 ai af d0 aL aM;obtain⟨a0,ai,af⟩:=bF.two;refine dO hK ?_;clear hK K;refine pf ?_;refine ax rfl (fun K hK=>?_);go_simp;refine dO hK ?_;clear hK K;refine aE ?_;generalize hX:World.setCell v2 _ _=Z;obtain⟨cy,bz⟩:=ke 11 [.slice cC (k+1) c3] bG.2.2.2.1 hX;have bh:aq Z aS.heap.size 59 #[.int .i64 x.op,.int .i64 x.target,.bool x.dg,.int .i64 eo,.int .i64 en,.string es,.slice m av an,.bool x.place.param,.int .i64 x.place.index,.slice ac aP aI,.slice R a6 a4,.slice cC (k+1) c3]:=by
    simpa[iZ] using cy
   have r:=cI (Fr.low (M:=fun b=>b=aS.heap.size) (Fr.trans (Fr.mono bG.1 fun _ h=>h.elim) bz) (fun b O=>ad):Ext w Z) (Fr.trans bG.2.1 bz) (bG.2.2.1.on bz ad) bh (bG.2.2.2.2.c4 bz fun b O _=>⟨ad,ad⟩);clear hX bz cy bh a0 ai af bF;go_wp2;go_roundw
   case rel=>exact⟨k+1,cC,c3,by go_num,ad,r.1,r.2.1,r.2.2.1,r.2.2.2.1,by rw[aZ ck.1,KN];exact r.2.2.2.2⟩
   case measure=>exact aH
  ·obtain rfl:k=dk:=ad;obtain⟨a0,ai,af⟩:=aR.two;obtain⟨bl,aA,aO⟩:=cA.two;clear aw bf cA aR hG;go_wp2_with(fail);generalize hX:World.setCell _ _ _=Z;obtain⟨bh,a9,be⟩:=bA (w:=w) [.int .i64 x.op,.int .i64 x.target,.bool x.dg,.int .i64 eo,.int .i64 en,.string es,.slice m av an,.bool x.place.param,.int .i64 x.place.index,.slice ac aP aI,.slice R a6 a4,.slice I k aK] (by rfl) bR.2.2.1 bR.1 ad hX;have bd:=ag a9 be;clear hX a9 be a0 ai af bl aA aO;obtain⟨bl,aA,aO⟩:=bh.two;clear bh;refine Ln (v:=.tuple #[.agg #[.int .i64 x.op,.int .i64 x.target,.bool x.dg,.int .i64 eo,.int .i64 en,.string es,.slice m av an,.bool x.place.param,.int .i64 x.place.index,.slice ac aP aI,.slice R a6 a4,.slice I k aK],.bool true]) (by simp[results,Tryz.results21,go_sem,bl]) rfl ?_;have a2:=bR.2.2.2.2.c4 bd.2 fun b O _=>⟨ad,ad⟩
   rw[KO (aD ca.2)] at a2;have cR:=bd.2.size;have cr:∀b,(aS.heap.size<b∧b<X.heap.size)→Z.heap[b]?=X.heap[b]?:=fun b O=>(bd.2.block b ad ad).trans ((bR.2.1.block b ad ad).trans (bC.2.2.1.block b O.2 ad));have eF:∀b,(aS.heap.size<b∧b<X.heap.size)→au Z b:=fun b O=>by show b<Z.heap.size;omega
   exact⟨⟨eo,en,es,m,av,an,ac,aP,aI,R,a6,a4,I,k,aK⟩,rfl,⟨D.aL eF _ _ (D.aS cr _ _ aQ.2.2.1),D.aL eF _ _ (D.aS cr _ _ aQ.2.2.2.1),(aQ.2.2.2.2.1.ak cr).mono eF,aQ.2.2.2.2.2,a2.sl (fun b ak O=>ak) (fun b ak O=>ak),a2.cap.1⟩,bd.1⟩
 ):p:=h
theorem dC(h:p:=by
 go_upto_region 5 with(fail);generalize hV:World.drew (World.alloc _ _)=V;have bj:Ext w V:=hV▸(bu.1.alloc _).drew;have b5:aq V aS.heap.size 59 #[.int .i64 x.op,.int .i64 x.target,.bool x.dg,.int .i64 eo,.int .i64 en,.string es,.slice EA em ec,.bool x.place.param,.int .i64 x.place.index,.slice QA qm qc,.slice dh j db,.slice KA dk kc]:=hV▸Lp;have z:aq V (w.heap.size+2) 59 #[.int .i64 0,.int .i64 0,.bool false,.int .i64 0,.int .i64 0,.string ⟨#[]⟩,.slice none 0 0,.bool false,.int .i64 0,.slice none 0 0,.slice none 0 0,.slice none 0 0]:=hV▸bu.2.ai ((Fr.refl _ aS).alloc _).drew;have dm:=b5.lt;have cc:=bH bj b5 z (ah.2.2.2.2.1.on bj);clear hV bj z a0 ai af cK cv bP cU H b2 cO b0 b3 b4 bN bX c0 c1 cH;obtain⟨a0,ai,af⟩:=b5.two;clear b5;refine eK (fun _=>False) [(0,3),(1,0),(3,3),(4,0),(6,3),(7,0),(2,1),(9,3),(5,1),(8,2),(10,2),(11,3),(12,2),(13,3),(14,2)] ?_;refine pf ?_;refine ph ?_;refine pf ?_;refine ph ?_;refine pf ?_;refine ph ?_;refine aJ rfl (fun K hK=>?_);go_simp;refine(yx x.expr _ eo en es EA em ec (D.on cc.2.2.2.expr (Fr.ext (Fr.refl _ V).drew))).mono ?_;rintro e aT ⟨m,av,an,rfl,L,bw⟩;have bG:=ag (Fr.aF bw) L;refine dz hK (bw) ?_;clear hK K;refine pf ?_;clear L bw;refine aJ rfl (fun K hK=>?_);go_simp;refine(p1 x.place aT QA qm qc (D.on cc.2.2.2.place (Fr.ext bG.1))).mono ?_;rintro e b6 ⟨ac,aP,aI,rfl,bt,bV⟩;have bT:=ag bV bt;refine dz hK (bV) ?_;clear hK K;clear bt bV;refine ax rfl (fun K hK=>?_);go_simp
 refine(pY x.ints (aD ca.1) b6 dh j db ((cc.2.2.2.ints.on (Fr.ext bG.1)).on (Fr.ext bT.1))).mono ?_;rintro e cN ⟨R,a6,a4,rfl,aW,bx,du⟩;obtain rfl:a6=j:=by have:=bx.1;simp at this;have:=ca.1;omega
 have b7:=((cc.2.1.ai bG.1).ai bT.1).ai du;have b8:=bH aW bx du b7;clear aW bx du a0 ai af;obtain⟨a0,ai,af⟩:=b7.two;clear b7;refine dO hK ?_;clear hK K;exact sj
 ):p:=h
theorem AE(h:p:=by
 have cx:=ab.lf;have c0:=ab.c0;have c1:=ab.c1;clear aN a3 bp eN P T;go_upto_region 4 with(fail);refine eK (fun _=>False) [(0,3),(1,0),(2,3),(3,3),(4,3),(5,0),(6,3),(7,3),(8,0),(9,3),(10,3),(11,3),(12,0),(13,3),(14,0),(15,1),(16,2)] ?_;refine pf ?_;refine ph ?_
 iterate 3 refine pf ?_
 refine ph ?_
 iterate 2 refine pf ?_
 refine ph ?_
 iterate 3 refine pf ?_
 refine ph ?_;refine pf ?_;refine ph ?_;refine q0 ?_;exact eP
 ):p:=h
theorem A0(h:p:=by
 obtain⟨eo,en,es,EA,em,ec,QA,qm,qc,dh,j,db,KA,dk,kc⟩:=v;have aV:x.ints.length=j:=by have:=bM.ints.1;simpa using this
 have cp:x.places.length=dk:=by have:=bM.places.1;simpa using this
 have cB:j≤200:=ad;have cL:dk≤200:=ad;dsimp only[UV.val,SV.val,IV.val] at cm ⊢;go_enter func21,ntmps21;go_upto_region 1 with(fail);generalize ba:World.alloc _ _=W;have aw:=kq ba;have b7:=jo ba;have ce:=g5 ba;have cA:=jq ba;have ah:=hR aw b7 ce cA bM c4 cm;have aa:=ae (hT.on aw);have ca:=ag aV cp;obtain⟨a8,am,aF⟩:=ce.two;clear ba aw b7 ce cA hT hu hs a1 ht hp hx bM c4 cm aV cp cD bc;go_wp2_with(fail);refine(k3 aa.o _ _ _).mono ?_;rintro e aS ⟨rfl,aN⟩;have ab:=ae (aa.on aN);have a3:Ext w aS:=ah.1.trans aN;have bu:=ag a3 (ah.2.2.2.1.ai aN);clear a8 am aF aa;obtain⟨a0,ai,af⟩:=(ah.2.1.ai aN).two;have T:=a3.size;have dj:=bu.2.lt;have bQ:pb<aS.heap.size:=ad;have bK:N<aS.heap.size:=ad;have cH:=(a3.cell (j:=fu+f.proc.toNat*5+4) eN fun h=>h).trans ah.2.2.2.2.2.1;have bp:∀j u,_→aS.cell? ⟨N,co+f.pc.toNat*12+j,none⟩=some u:=fun j u bi=>(a3.cell (j:=co+f.pc.toNat*12+j) P fun h=>h).trans (ah.2.2.2.2.2.2 j u bi);exact AD
 ):p:=h
theorem hv(h:p:=by
 exact AZ
 ):p:=h
end Cj
open Cj in
theorem tV(u:ay)(s:aj)(t:Int)(f:al)(cq:cJ)(x:az)(w:World)(p:UV)(q:SV)(h:H3 u s t f cq x w p q) :
  Calls prog 21 #[.agg (p.val u),.agg (q.val s),.int .i64 t] w (FV w x):=by
 obtain⟨a1,ht,hp,hx,p0,bY,cD,bc,hu,hs⟩:=h;exact hr
abbrev tp:Array Value:=#[.int .i64 0,.int .i64 0,.bool false,.int .i64 0,.int .i64 0,.string ⟨#[]⟩,.slice none 0 0,.bool false,.int .i64 0,.slice none 0 0,.slice none 0 0,.slice none 0 0]
structure SV.Is(q:SV)(w:World)(P:Nat→Prop)(s:aj):Prop where
 at_:lE w P s q.GA q.gn q.TA q.tn q.HA q.hn
 gc:q.gn≤q.gc
 tc:q.tn≤q.tc
 hc:q.hn≤q.hc
def cG(P:Nat→Prop)(w:World)(s:aj)(b:Bool)(e:Ending)(ab:World):Prop:=∃q:SV,e=.returned (.tuple #[.agg (q.val s),.bool b])∧q.Is ab (fun k=>P k∨(w.heap.size≤k∧k<ab.heap.size)) s∧Ext w ab
abbrev mf:Nat→Prop:=fun _=>False
theorem SV.Is.ok{q:SV}(h:q.Is w P s)(aZ:∀b,P b→b<w.heap.size):q.Ok w s:=⟨h.at_.mono aZ,h.gc,h.tc,h.hc⟩
theorem SV.Is.mono{q:SV}{w:World}{P c5:Nat→Prop}{s:aj}(h:q.Is w P s)(aZ:∀b,P b→c5 b):q.Is w c5 s:=⟨h.at_.mono aZ,h.gc,h.tc,h.hc⟩
theorem SV.Is.ak{q:SV}{w ab:World}{P:Nat→Prop}{s:aj}(h:q.Is w P s)(ap:∀b,P b→ab.heap[b]?=w.heap[b]?):q.Is ab P s:=⟨⟨h.at_.g.ak ap,h.at_.t.ak ap,h.at_.h.ak ap⟩,h.gc,h.tc,h.hc⟩
theorem qO.sv{TA HA:Ls}{gc tn tc hn hc:Nat}{xs:List Value}{F1 F2 bQ cb:List Nat}(h:qO w s GA gn gc TA tn tc HA hn hc xs F1 F2 bQ cb)(hl:∀b∈F1++(F2++(bQ++cb)),P b):(⟨GA,gn,gc,TA,tn,tc,HA,hn,hc⟩:SV).Is w P s:=
 ⟨h.at_ hl,h.g.cap,h.t.cap,h.h.cap⟩
theorem sS(s:aj)(q:SV)(w:World)(h:q.Ok w s)(a1:Small s):Calls prog 35 #[.agg (q.val s)] w fun e ab=>∃ar:SV,e=.returned (.agg (ar.val s))∧ar.Is ab (fresh w ab) s∧Ext w ab:=by
 refine(fG s q.GA q.TA q.HA q.gn q.gc q.tn q.tc q.hn q.hc w h.at_ a1).mono ?_;rintro e ab ⟨GA,gc,TA,tc,HA,hc,xs,F1,F2,bQ,cb,rfl,co,bv,aw⟩;exact⟨⟨GA,q.gn,gc,TA,q.tn,tc,HA,q.hn,hc⟩,rfl,co.sv bv,aw⟩
namespace Ck
theorem hv(h:p:=by
 have bm:=ag hs ht;clear hs ht;dsimp only[UV.val,SV.val];go_enter func21,ntmps21;go_upto_region 1 with(fail);generalize ba:World.alloc _ _=W;have aw:=kq ba;have ce:=g5 ba;have cA:=jq ba;have ah:=ag aw cA;obtain⟨a8,am,aF⟩:=ce.two;clear ba aw ce cA;go_wp2_with(fail);refine(yy s bS TA HA bL bD tn tc hn hc t W (bm.1.on ah.1).at_ bm.2).mono ?_;rintro e aS ⟨rfl,aN⟩;have f:=ah.2.ai aN;have bu:=ag (ah.1.trans aN) f;clear a8 am aF aN;obtain⟨bl,aA,aO⟩:=f.two;clear f;go_wp2_with(fail);generalize hX:World.setCell _ _ _=Z;obtain⟨bh,a9,be⟩:=bA (w:=w) [.int .i64 0,.int .i64 0,.bool false,.int .i64 0,.int .i64 0,.string ⟨#[]⟩,.slice none 0 0,.bool false,.int .i64 0,.slice none 0 0,.slice none 0 0,.slice none 0 0] (by rfl) bu.2 bu.1 ad hX;have bd:=ae a9;clear hX a9 be bl aA aO;obtain⟨bl,aA,aO⟩:=bh.two;refine Ln (v:=.tuple #[.agg tp,.bool false]) (by simp[results,Tryz.results21,go_sem,bl]) rfl ?_;exact⟨rfl,bd.o⟩
 ):p:=h
end Ck
open Ck in
theorem tU(u:ay)(s:aj)(t:Int)(w:World)(p:UV)(q:SV)(hs:q.Ok w s)(ht:ef s t=none) :
  Calls prog 21 #[.agg (p.val u),.agg (q.val s),.int .i64 t] w fun e ab=>e=.returned (.tuple #[.agg tp,.bool false])∧Ext w ab:=by
 exact hr
namespace Cl
theorem hv(h:p:=by
 have bm:=ag hs ht;clear hs ht;dsimp only[UV.val,SV.val];go_enter func22,ntmps22;go_upto_region 1 with(fail);generalize ba:World.alloc _ _=W;have aw:=kq ba;have ce:=g5 ba;have cA:=jq ba;have ah:=ag aw cA;obtain⟨a8,am,aF⟩:=ce.two;clear ba aw ce cA;go_wp2_with(fail);refine(yI s bS TA HA bL bD tn tc hn hc t W (bm.1.on ah.1).at_ bm.2).mono ?_;rintro e aS ⟨rfl,aN⟩;have f:=ah.2.ai aN;have bu:=ag (ah.1.trans aN) f;clear a8 am aF aN f;go_upto_region 2 with(fail);generalize hV:World.alloc _ _=V;have bj:=aU hV;have z:=bu.2.ai bj;have cc:=ag (bu.1.trans bj) z;obtain⟨bl,aA,aO⟩:=z.two;clear hV bj z;go_wp2_with(fail);generalize hX:World.setCell _ _ _=Z;obtain⟨bh,a9,be⟩:=bA (w:=w) [.int .i64 0,.int .i64 0,.bool false,.int .i64 0,.int .i64 0,.string ⟨#[]⟩,.slice none 0 0,.bool false,.int .i64 0,.slice none 0 0,.slice none 0 0,.slice none 0 0] (by rfl) cc.2 cc.1 ad hX;have bd:=ae a9;clear hX a9 be bl aA aO;obtain⟨bl,aA,aO⟩:=bh.two;refine Ln (v:=.tuple #[.agg tp,.bool false]) (by simp[results,Tryz.results22,go_sem,bl]) rfl ?_;exact⟨rfl,bd.o⟩
 ):p:=h
end Cl
open Cl in
theorem uw(u:ay)(s:aj)(t:Int)(w:World)(p:UV)(q:SV)(hs:q.Ok w s)(ht:ef s t=none) :
  Calls prog 22 #[.agg (p.val u),.agg (q.val s),.int .i64 t] w fun e ab=>e=.returned (.tuple #[.agg tp,.bool false])∧Ext w ab:=by
 exact hr
namespace Cm
theorem lJ(h:p:=by
 have ah:=aB aw aR cA;obtain⟨a8,am,aF⟩:=aR.two;clear ba aw aR cA;go_wp2_with(fail);refine(sS s ⟨bS,bL,bD,TA,tn,tc,HA,hn,hc⟩ W (bm.1.on ah.1) bm.2).mono ?_;rintro e aS ⟨⟨aZ,cu,bc,aX,m,L,bf,ct,a3⟩,rfl,bZ,aN⟩;have cE:=ah.2.1.ai aN;have H1:=bH bZ (ah.1.trans aN) cE (ah.2.2.ai aN);clear a8 am aF bZ aN;obtain⟨a8,am,aF⟩:=cE.two;clear cE;go_upto_region 3 with(fail);generalize hX:World.setCell _ _ _=X;obtain⟨bs,J⟩:=ke 3 [.int .i64 z] (ke 0 [.slice aZ cu bc,.slice aX m L,.slice bf ct a3,.int .i64 s.fault] H1.2.2.1 rfl).1 hX;have az:Fr (fun b=>b=w.heap.size) aS X:=(ke 0 [.slice aZ cu bc,.slice aX m L,.slice bf ct a3,.int .i64 s.fault] H1.2.2.1 rfl).2.trans J;have bF:aq X w.heap.size 40 #[.slice aZ cu bc,.slice aX m L,.slice bf ct a3,.int .i64 z]:=by simpa[iZ] using bs
 have bq:=H1.2.2.2.on az ad;have br:Ext w X:=Fr.low (M:=fun b=>b=w.heap.size) (Fr.trans (Fr.mono H1.2.1 fun _ h=>h.elim) az) fun b O=>ad;have aQ:=aB br bq az;clear hX bs J az a8 am aF br;obtain⟨a8,am,aF⟩:=bF.two;obtain⟨bl,aA,aO⟩:=bq.two;clear bF bq;go_wp2_with(fail);generalize hX:World.setCell _ _ _=Z;obtain⟨bh,a9,be⟩:=bA (w:=w) [.slice aZ cu bc,.slice aX m L,.slice bf ct a3,.int .i64 z] (by rfl) aQ.2.1 aQ.1 ad hX;have bd:=ag a9 be;clear hX a9 be bl aA aO a8 am aF;obtain⟨bl,aA,aO⟩:=bh.two;refine Ln (v:=.tuple #[.agg #[.slice aZ cu bc,.slice aX m L,.slice bf ct a3,.int .i64 z],.bool true]) (by simp[results,Tryz.results87,go_sem,bl]) rfl ?_;have ao:=aQ.2.2.size;have cR:=bd.2.size;have aG:w.heap.size+1<W.heap.size:=ah.2.2.lt;have an:(⟨aZ,cu,bc,aX,m,L,bf,ct,a3⟩:SV).Is Z (fresh W aS) {s with fault:=z}:=SV.Is.ak (w:=aS) ⟨⟨H1.1.at_.g,H1.1.at_.t,H1.1.at_.h⟩,H1.1.gc,H1.1.tc,H1.1.hc⟩ fun b O=>(bd.2.block b (aD O.2) (aD O.1)).trans (aQ.2.2.block b O.2 (aD O.1));exact⟨⟨aZ,cu,bc,aX,m,L,bf,ct,a3⟩,rfl,an.mono fun b O=>.inr ⟨by have:=O.1;omega,by have:=O.2;omega⟩,bd.1⟩
 ):p:=h
end Cm
open Cm in
theorem k1(s:aj)(q:SV)(z:Int)(w:World)(h:q.Ok w s)(a1:Small s):Calls prog 87 #[.agg (q.val s),.int .i64 z] w (cG mf w {s with fault:=z} true):=by
 obtain⟨bS,bL,bD,TA,tn,tc,HA,hn,hc⟩:=q;have bm:=ag h a1;clear h a1;dsimp only[SV.val];go_enter func87,ntmps87;exact lI
namespace Cn
theorem lJ(h:p:=by
 have ah:=aB aw aR cA;obtain⟨a8,am,aF⟩:=aR.two;clear ba aw aR cA;go_upto_region 2 with(fail);generalize hX:World.setCell _ _ _=X;obtain⟨bs,J⟩:=ke 3 [.int .i64 z] ah.2.1 hX;have bF:aq X w.heap.size 40 #[.slice bS bL bD,.slice TA tn tc,.slice HA hn hc,.int .i64 z]:=by simpa[iZ] using bs
 have bq:=ah.2.2.on J ad;have br:Ext w X:=Fr.low (M:=fun b=>b=w.heap.size) (Fr.trans (Fr.mono ah.1 fun _ h=>h.elim) J) fun b O=>ad;have aQ:=ag br bq;clear hX bs J a8 am aF br;obtain⟨a8,am,aF⟩:=bF.two;obtain⟨bl,aA,aO⟩:=bq.two;clear bF bq;go_wp2_with(fail);generalize hX:World.setCell _ _ _=Z;obtain⟨bh,a9,be⟩:=bA (w:=w) [.slice bS bL bD,.slice TA tn tc,.slice HA hn hc,.int .i64 z] (by rfl) aQ.2 aQ.1 ad hX;have bd:=ae a9;clear hX a9 be bl aA aO a8 am aF;obtain⟨bl,aA,aO⟩:=bh.two;refine Ln (v:=.tuple #[.agg #[.slice bS bL bD,.slice TA tn tc,.slice HA hn hc,.int .i64 z],.bool true]) (by simp[results,Tryz.results42,go_sem,bl]) rfl ?_;have bn:=bm.1.ak (ab:=Z) fun b O=>bd.block b (bm.2 b O) fun h=>h;exact⟨⟨bS,bL,bD,TA,tn,tc,HA,hn,hc⟩,rfl,SV.Is.mono ⟨⟨bn.at_.g,bn.at_.t,bn.at_.h⟩,bn.gc,bn.tc,bn.hc⟩ fun b O=>.inl O,bd.o⟩
 ):p:=h
end Cn
open Cn in
theorem oU(P:Nat→Prop)(s:aj)(q:SV)(z:Int)(w:World)(h:q.Is w P s)(aZ:∀b,P b→b<w.heap.size):Calls prog 42 #[.agg (q.val s),.int .i64 z] w (cG P w {s with fault:=z} true):=by
 obtain⟨bS,bL,bD,TA,tn,tc,HA,hn,hc⟩:=q;have bm:=ag h aZ;clear h aZ;dsimp only[SV.val];go_enter func42,ntmps42;exact lI
end Go.Proofs.YtnhhdaggkiomoaaGreat

/- Part 18 of the proof. No condition of its own. -/
import Derived.Test.YtbkhhfajcgkpgaaGreatQ17
namespace Go.Proofs.YtbkhhfajcgkpgaaGreat
open Go.RowKit Go.Proofs.Tryz
set_option maxRecDepth 1000000
set_option maxHeartbeats 25600000
set_option linter.unusedVariables false
variable{nl t:Int}{fs:List an}{gn l:Nat}{P:Nat→Prop}{GA bj:Kr}{p:Prop}{f:an}{u:av}{x:ay}{pl:bC}{Q:c6}
theorem jG{s:ah}(h:dE s t=some f):w4 u s t pl=bk u s f pl:=by unfold w4;rw[h]
theorem qX{s:ah}(h:pl.param=true):bk u s f pl=(f.aw.getD pl.index.toNat 0,0):=by unfold bk;rw[if_pos h]
theorem xK{s:ah}(h:pl.param=false)(aD:(cI u s f pl).2≠0):bk u s f pl=(0,(cI u s f pl).2):=by unfold bk;rw[if_neg (by simp[h]),if_pos aD]
theorem pd{s:ah}(h:pl.param=false)(aD:(cI u s f pl).2=0):bk u s f pl=(eG u.ae pl.index+(cI u s f pl).1,0):=by unfold bk;rw[if_neg (by simp[h]),if_neg ab]
theorem Cv{s:ah}{nk:Int}(hU:cU u)(hF:bQ u f)(aj:nk≤f.aw.length)(hx:cJ (bh u) nl nk pl)(h:pl.param=false)(aD:(cI u s f pl).2=0):
  0≤eG u.ae pl.index+(cI u s f pl).1∧eG u.ae pl.index+(cI u s f pl).1≤5000:=by
 have ae:=(ji (s:=s) hU hF aj hx).2;rw[pd h aD] at ae;have:=lI hU;have:=ae rfl;simp only at this;omega
theorem C7{w:World}(hx:cJ (bh u) nl f.aw.length pl)(h:pl.param=true)(hl:Sl w (au w) bj l (f.aw.map D.i)):
  0≤pl.index∧pl.index<l∧∃b o,bj=some ⟨b,o,none⟩∧b<w.heap.size∧w.cell? ⟨b,o+pl.index.toNat,none⟩=some (.int .i64 (f.aw.getD pl.index.toNat 0)):=by
 rcases hx with⟨_,ae,aC,_⟩|⟨ae,_⟩
 ·have hn:=hl.1;rw[JU] at hn;obtain⟨b,o,x,bk,O,hx,hc⟩:=hl.ints.int (k:=pl.index.toNat) ab;refine⟨ae,ab,b,o,bk,O,?_⟩;rw[List.getD_eq_getElem?_getD,hx];exact hc
 ·rw[h] at ae;cases ae
structure Hb(u:av)(s:ah)(t:Int)(f:an)(pl:bC)(N:Nat)(w:World)(p:UV)(q:SV)(QA:Kr)(qm qc:Nat):Prop where
 hU:cU u
 hS:aS u N s
 sm:Small s
 ht:dE s t=some f
 hx:∃Q,u.procs[f.proc.toNat]?=some Q∧cJ (bh u) Q.locals Q.aw pl
 u:p.Ok w u
 s:q.Ok w s
 pl:(de pl).rep w (au w) [.bool pl.param,.int .i64 pl.index,.slice QA qm qc]
theorem bQ.vy(hF:bQ u f)(hp:u.procs[f.proc.toNat]?=some Q):(f.aw.length:Int)=Q.aw:=by
 obtain⟨p,h,_,_,aC⟩:=hF.ex;rw[hp] at h;injection h with h;rw[h];exact aC
namespace AY
theorem zL(h:p:=by
 clear k aD o aS bx a0 ap ak a6 am aI d0 ag aR c2 c3;obtain⟨a0,ap,ak⟩:=((ax.2.1.ak J.1).ak J.2).two;obtain⟨d0,ag,aR⟩:=((ax.2.2.2.1.ak J.1).ak J.2).two;refine eD hK ?_;clear hK K
 iterate 5 refine pf ?_
 refine aA ?_;by_cases bi:z=0
 ·have q5:(z != 0)=false:=by simpa using bi
  have ac:=bu.1 bi;have bS:=ad (bu.2.2 bi);subst bi;generalize aL:eG u.ae pl.index=B at *;have bs:=ad aL;clear aL bu;go_wp2_with(fail);refine(Ck MA mn mc u.ae pl.index aO ((ax.2.2.2.2.1.on J.1).on J.2).at_.m.qG aP.1.DM b7).mono ?_;rintro e bU ⟨rfl,az⟩;rw[bs.o];have bl:=ad (((ax.1.trans J.1).trans J.2).trans (Fr.of az));clear az a0 ap ak d0 ag aR;go_wp2
  go_ret2
  exact fH.mk' bS.o (Fr.ext bl.o)
 ·have q5:(z != 0)=true:=by simpa using bi
  have bS:=ad (bu.2.1 bi);clear bi bu;go_wp2_with(fail)
  go_ret2
  exact fH.mk' bS.o (Fr.ext ((ax.1.trans J.1).trans J.2))
 ):p:=h
theorem zo(h:p:=by
 refine(rl L.o _ _ _).mono ?_;rintro e aN ⟨rfl,aG⟩;have ae:=ad (L.on aG);have br:=ad aG;clear a0 ap ak a6 am aI d0 ag aR;obtain⟨a0,ap,ak⟩:=(ax.2.1.ak aG).two;obtain⟨a6,am,aI⟩:=(ax.2.2.1.ak aG).two;obtain⟨d0,ag,aR⟩:=(ax.2.2.2.1.ak aG).two;have a5:=ae.lf;have c2:=ae.c2;have c3:=ae.c3;clear aG L
 cases j:pl.param with
 | true=>
  rw[j] at d0;obtain⟨gI,cY,lb,lo,rfl,bo,aJ⟩:=C7 aP.2.2.2.2.2 j ae.aw;have aa:=qX (u:=u) (s:=s) (f:=f) j;generalize hV:f.aw.getD pl.index.toNat 0=V at *;have aX:=ad aa;have q1:decide (pl.index<0)=false:=by simp;omega
  have cB:decide (pl.index≥l)=false:=by simp;omega
  clear aa hV;go_upto_region 5 with(fail);refine eE (fun _=>False) [(0,3),(1,0),(2,3),(3,3),(4,3),(5,0),(6,3),(7,3),(8,3),(9,0),(10,3),(11,3),(12,3)] ?_;refine pf ?_;refine ph ?_
  iterate 3 refine pf ?_
  refine ph ?_
  iterate 3 refine pf ?_
  refine ph ?_
  iterate 3 refine pf ?_
  refine aA ?_;go_upto_region 7 with(fail);refine eE (fun _=>False) [(0,3),(1,3),(2,3),(3,0),(4,3),(5,0),(6,3),(7,0),(8,3),(9,3)] ?_
  iterate 3 refine pf ?_
  refine bI (v:=?_) rfl (by rfl) (fun V hV=>?_) ?_;rotate_left
  ·obtain⟨hVc,hVf⟩:=Fr.jb hV
   (go_simp<;>with_reducible rfl)
  try simp only[PU]
  refine pf ?_;refine bI (v:=?_) rfl (by rfl) (fun V hV=>?_) ?_;rotate_left
  ·obtain⟨hVc,hVf⟩:=Fr.jb hV
   (go_simp<;>with_reducible rfl)
  try simp only[PU]
  refine pf ?_;refine bI (v:=?_) rfl (by rfl) (fun V hV=>?_) ?_;rotate_left
  ·obtain⟨hVc,hVf⟩:=Fr.jb hV
   (go_simp<;>with_reducible rfl)
  try simp only[PU]
  iterate 2 refine pf ?_
  refine aA ?_;go_wp2_with(fail)
  go_ret2
  exact fH.mk' aX.o (Fr.ext ((ax.1.trans br.o).drew.drew))
 | false=>
  rw[j] at d0;go_upto_region 8 with(fail);refine eE (fun _=>False) [(0,0),(1,3),(2,0),(3,3),(4,0),(5,3),(6,3),(7,3),(8,0),(9,2),(10,3),(11,3),(12,3),(13,3),(14,3)] ?_;refine ph ?_;refine pf ?_;refine ph ?_;refine pf ?_;refine ph ?_
  iterate 3 refine pf ?_
  refine ph ?_;refine aq rfl (fun K hK=>?_);go_simp;have aS:Ext W aN.drew:=br.drew;refine(GB (u:=u) (s:=s) (f:=f) (pl:=pl) aP.1 aP.2.1 aP.2.2.1 aP.2.2.2.1 aP.2.2.2.2.1 j (ax.2.2.2.2.1.on aS).at_.m (ax.2.2.2.2.2.1.on aS).at_.g (ae.on Kn.drew).ints (D.on ax.2.2.2.2.2.2 (Fr.ext aS))).mono ?_;rintro e aO ⟨rfl,bx⟩;have J:=ai aS (Fr.of (M:=fun _=>False) bx);exact zK
 ):p:=h
theorem Af(h:p:=by
 have b7:=hu.mc;simp only at b7;have aP:=dQ hU hS hF hp hx r;dsimp only[UV.val,SV.val];go_enter func35,ntmps35;exact zn
 ):p:=h
theorem fM(h:p:=by
 exact Ae
 ):p:=h
end AY
open AY in
theorem vz(u:av)(s:ah)(t:Int)(f:an)(pl:bC)(N:Nat)(w:World)(p:UV)(q:SV)(QA:Kr)(qm qc:Nat)(h:Hb u s t f pl N w p q QA qm qc) :
  Calls prog 35 #[.agg (p.val u),.agg (q.val s),.int .i64 t,.agg #[.bool pl.param,.int .i64 pl.index,.slice QA qm qc]] w (fH w (w4 u s t pl)):=by
 obtain⟨hU,hS,ac,ht,⟨Q,hp,hx⟩,hu,hs,bm⟩:=h;exact fL
namespace AZ
theorem zL(h:p:=by
 clear k aD o bx a0 ap ak a6 am aI d0 ag aR e0 a5 aZ;obtain⟨a0,ap,ak⟩:=((ax.2.1.ak J.1).ak J.2).two;obtain⟨d0,ag,aR⟩:=((ax.2.2.2.1.ak J.1).ak J.2).two;by_cases bi:z=0
 ·have q5:(z != 0)=false:=by simpa using bi
  have ac:=bu.1 bi;have bS:=ad (bu.2.2 bi);subst bi;generalize aL:eG u.ae pl.index=B at *;have bs:=ad aL;clear aL bu;go_wp2_with(fail);refine(tR MA mn mc u.ae pl.index aO ((ax.2.2.2.2.1.on J.1).on J.2).at_.m.qG aP.1.DM).mono ?_;rintro e bU ⟨rfl,az⟩;rw[bs.o];have bl:=ad (((ax.1.trans J.1).trans J.2).trans (Fr.of az));clear az a0 ap ak d0 ag aR;go_wp2
  go_ret2
  exact fH.mk' bS.o (Fr.ext bl.o)
 ·have q5:(z != 0)=true:=by simpa using bi
  have bS:=ad (bu.2.1 bi);clear bi bu;go_wp2_with(fail)
  go_ret2
  exact fH.mk' bS.o (Fr.ext ((ax.1.trans J.1).trans J.2))
 ):p:=h
theorem Al(h:p:=by
 have cc:=ai aS bf;clear hV aS a0 ap ak a6 am aI d0 ag aR;obtain⟨a0,ap,ak⟩:=(ax.2.1.ak cc.1).two;obtain⟨a6,am,aI⟩:=(ax.2.2.1.ak cc.1).two;obtain⟨d0,ag,aR⟩:=(ax.2.2.2.1.ak cc.1).two;obtain⟨e0,a5,aZ⟩:=m.two;rw[j] at d0;clear bf m;go_wp2_with(fail);refine(GK (u:=u) (s:=s) (f:=f) (pl:=pl) aP.1 aP.2.1 aP.2.2.1 aP.2.2.2.1 aP.2.2.2.2.1 j (ax.2.2.2.2.1.on cc.1).at_.m (ax.2.2.2.2.2.1.on cc.1).at_.g (ae.on cc.2).ints (D.on ax.2.2.2.2.2.2 (Fr.ext cc.1))).mono ?_;rintro e aO ⟨rfl,bx⟩;have J:=ai cc.1 (Fr.of (M:=fun _=>False) bx);exact zK
 ):p:=h
theorem zo(h:p:=by
 refine(m8 L.o _ _ _).mono ?_;rintro e aN ⟨rfl,aG⟩;have ae:=ad (L.on aG);have br:=ad aG;clear a0 ap ak a6 am aI d0 ag aR aG L;obtain⟨a0,ap,ak⟩:=(ax.2.1.ak br.o).two;obtain⟨a6,am,aI⟩:=(ax.2.2.1.ak br.o).two;obtain⟨d0,ag,aR⟩:=(ax.2.2.2.1.ak br.o).two
 cases j:pl.param with
 | true=>
  rw[j] at d0;obtain⟨gI,cY,lb,lo,rfl,bo,aJ⟩:=C7 aP.2.2.2.2.2 j ae.aw;have aa:=qX (u:=u) (s:=s) (f:=f) j;generalize hV:f.aw.getD pl.index.toNat 0=V at *;have aX:=ad aa;clear aa hV;go_wp2_with(fail)
  go_ret2
  exact fH.mk' aX.o (Fr.ext ((ax.1.trans br.o).alloc _))
 | false=>
  rw[j] at d0;go_upto_region 4 with(fail);exact Ak
 ):p:=h
theorem Af(h:p:=by
 have aP:=dQ hU hS hF hp hx r;dsimp only[UV.val,SV.val];go_enter func37,ntmps37;exact zn
 ):p:=h
theorem fM(h:p:=by
 exact Ae
 ):p:=h
end AZ
open AZ in
theorem lR(u:av)(s:ah)(t:Int)(f:an)(pl:bC)(N:Nat)(w:World)(p:UV)(q:SV)(QA:Kr)(qm qc:Nat)(h:Hb u s t f pl N w p q QA qm qc) :
  Calls prog 37 #[.agg (p.val u),.agg (q.val s),.int .i64 t,.agg #[.bool pl.param,.int .i64 pl.index,.slice QA qm qc]] w (fH w (w4 u s t pl)):=by
 obtain⟨hU,hS,ac,ht,⟨Q,hp,hx⟩,hu,hs,bm⟩:=h;exact fL
structure IV where
 eo:Int
 en:Int
 es:ByteArray
 EA:Option Addr
 em:Nat
 ec:Nat
 QA:Option Addr
 qm:Nat
 qc:Nat
 IA:Option Addr
 i:Nat
 ic:Nat
 KA:Option Addr
 k:Nat
 kc:Nat
abbrev IV.val(v:IV)(x:ay):Array Value:=#[.int .i64 x.op,.int .i64 x.target,.bool x.c8,.int .i64 v.eo,.int .i64 v.en,.string v.es,.slice v.EA v.em v.ec,.bool x.place.param,.int .i64 x.place.index,.slice v.QA v.qm v.qc,.slice v.IA v.i v.ic,.slice v.KA v.k v.kc]
structure IV.Ok(v:IV)(w:World)(x:ay):Prop where
 expr:(nZ x.expr).rep w (au w) [.int .i64 v.eo,.int .i64 v.en,.string v.es,.slice v.EA v.em v.ec]
 place:(de x.place).rep w (au w) [.bool x.place.param,.int .i64 x.place.index,.slice v.QA v.qm v.qc]
 ints:Sl w (au w) v.IA v.i (x.ints.map bb)
 Gv:v.i≤v.ic
 places:Sl w (au w) v.KA v.k (x.places.map de)
 Gy:v.k≤v.kc
theorem IV.Ok.on{v:IV}{w ac:World}{x:ay}(h:v.Ok w x)(he:Ext w ac):v.Ok ac x:=
 ⟨D.on h.expr (Fr.ext he),D.on h.place (Fr.ext he),h.ints.on (Fr.ext he),h.Gv,h.places.on (Fr.ext he),h.Gy⟩
def E6(w:World)(x:ay)(e:Ending)(ac:World):Prop:=∃v:IV,e=.returned (.tuple #[.agg (v.val x),.bool true])∧v.Ok ac x∧Ext w ac
theorem tB{s:ah}(h:dE s t=some f)(hp:u.procs[f.proc.toNat]?=some Q)(hx:Q.code[f.pc.toNat]?=some x):dg u s t=some x:=by
 unfold dg;rw[h];simp only[Option.bind_some,hp,hx]
structure F4(u:av)(s:ah)(t:Int)(f:an)(Q:c6)(x:ay)(w:World)(p:UV)(q:SV):Prop where
 sm:Small s
 ht:dE s t=some f
 hp:u.procs[f.proc.toNat]?=some Q
 hx:Q.code[f.pc.toNat]?=some x
 p0:0≤f.proc
 c0:0≤f.pc
 il:x.ints.length≤200
 kl:x.places.length≤200
 u:p.Ok w u
 s:q.Ok w s
theorem g5.code{w:World}{MA PA:Kr}{mn pn:Nat}(h:g5 w (au w) u GA gn MA mn PA pn)(hp:u.procs[f.proc.toNat]?=some Q)(hx:Q.code[f.pc.toNat]?=some x)(p0:0≤f.proc)(c0:0≤f.pc):
  ∃b o R co n c,∃v:IV,PA=some ⟨b,o,none⟩∧b<w.heap.size∧f.proc<pn∧w.cell? ⟨b,o+f.proc.toNat*5+4,none⟩=some (.slice (some ⟨R,co,none⟩) n c)∧R<w.heap.size∧f.pc<n∧v.Ok w x∧∀j u,(v.val x)[j]?=some u→w.cell? ⟨R,co+f.pc.toNat*12+j,none⟩=some u:=by
 have ae:=(List.getElem?_eq_some_iff.1 hp).1;have aC:=(List.getElem?_eq_some_iff.1 hx).1;have bb:=h.p.1;rw[JU] at bb;obtain⟨b,o,c8,bI,n,c,rfl,O,bV,_,_,_,_,hc,bJ,hs⟩:=h.proc (k:=f.proc.toNat) ab;rw[hp] at bV;injection bV with bV;subst bV;have bB:=hs.1;rw[JU] at bB;obtain⟨R,co,d,cs,eo,en,es,EA,em,ec,QA,qm,qc,IA,i,ic,KA,m,mc,rfl,bS,g,al,bc⟩:=hs.CP (k:=f.pc.toNat) ab;rw[hx] at g;injection g with g;subst g;refine⟨b,o,R,co,n,c,⟨eo,en,es,EA,em,ec,QA,qm,qc,IA,i,ic,KA,m,mc⟩,rfl,O,ab,hc,bS,ab,⟨al.expr,al.place,al.ints,al.Gv,al.places,al.Gy⟩,fun j u hu=>bc j u ?_⟩;rw[al.cells];simpa using hu
namespace A0
theorem zX(h:p:=by
 clear hV bf m aS J z a3 eI bS T;go_upto_region 4 with(fail);refine eE (fun _=>False) [(0,3),(1,0),(2,3),(3,0),(4,3),(5,3),(6,0),(7,3),(8,0),(9,3),(10,0),(11,2),(12,3)] ?_;refine pf ?_;refine ph ?_;refine pf ?_;refine ph ?_
 iterate 2 refine pf ?_
 refine ph ?_;refine pf ?_;refine ph ?_;refine pf ?_;refine ph ?_;refine aq rfl (fun K hK=>?_);go_simp;refine eD hK ?_;clear hK K;refine pf ?_;refine aA ?_;generalize hX:World.setCell _ _ _=X;obtain⟨bh,bo,b0⟩:=cb (w:=w) [.int .i64 x.op,.int .i64 x.target,.bool x.c8,.int .i64 eo,.int .i64 en,.string es,.slice EA em ec,.bool x.place.param,.int .i64 x.place.index,.slice QA qm qc,.slice cN j cy,.slice KA k kc] (by rfl) cc.2.1 cc.1 ab hX;have aP:=ad bo;clear hX bo b0 a0 ap ak d0 ag aR bv bd be cz b5 bE cx H bR bY cP cQ cR cG cH bs;obtain⟨bv,bd,be⟩:=bh.two;clear bh;go_wp2_with(fail);refine Km (v:=.tuple #[.agg #[.int .i64 x.op,.int .i64 x.target,.bool x.c8,.int .i64 eo,.int .i64 en,.string es,.slice EA em ec,.bool x.place.param,.int .i64 x.place.index,.slice QA qm qc,.slice cN j cy,.slice KA k kc],.bool true]) (by simp[results,Tryz.results29,go_sem,bv]) rfl ?_;exact⟨⟨eo,en,es,EA,em,ec,QA,qm,qc,cN,j,cy,KA,k,kc⟩,rfl,ax.2.2.2.2.1.on aP.drew,aP.drew⟩
 ):p:=h
theorem Al(h:p:=by
 have J:Ext w V:=ax.1.trans aS;have z:=ax.2.2.2.1.ak aS;have cc:=bw J z aS bf;obtain⟨a0,ap,ak⟩:=(ax.2.1.ak aS).two;obtain⟨d0,ag,aR⟩:=m.two;obtain⟨bv,bd,be⟩:=z.two;have T:=J.size;have al:pb<V.heap.size:=ab;have cs:R<V.heap.size:=ab;have bs:=(J.cell (j:=gL+f.proc.toNat*5+4) eI fun h=>h).trans ax.2.2.2.2.2.1;have a3:∀j u,_→V.cell? ⟨R,co+f.pc.toNat*12+j,none⟩=some u:=fun j u bc=>(J.cell (j:=co+f.pc.toNat*12+j) bS fun h=>h).trans (ax.2.2.2.2.2.2 j u bc);exact zW
 ):p:=h
theorem zq(h:p:=by
 obtain⟨a6,am,aI⟩:=aY.two;clear bg aF bG aY b8 hT hu hs ac ht hp hx bD cW aV;go_wp2_with(fail);refine(m8 L.o _ _ _).mono ?_;rintro e aN ⟨rfl,aG⟩;have br:=ad aG;clear a6 am aI aG L;go_upto_region 2 with(fail);exact Ak
 ):p:=h
theorem lA(h:p:=by
 exact zp
 ):p:=h
theorem Aj(h:p:=by
 obtain⟨eo,en,es,EA,em,ec,QA,qm,qc,cN,j,cy,KA,k,kc⟩:=v;dsimp only[UV.val,SV.val,IV.val] at aV ⊢;go_enter func29,ntmps29;exact lz
 ):p:=h
theorem fM(h:p:=by
 exact Ai
 ):p:=h
end A0
open A0 in
theorem kA(u:av)(s:ah)(t:Int)(f:an)(Q:c6)(x:ay)(w:World)(p:UV)(q:SV)(h:F4 u s t f Q x w p q) :
  Calls prog 29 #[.agg (p.val u),.agg (q.val s),.int .i64 t] w (E6 w x):=by
 obtain⟨ac,ht,hp,hx,p0,cL,aM,bN,hu,hs⟩:=h;exact fL
theorem Gg:bX prog 60 59 (.agg #[.bool false,.int .i64 0,.slice none 0 0]) 3 40:=bX.mk' Tryz.underlying60 (by kernel_rfl) rfl ab
theorem q8{X V:World}{g:Nat}{t:TypeId}{cs:Array Value}(i:Nat)(vs:List Value)(aL:af V g t cs)(hX:q6 g V i vs=X):af X g t (j5 cs i vs)∧Fr (fun b=>b=g) V X:=by
 subst hX;exact⟨kQ vs i V cs aL,ko vs i V⟩
namespace A1
theorem jD(h:p:=by
 generalize hX:World.setCell _ _ _=X;have cl:Ext w ci:=((cc.1.trans aE.1).trans ao.1).trans P.2.2.1;obtain⟨cd,aD⟩:=q8 3 [.int .i64 eo,.int .i64 en,.string es,.slice m a1 aZ,.bool x.place.param,.int .i64 x.place.index,.slice aU bi a2,.slice aC b9 bT] P.2.2.2 hX;have aL:af X aN.heap.size 62 #[.int .i64 x.op,.int .i64 x.target,.bool x.c8,.int .i64 eo,.int .i64 en,.string es,.slice m a1 aZ,.bool x.place.param,.int .i64 x.place.index,.slice aU bi a2,.slice aC b9 bT,.slice KA cK kc]:=by
  simpa[j5] using cd
 clear cd;have bz:=aE.1.size;have cu:=ao.1.size;have cS:=P.2.2.1.size;have cO:V.drew.heap.size=V.heap.size:=rfl;have cv:=aD.size;have cT:D.rep X (fun b=>aN.heap.size<b∧b<X.heap.size) (nZ x.expr) [.int .i64 eo,.int .i64 en,.string es,.slice m a1 aZ]:=
  D.aF (fun b O=>(⟨by have:=O.1;omega,by have:=O.2;omega⟩:aN.heap.size<b∧b<X.heap.size)) _ _ (D.aN (fun b O=>(aD.block b (aH O.2) (aH O.1)).trans ((P.2.2.1.block b (aH O.2) fun h=>h).trans (ao.1.block b O.2 fun h=>h))) _ _ aE.2)
 have cY:D.rep X (fun b=>aN.heap.size<b∧b<X.heap.size) (de x.place) [.bool x.place.param,.int .i64 x.place.index,.slice aU bi a2]:=
  D.aF (fun b O=>(⟨by have:=O.1;omega,by have:=O.2;omega⟩:aN.heap.size<b∧b<X.heap.size)) _ _ (D.aN (fun b O=>(aD.block b (aH O.2) (aH O.1)).trans (P.2.2.1.block b O.2 fun h=>h)) _ _ ao.2)
 have cV:Sl X (fun b=>aN.heap.size<b∧b<X.heap.size) aC b9 (x.ints.map bb):=
  (P.2.1.aj fun b O=>aD.block b O.2 (aH O.1)).mono fun b O=>⟨by have:=O.1;omega,by have:=O.2;omega⟩
 have bo:Ext w X:=Fr.low (M:=fun b=>b=aN.heap.size) (Fr.trans (Fr.mono cl fun _ h=>h.elim) aD) fun b O=>ab;have b3:=(((cc.2.2.1.ak aE.1).ak ao.1).ak P.2.2.1).on aD ab;have aP:=dQ bo b3 cT cY cV P.1;have bh:=aL;clear hX cl aD aL bz cu cS cv cO cT cY cV bo b3 a0 ap ak;obtain⟨a0,ap,ak⟩:=bh.two;go_upto_region 8 with(fail);generalize hX:World.setCell _ _ _=Y;obtain⟨cd,aD⟩:=q8 11 [.slice none 0 0] bh hX;have bt:af Y aN.heap.size 62 #[.int .i64 x.op,.int .i64 x.target,.bool x.c8,.int .i64 eo,.int .i64 en,.string es,.slice m a1 aZ,.bool x.place.param,.int .i64 x.place.index,.slice aU bi a2,.slice aC b9 bT,.slice none 0 0]:=by
  simpa[j5] using cd
 have bA:Ext w Y:=Fr.low (M:=fun b=>b=aN.heap.size) (Fr.trans (Fr.mono aP.1 fun _ h=>h.elim) aD) fun b O=>by have:=br.1.size;omega
 have cw:=aD.size;have bM:=bw bA (aP.2.1.on aD (aH br.2.lt)) aD bt;have aX:=br.2.lt;have cF:aN.heap.size<X.heap.size:=by have:=bh.lt;omega
 clear hX cd aD bt bA bh a0 ap ak;go_wp2_with(fail);go_loopw [51] (fun cg wr=>∃(k:Nat) (I:Kr) (az:Nat),cg=.int .i64 k∧k≤cK∧Ext w wr∧Fr (fun b=>b=aN.heap.size) Y wr∧af wr (w.heap.size+2) 62 #[.int .i64 0,.int .i64 0,.bool false,.int .i64 0,.int .i64 0,.string ⟨#[]⟩,.slice none 0 0,.bool false,.int .i64 0,.slice none 0 0,.slice none 0 0,.slice none 0 0]∧
   af wr aN.heap.size 62 #[.int .i64 x.op,.int .i64 x.target,.bool x.c8,.int .i64 eo,.int .i64 en,.string es,.slice m a1 aZ,.bool x.place.param,.int .i64 x.place.index,.slice aU bi a2,.slice aC b9 bT,.slice I k az]∧Gr (fun b=>Y.heap.size≤b) Y.heap.size 59 3 wr I k az ((x.places.take k).map de)) (fun cg _=>cK - (intOf cg).toNat)
 case atStart=>exact⟨0,none,0,rfl,ab,bM.1,Kn,bM.2.1,bM.2.2.2,Gr.nil _ _ _ _ _⟩
 case round=>
  obtain⟨k,I,az,rfl,aj,aF,ce,b8,aL,hG⟩:=hrel;have bL:=dA aF ce b8 aL hG;have gi:=ce.size;by_cases aw:k<cK
  ·obtain⟨b,o,y,cB,cp,zc,rfl,O,a4,cj,cr,bm,bF,bu⟩:=(ax.2.2.2.2.1.places.on (Fr.ext aF)).sF aw;have aW:b<wr.heap.size:=O;have b4:=aQ a4 bF bu;clear aF ce b8 aL hG a4 bF bu O;go_upto_region 11 with(fail);generalize hU:World.alloc _ _=U;have ck:Ext wr U:=hU▸Kn.alloc _;have ct:af U wr.heap.size 59 #[.bool y.param,.int .i64 y.index,.slice cB cp zc]:=hU▸Ko;have c4:=ck.size;have bH:=bL.2.2.2.1.ak ck;have cm:=dQ (bL.1.trans ck) (Fr.trans bL.2.1 (ck.mono fun _ h=>h.elim)) (bL.2.2.1.ak ck) bH (bL.2.2.2.2.ak ck) (ej.2 ⟨cB,cp,zc,rfl,b4.2.1,b4.2.2.on (Fr.ext ck)⟩:(de y).rep U (au U) [.bool y.param,.int .i64 y.index,.slice cB cp zc]);obtain⟨d0,ag,aR⟩:=ct.two;obtain⟨a0,ap,ak⟩:=bH.two;clear hU ck ct bH cj cr bm aW;refine eE (fun _=>False) [(0,3),(1,0),(2,0),(3,1),(4,1),(5,2),(6,3),(7,2)] ?_;refine pf ?_
   iterate 2 refine ph ?_
   refine aK rfl (fun K hK=>?_);go_simp;refine(pH y _ cB cp zc (D.on cm.2.2.2.2.2 (Fr.ext (Fr.refl _ U).drew))).mono ?_;rintro e v1 ⟨cC,cI,cD,rfl,bJ,ar⟩;have H1:=ai bJ ar;refine dW hK (ar) ?_;clear hK K;have aG:Ext U v1:=Fr.aO ar;have cq:=cm.2.2.2.2.1.ak aG;have b1:=aG.size;have S:∀b,(Value.slice I k az).ownBlock=some b→b<U.heap.size:=fun b O=>(cm.2.2.2.2.1.lt O).2;have hd:(de y).rep v1 (lg (fun b=>Y.heap.size≤b) v1 (.slice I k az)) (#[.bool y.param,.int .i64 y.index,.slice cC cI cD]:Array Value).toList:=
    D.aF (fun b O=>⟨by have:=O.1;have:U.drew.heap.size=U.heap.size:=rfl;omega,O.2,fun h=>by have:=S b h;have:=O.1;have:U.drew.heap.size=U.heap.size:=rfl;omega⟩) _ _ bJ
   have bW:=ai cq hd;clear bJ ar cq hd S;refine ru ?_;refine aq rfl (fun K hK=>?_);rw[if_pos (by rfl)];refine qn Gg (.tmp 56) (.tmp 59) rfl bW.1 bW.2 rfl rfl rfl ab ab ab ?_;intro cf c3 v2 b7 g2 ca cJ;have N:∀b,(Value.slice I k az).ownBlock=some b→Y.heap.size≤b:=fun b O=>(bW.1.lt O).1;have bP:=(cm.2.2.2.1.ak aG).on g2 (fun h=>by have:=N _ h;omega);have r:=(cm.2.2.1.ak aG).on g2 (fun h=>by have:=N _ h;omega);have bB:Ext w v2:=Fr.low (M:=fun b=>(Value.slice I k az).ownBlock=some b) (Fr.trans (Fr.mono (cm.1.trans aG) fun _ h=>h.elim) g2) fun b O=>by have:=N b O;omega
   have bq:Fr (fun b=>b=aN.heap.size) Y v2:=(Fr.trans cm.2.1 (aG.mono fun _ h=>h.elim)).eB (g2.below ab fun b O hm=>by have:=N b hm;omega);have aE:=dA bB bq r bP b7;clear b7 g2 ca cJ N r bB bq a0 ap ak d0 ag aR;obtain⟨a0,ap,ak⟩:=bP.two;refine eD hK ?_;clear hK K;refine pf ?_;refine aq rfl (fun K hK=>?_);go_simp;refine eD hK ?_;clear hK K;refine aA ?_;generalize hX:World.setCell v2 _ _=Z;obtain⟨cd,bk⟩:=q8 11 [.slice cf (k+1) c3] aE.2.2.2.1 hX;have bC:af Z aN.heap.size 62 #[.int .i64 x.op,.int .i64 x.target,.bool x.c8,.int .i64 eo,.int .i64 en,.string es,.slice m a1 aZ,.bool x.place.param,.int .i64 x.place.index,.slice aU bi a2,.slice aC b9 bT,.slice cf (k+1) c3]:=by
    simpa[j5] using cd
   have aa:=dA (Fr.low (M:=fun b=>b=aN.heap.size) (Fr.trans (Fr.mono aE.1 fun _ h=>h.elim) bk) (fun b O=>ab):Ext w Z) (Fr.trans aE.2.1 bk) (aE.2.2.1.on bk ab) bC (aE.2.2.2.2.cO bk fun b O _=>⟨ab,ab⟩);clear hX bk cd bC a0 ap ak bP;go_wp2;go_roundw
   case rel=>exact⟨k+1,cf,c3,by go_num,ab,aa.1,aa.2.1,aa.2.2.1,aa.2.2.2.1,by rw[a9 b4.1,JX];exact aa.2.2.2.2⟩
   case measure=>exact aB
  ·obtain rfl:k=cK:=ab;obtain⟨a0,ap,ak⟩:=aL.two;obtain⟨bv,bd,be⟩:=b8.two;clear aF ce b8 aL hG;go_wp2_with(fail);generalize hX:World.setCell _ _ _=Z;obtain⟨bC,bl,bn⟩:=cb (w:=w) [.int .i64 x.op,.int .i64 x.target,.bool x.c8,.int .i64 eo,.int .i64 en,.string es,.slice m a1 aZ,.bool x.place.param,.int .i64 x.place.index,.slice aU bi a2,.slice aC b9 bT,.slice I k az] (by rfl) bL.2.2.1 bL.1 ab hX;have ba:=ai bl bn;clear hX bl bn a0 ap ak bv bd be;obtain⟨bv,bd,be⟩:=bC.two;clear bC;refine Km (v:=.tuple #[.agg #[.int .i64 x.op,.int .i64 x.target,.bool x.c8,.int .i64 eo,.int .i64 en,.string es,.slice m a1 aZ,.bool x.place.param,.int .i64 x.place.index,.slice aU bi a2,.slice aC b9 bT,.slice I k az],.bool true]) (by simp[results,Tryz.results34,go_sem,bv]) rfl ?_;have aJ:=bL.2.2.2.2.cO ba.2 fun b O _=>⟨ab,ab⟩
   rw[JY (aH bK.2)] at aJ;have bu:=ba.2.size;have b6:∀b,(aN.heap.size<b∧b<X.heap.size)→Z.heap[b]?=X.heap[b]?:=fun b O=>(ba.2.block b ab ab).trans ((bL.2.1.block b ab ab).trans (bM.2.2.1.block b O.2 ab));have ev:∀b,(aN.heap.size<b∧b<X.heap.size)→au Z b:=fun b O=>by show b<Z.heap.size;omega
   exact⟨⟨eo,en,es,m,a1,aZ,aU,bi,a2,aC,b9,bT,I,k,az⟩,rfl,⟨D.aF ev _ _ (D.aN b6 _ _ aP.2.2.1),D.aF ev _ _ (D.aN b6 _ _ aP.2.2.2.1),(aP.2.2.2.2.1.aj b6).mono ev,aP.2.2.2.2.2,aJ.sl (fun b aw O=>aw) (fun b aw O=>aw),aJ.cap.1⟩,ba.1⟩
 ):p:=h
theorem fK(h:p:=by
 go_upto_region 5 with(fail);generalize hV:World.drew (World.alloc _ _)=V;have bf:Ext w V:=hV▸(br.1.alloc _).drew;have bV:af V aN.heap.size 62 #[.int .i64 x.op,.int .i64 x.target,.bool x.c8,.int .i64 eo,.int .i64 en,.string es,.slice EA em ec,.bool x.place.param,.int .i64 x.place.index,.slice QA qm qc,.slice cN j cy,.slice KA cK kc]:=hV▸Ko;have z:af V (w.heap.size+2) 62 #[.int .i64 0,.int .i64 0,.bool false,.int .i64 0,.int .i64 0,.string ⟨#[]⟩,.slice none 0 0,.bool false,.int .i64 0,.slice none 0 0,.slice none 0 0,.slice none 0 0]:=hV▸br.2.ak ((Fr.refl _ aN).alloc _).drew;have cM:=bV.lt;have cc:=bw bf bV z (ax.2.2.2.2.1.on bf);clear hV bf z a0 ap ak cz b5 bE cx H bR bY cP cQ cR cG cH c0 c1 bs;obtain⟨a0,ap,ak⟩:=bV.two;clear bV;refine eE (fun _=>False) [(0,3),(1,0),(3,3),(4,0),(6,3),(7,0),(2,1),(9,3),(5,1),(8,2),(10,2),(11,3),(12,2),(13,3),(14,2)] ?_;refine pf ?_;refine ph ?_;refine pf ?_;refine ph ?_;refine pf ?_;refine ph ?_;refine aK rfl (fun K hK=>?_);go_simp;refine(x5 x.expr _ eo en es EA em ec (D.on cc.2.2.2.expr (Fr.ext (Fr.refl _ V).drew))).mono ?_;rintro e aO ⟨m,a1,aZ,rfl,b0,bI⟩;have aE:=ai (Fr.aO bI) b0;refine dW hK (bI) ?_;clear hK K;refine pf ?_;clear b0 bI;refine aK rfl (fun K hK=>?_);go_simp;refine(pH x.place aO QA qm qc (D.on cc.2.2.2.place (Fr.ext aE.1))).mono ?_;rintro e bU ⟨aU,bi,a2,rfl,ch,bX⟩;have ao:=ai bX ch;refine dW hK (bX) ?_;clear hK K;clear ch bX;refine aq rfl (fun K hK=>?_);go_simp
 refine(pF x.ints (aH bK.1) bU cN j cy ((cc.2.2.2.ints.on (Fr.ext aE.1)).on (Fr.ext ao.1))).mono ?_;rintro e ci ⟨aC,b9,bT,rfl,cA,cn,dj⟩;obtain rfl:b9=j:=by have:=cn.1;simp at this;have:=bK.1;omega
 have bG:=((cc.2.1.ak aE.1).ak ao.1).ak dj;have P:=bw cA cn dj bG;clear cA cn dj a0 ap ak;obtain⟨a0,ap,ak⟩:=bG.two;clear bG;refine eD hK ?_;clear hK K;refine aq rfl (fun K hK=>?_);go_simp;refine eD hK ?_;clear hK K;refine pf ?_;exact u3
 ):p:=h
theorem zX(h:p:=by
 have a5:=ae.lf;have c0:=ae.c0;have c1:=ae.c1;clear aG aS a3 eI bS T;go_upto_region 4 with(fail);refine eE (fun _=>False) [(0,3),(1,0),(2,3),(3,3),(4,3),(5,0),(6,3),(7,3),(8,0),(9,3),(10,3),(11,3),(12,0),(13,3),(14,0),(15,1),(16,2)] ?_;refine pf ?_;refine ph ?_
 iterate 3 refine pf ?_
 refine ph ?_
 iterate 2 refine pf ?_
 refine ph ?_
 iterate 3 refine pf ?_
 refine ph ?_;refine pf ?_;refine ph ?_;refine ru ?_;exact fJ
 ):p:=h
theorem zq(h:p:=by
 have bK:=ai aT J;obtain⟨a6,am,aI⟩:=aY.two;clear bg aF bG aY b8 hT hu hs ac ht hp hx bD cW aV aT J aM bN;go_wp2_with(fail);refine(rl L.o _ _ _).mono ?_;rintro e aN ⟨rfl,aG⟩;have ae:=ad (L.on aG);have aS:Ext w aN:=ax.1.trans aG;have br:=ai aS (ax.2.2.2.1.ak aG);clear a6 am aI L;obtain⟨a0,ap,ak⟩:=(ax.2.1.ak aG).two;have T:=aS.size;have bx:=br.2.lt;have al:pb<aN.heap.size:=ab;have cs:R<aN.heap.size:=ab;have bs:=(aS.cell (j:=gL+f.proc.toNat*5+4) eI fun h=>h).trans ax.2.2.2.2.2.1;have a3:∀j u,_→aN.cell? ⟨R,co+f.pc.toNat*12+j,none⟩=some u:=fun j u bc=>(aS.cell (j:=co+f.pc.toNat*12+j) bS fun h=>h).trans (ax.2.2.2.2.2.2 j u bc);exact zW
 ):p:=h
theorem lA(h:p:=by
 exact zp
 ):p:=h
theorem Aj(h:p:=by
 obtain⟨eo,en,es,EA,em,ec,QA,qm,qc,cN,j,cy,KA,cK,kc⟩:=v;have aT:x.ints.length=j:=by have:=bD.ints.1;simpa using this
 have J:x.places.length=cK:=by have:=bD.places.1;simpa using this
 have cU:j≤200:=ab;have cX:cK≤200:=ab;dsimp only[UV.val,SV.val,IV.val] at aV ⊢;go_enter func34,ntmps34;exact lz
 ):p:=h
theorem fM(h:p:=by
 exact Ai
 ):p:=h
end A1
open A1 in
theorem nN(u:av)(s:ah)(t:Int)(f:an)(Q:c6)(x:ay)(w:World)(p:UV)(q:SV)(h:F4 u s t f Q x w p q) :
  Calls prog 34 #[.agg (p.val u),.agg (q.val s),.int .i64 t] w (E6 w x):=by
 obtain⟨ac,ht,hp,hx,p0,cL,aM,bN,hu,hs⟩:=h;exact fL
abbrev qt:Array Value:=#[.int .i64 0,.int .i64 0,.bool false,.int .i64 0,.int .i64 0,.string ⟨#[]⟩,.slice none 0 0,.bool false,.int .i64 0,.slice none 0 0,.slice none 0 0,.slice none 0 0]
structure SV.Is(q:SV)(w:World)(P:Nat→Prop)(s:ah):Prop where
 at_:l1 w P s q.GA q.gn q.TA q.tn q.HA q.hn
 gc:q.gn≤q.gc
 tc:q.tn≤q.tc
 hc:q.hn≤q.hc
def l2(P:Nat→Prop)(w:World)(s:ah)(b:Bool)(e:Ending)(ac:World):Prop:=∃q:SV,e=.returned (.tuple #[.agg (q.val s),.bool b])∧q.Is ac (fun k=>P k∨(w.heap.size≤k∧k<ac.heap.size)) s∧Ext w ac
theorem SV.Is.ok{q:SV}{w:World}{s:ah}(h:q.Is w P s)(aY:∀b,P b→b<w.heap.size):q.Ok w s:=⟨h.at_.mono aY,h.gc,h.tc,h.hc⟩
theorem SV.Is.mono{q:SV}{w:World}{P bb:Nat→Prop}{s:ah}(h:q.Is w P s)(aY:∀b,P b→bb b):q.Is w bb s:=⟨h.at_.mono aY,h.gc,h.tc,h.hc⟩
theorem SV.Is.aj{q:SV}{w ac:World}{P:Nat→Prop}{s:ah}(h:q.Is w P s)(aj:∀b,P b→ac.heap[b]?=w.heap[b]?):q.Is ac P s:=⟨⟨h.at_.g.aj aj,h.at_.t.aj aj,h.at_.h.aj aj⟩,h.gc,h.tc,h.hc⟩
theorem qy.sv{w:World}{s:ah}{TA HA:Kr}{gc tn tc hn hc:Nat}{xs:List Value}{F1 F2 L S:List Nat}(h:qy w s GA gn gc TA tn tc HA hn hc xs F1 F2 L S)(hl:∀b∈F1++(F2++(L++S)),P b):(⟨GA,gn,gc,TA,tn,tc,HA,hn,hc⟩:SV).Is w P s:=
 ⟨h.at_ hl,h.g.cap,h.t.cap,h.h.cap⟩
namespace A3
theorem zT(h:p:=by
 refine(x7 s bp TA HA bQ a7 tn tc hn hc t W (bu.1.on ax.1).at_ bu.2).mono ?_;rintro e aN ⟨rfl,aG⟩;have f:=ax.2.ak aG;have br:=ai (ax.1.trans aG) f;clear a6 am aI aG;obtain⟨bv,bd,be⟩:=f.two;clear f;go_wp2_with(fail);generalize hX:World.setCell _ _ _=Z;obtain⟨bC,bl,bn⟩:=cb (w:=w) [.int .i64 0,.int .i64 0,.bool false,.int .i64 0,.int .i64 0,.string ⟨#[]⟩,.slice none 0 0,.bool false,.int .i64 0,.slice none 0 0,.slice none 0 0,.slice none 0 0] (by rfl) br.2 br.1 ab hX;have ba:=ad bl;clear hX bl bn bv bd be;obtain⟨bv,bd,be⟩:=bC.two;refine Km (v:=.tuple #[.agg qt,.bool false]) (by simp[results,Tryz.results34,go_sem,bv]) rfl ?_;exact⟨rfl,ba.o⟩
 ):p:=h
theorem lA(h:p:=by
 exact zS
 ):p:=h
theorem fM(h:p:=by
 have bu:=ai hs ht;clear hs ht;dsimp only[UV.val,SV.val];go_enter func34,ntmps34;exact lz
 ):p:=h
end A3
open A3 in
theorem nM(u:av)(s:ah)(t:Int)(w:World)(p:UV)(q:SV)(hs:q.Ok w s)(ht:dE s t=none) :
  Calls prog 34 #[.agg (p.val u),.agg (q.val s),.int .i64 t] w fun e ac=>e=.returned (.tuple #[.agg qt,.bool false])∧Ext w ac:=by
 exact fL
namespace A4
theorem zT(h:p:=by
 refine(yk s bp TA HA bQ a7 tn tc hn hc t W (bu.1.on ax.1).at_ bu.2).mono ?_;rintro e aN ⟨rfl,aG⟩;have f:=ax.2.ak aG;have br:=ai (ax.1.trans aG) f;clear a6 am aI aG f;go_upto_region 2 with(fail);generalize hV:World.alloc _ _=V;have bf:Ext aN V:=hV▸Kn.alloc _;have z:=br.2.ak bf;have cc:=ai (br.1.trans bf) z;obtain⟨bv,bd,be⟩:=z.two;clear hV bf z;go_wp2_with(fail);generalize hX:World.setCell _ _ _=Z;obtain⟨bC,bl,bn⟩:=cb (w:=w) [.int .i64 0,.int .i64 0,.bool false,.int .i64 0,.int .i64 0,.string ⟨#[]⟩,.slice none 0 0,.bool false,.int .i64 0,.slice none 0 0,.slice none 0 0,.slice none 0 0] (by rfl) cc.2 cc.1 ab hX;have ba:=ad bl;clear hX bl bn bv bd be;obtain⟨bv,bd,be⟩:=bC.two;refine Km (v:=.tuple #[.agg qt,.bool false]) (by simp[results,Tryz.results29,go_sem,bv]) rfl ?_;exact⟨rfl,ba.o⟩
 ):p:=h
theorem lA(h:p:=by
 exact zS
 ):p:=h
theorem fM(h:p:=by
 have bu:=ai hs ht;clear hs ht;dsimp only[UV.val,SV.val];go_enter func29,ntmps29;exact lz
 ):p:=h
end A4
open A4 in
theorem kz(u:av)(s:ah)(t:Int)(w:World)(p:UV)(q:SV)(hs:q.Ok w s)(ht:dE s t=none) :
  Calls prog 29 #[.agg (p.val u),.agg (q.val s),.int .i64 t] w fun e ac=>e=.returned (.tuple #[.agg qt,.bool false])∧Ext w ac:=by
 exact fL
namespace A5
theorem r2(h:p:=by
 have ax:=aQ aF aL b8;obtain⟨a6,am,aI⟩:=aL.two;clear bg aF aL b8;go_upto_region 2 with(fail);generalize hX:World.setCell _ _ _=X;obtain⟨bH,aD⟩:=q8 3 [.int .i64 z] ax.2.1 hX;have bP:af X w.heap.size 30 #[.slice bp bQ a7,.slice TA tn tc,.slice HA hn hc,.int .i64 z]:=by simpa[j5] using bH
 have b3:=ax.2.2.on aD ab;have bo:Ext w X:=Fr.low (M:=fun b=>b=w.heap.size) (Fr.trans (Fr.mono ax.1 fun _ h=>h.elim) aD) fun b O=>ab;have aP:=ai bo b3;clear hX bH aD a6 am aI bo;obtain⟨a6,am,aI⟩:=bP.two;obtain⟨bv,bd,be⟩:=b3.two;clear bP b3;go_wp2_with(fail);generalize hX:World.setCell _ _ _=Z;obtain⟨bC,bl,bn⟩:=cb (w:=w) [.slice bp bQ a7,.slice TA tn tc,.slice HA hn hc,.int .i64 z] (by rfl) aP.2 aP.1 ab hX;have ba:=ad bl;clear hX bl bn bv bd be a6 am aI;obtain⟨bv,bd,be⟩:=bC.two;refine Km (v:=.tuple #[.agg #[.slice bp bQ a7,.slice TA tn tc,.slice HA hn hc,.int .i64 z],.bool true]) (by simp[results,Tryz.results49,go_sem,bv]) rfl ?_;have a8:=bu.1.aj (ac:=Z) fun b O=>ba.block b (bu.2 b O) fun h=>h;exact⟨⟨bp,bQ,a7,TA,tn,tc,HA,hn,hc⟩,rfl,SV.Is.mono ⟨⟨a8.at_.g,a8.at_.t,a8.at_.h⟩,a8.gc,a8.tc,a8.hc⟩ fun b O=>.inl O,ba.o⟩
 ):p:=h
theorem g7(h:p:=by
 have aL:af W w.heap.size 30 #[.slice bp bQ a7,.slice TA tn tc,.slice HA hn hc,.int .i64 s.fault]:=bg▸(Ko).alloc _;exact r0
 ):p:=h
end A5
open A5 in
theorem oB(P:Nat→Prop)(s:ah)(q:SV)(z:Int)(w:World)(h:q.Is w P s)(aY:∀b,P b→b<w.heap.size):Calls prog 49 #[.agg (q.val s),.int .i64 z] w (l2 P w {s with fault:=z} true):=by
 obtain⟨bp,bQ,a7,TA,tn,tc,HA,hn,hc⟩:=q;have bu:=ai h aY;clear h aY;dsimp only[SV.val];go_enter func49,ntmps49;exact g6
theorem HI(c d:Value)(O hn hc b2 n fc:Nat)(t:Int)(w:World)(h0:0≤t)(aw:t<hn)(cY:O<w.heap.size)(aV:w.cell? ⟨O,t.toNat,none⟩=some (.slice (some ⟨b2,0,none⟩) (n+1) fc))(aT:n≤1000000) :
  Calls prog 57 #[.agg #[c,d,.slice (some ⟨O,0,none⟩) hn hc,.int .i64 0],.int .i64 t] w fun e ac=>e=.returned (.pointer (some ⟨b2,n*4,none⟩))∧Ext w ac:=by
 have:=xg c d O 0 hn hc b2 0 n fc t w h0 aw cY (by rw[J8];exact aV) aT
 rwa [J8] at this
theorem kZ{s:ah}{bP:an}(h:s.threads[t.toNat]?=some (fs++[f])):bH s t bP={s with threads:=s.threads.set t.toNat (fs++[bP])}:=by
 unfold bH;rw[kW h,kh]
structure fi(B:Nat)(w:World)(s:ah)(r:Nat)(q:SV)(xs:List Value)(F1 F2 L S:List Nat):Prop where
 st:qy w s q.GA q.gn q.gc q.TA q.tn q.tc q.HA q.hn q.hc xs F1 F2 L S
 o:af w r 30 (q.val s)
 ne:r∉F1++(F2++(L++S))
 lo:∀b∈F1++(F2++(L++S)),B≤b∧b<w.heap.size
 go:B≤r
section
variable {B:Nat} {w ac:World} {s:ah} {r:Nat} {q:SV} {xs:List Value} {F1 F2 L S:List Nat}
theorem fi.ak(h:fi B w s r q xs F1 F2 L S)(he:Ext w ac):fi B ac s r q xs F1 F2 L S:=
 ⟨h.st.aj fun b O=>he.block b (h.lo b O).2 fun h=>h,h.o.ak he,h.ne,fun b O=>⟨(h.lo b O).1,JR (h.lo b O).2 he.size⟩,h.go⟩
theorem fi.cO{M:Nat→Prop}(h:fi B w s r q xs F1 F2 L S)(he:Fr M w ac)(hM:∀b,M b→b<B):fi B ac s r q xs F1 F2 L S:=
 ⟨h.st.aj fun b O=>he.block b (h.lo b O).2 fun hm=>by have:=hM b hm;have:=(h.lo b O).1;omega,h.o.on he (fun hm=>by have:=hM r hm;have:=h.go;omega),h.ne,fun b O=>⟨(h.lo b O).1,JR (h.lo b O).2 he.size⟩,h.go⟩
theorem fi.store(h:fi B w s r q xs F1 F2 L S){aV:ah}{p:Addr}{u:Value}(hp:p.block∈F1++(F2++(L++S)))(a5:qy (w.setCell p u) aV q.GA q.gn q.gc q.TA q.tn q.tc q.HA q.hn q.hc xs F1 F2 L S)(aD:aV.fault=s.fault):fi B (w.setCell p u) aV r q xs F1 F2 L S:=by
 refine⟨a5,?_,h.ne,fun b O=>⟨(h.lo b O).1,by simpa[World.setCell] using (h.lo b O).2⟩,h.go⟩;have:=h.o.IP (p:=p) (fun he=>h.ne (he▸hp)) u;unfold SV.val at this ⊢
 rwa [aD]
theorem fi.ok(h:fi B w s r q xs F1 F2 L S):q.Is w (fun b=>B≤b∧b<w.heap.size) s:=(show (⟨q.GA,q.gn,q.gc,q.TA,q.tn,q.tc,q.HA,q.hn,q.hc⟩:SV).Is w _ s from h.st.sv h.lo)
structure Hj(B:Nat)(w:World)(s:ah)(r:Nat)(q:SV)(xs:List Value)(F1 F2 L S:List Nat)(t:Int)(fs:List an)(f:an)(b2:Nat)(IA:Kr)(i ic:Nat)(bj:Kr)(l lc:Nat):Prop where
 oz:fi B w s r q xs F1 F2 L S
 lt:b2<w.heap.size
 c0:w.cell? ⟨b2,fs.length*4,none⟩=some (.int .i64 f.proc)
 c1:w.cell? ⟨b2,fs.length*4+1,none⟩=some (.int .i64 f.pc)
 c2:w.cell? ⟨b2,fs.length*4+2,none⟩=some (.slice IA i ic)
 c3:w.cell? ⟨b2,fs.length*4+3,none⟩=some (.slice bj l lc)
 fz:∀j,w.frozen? ⟨b2,j,none⟩=false
 ne:b2≠r
 ge:B≤b2
 hd:∃O fc,q.HA=some ⟨O,0,none⟩∧t.toNat<q.hn∧O<w.heap.size∧O≠b2∧O≠r∧B≤O∧(∀j,w.frozen? ⟨O,j,none⟩=false)∧w.cell? ⟨O,t.toNat,none⟩=some (.slice (some ⟨b2,0,none⟩) (fs.length+1) fc)∧fs.length+1≤fc
 pc:∀v,fi B (w.setCell ⟨b2,fs.length*4+1,none⟩ (.int .i64 v)) {s with threads:=s.threads.set t.toNat (fs++[{f with pc:=v}])} r q xs F1 F2 L S
 ints:∀j v,j<i→∃H,IA=some ⟨H,0,none⟩∧H<w.heap.size∧w.frozen? ⟨H,j,none⟩=false∧(∃u,w.cell? ⟨H,j,none⟩=some u)∧H≠r∧B≤H∧fi B (w.setCell ⟨H,j,none⟩ (.int .i64 v)) {s with threads:=s.threads.set t.toNat (fs++[{f with ints:=f.ints.set j v}])} r q xs F1 F2 L S
theorem fi.HV(a8:fi B w s r q xs F1 F2 L S)(bm:s.threads[t.toNat]?=some (fs++[f])){O b2 fc i ic lc:Nat}{IA:Kr}(sj:q.HA=some ⟨O,0,none⟩)
  (hc:w.cell? ⟨O,t.toNat,none⟩=some (.slice (some ⟨b2,0,none⟩) (fs.length+1) fc)) (c2:w.cell? ⟨b2,fs.length*4+2,none⟩=some (.slice IA i ic)) (c3:w.cell? ⟨b2,fs.length*4+3,none⟩=some (.slice bj l lc)) :
  Hj B w s r q xs F1 F2 L S t fs f b2 IA i ic bj l lc:=by
 have bq:∀b,b∈S→b∈F1++(F2++(L++S)):=fun b O=>by simp[O]
 have cH:∀b,b∈L→b∈F1++(F2++(L++S)):=fun b O=>by simp[O]
 obtain⟨aW,bt,cM,a,p,cE,aY,aV,bg,e,n,cQ,m,bE,c,K,aL,G,h,d0,d1,d2,d3,k,g,o,d,_⟩:=a8.st.top bm;have e1:=sj.symm.trans e;injection e1 with e1;injection e1 with e1 _;subst e1;have e2:=hc.symm.trans G;injection e2 with e2;injection e2 with e2 _ e3;injection e2 with e2;injection e2 with e2 _;subst e2 e3;have bs:=c2.symm.trans d2;injection bs with bs;injection bs with bs cG bG;subst bs cG bG;have e7:=c3.symm.trans d3;injection e7 with e7;injection e7 with e7 e8 e9;subst e7 e8 e9;refine⟨a8,m,d0,d1,d2,d3,g,fun he=>a8.ne (he▸bq _ c),(a8.lo _ (bq _ c)).1,⟨O,fc,e,n,cQ,?_,fun he=>a8.ne (he▸cH _ bE),(a8.lo _ (cH _ bE)).1,k,G,h⟩,fun v=>a8.store (bq _ c) (o v) rfl,fun j v bc=>?_⟩
 ·intro he;subst he;have nd:=a8.st.nd;have n1:=(List.nodup_append.1 nd).2.1;have n2:=(List.nodup_append.1 n1).2.1;exact(List.nodup_append.1 n2).2.2 O bE O c rfl
 ·obtain⟨H,dr,aM,dy,Q,aA,a5⟩:=d j v bc;exact⟨H,dr,aM,Q,aA,fun he=>a8.ne (he▸bq _ dy),(a8.lo _ (bq _ dy)).1,a8.store (bq _ dy) a5 rfl⟩
theorem fi.top(h:fi B w s r q xs F1 F2 L S){t:Int}{fs:List an}{f:an}(bm:s.threads[t.toNat]?=some (fs++[f]))(h0:0≤t)(bu:s.fault=0)(aT:fs.length≤1000000) :
  ∃b2 IA i ic bj l lc,i=f.ints.length∧l=f.aw.length∧
   (∀ac,Ext w ac→Calls prog 57 #[.agg (q.val s),.int .i64 t] ac fun e j=>e=.returned (.pointer (some ⟨b2,fs.length*4,none⟩))∧Ext ac j)∧
   ∀ac,Ext w ac→Hj B ac s r q xs F1 F2 L S t fs f b2 IA i ic bj l lc:=by
 obtain⟨O,b2,fc,IA,i,ic,bj,l,lc,sj,J,aX,ch,az,bI,al,hl,hc,F,c0,c1,c2,c3,bK,a,cW,hints,_⟩:=h.st.top bm;refine⟨b2,IA,i,ic,bj,l,lc,al,hl,fun ac he=>?_,fun ac he=>?_⟩
 ·have:=HI (.slice q.GA q.gn q.gc) (.slice q.TA q.tn q.tc) O q.hn q.hc b2 fs.length fc t ac h0 ab (JR aX he.size) ((he.cell aX fun h=>h).trans hc) aT;unfold SV.val;rw[sj,bu];exact this
 ·exact(h.ak he).HV bm sj ((he.cell aX fun h=>h).trans hc) ((he.cell ch fun h=>h).trans c2) ((he.cell ch fun h=>h).trans c3)
theorem fi.c8(h:fi B w s r q xs F1 F2 L S){j:Nat}(bc:j<q.gn):∃aB,q.GA=some ⟨aB,0,none⟩∧aB<w.heap.size∧w.frozen? ⟨aB,j,none⟩=false∧(∃u,w.cell? ⟨aB,j,none⟩=some u)∧aB≠r∧B≤aB∧
  ∀v,fi B (w.setCell ⟨aB,j,none⟩ (.int .i64 v)) {s with globals:=s.globals.set j v} r q xs F1 F2 L S:=by
 obtain⟨aB,hG,hl,aD,hc,hm,a5⟩:=h.st.c8 bc;have cQ:aB∈F1++(F2++(L++S)):=by simp[hm]
 exact⟨aB,hG,hl,aD,hc,fun he=>h.ne (he▸cQ),(h.lo _ cQ).1,fun v=>h.store cQ (a5 v) rfl⟩
end
end Go.Proofs.YtbkhhfajcgkpgaaGreat

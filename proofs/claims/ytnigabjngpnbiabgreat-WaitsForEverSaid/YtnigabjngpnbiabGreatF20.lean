/- Part 20 of the proof. No condition of its own. -/
import Derived.Test.YtnigabjngpnbiabGreatF18
import Derived.Test.YtnigabjngpnbiabGreatF19
namespace Go.Proofs.YtnigabjngpnbiabGreat
open Go.RowKit Go.Proofs.Tryz
set_option maxRecDepth 1000000
set_option maxHeartbeats 25600000
set_option linter.unusedVariables false
variable{nl t:Int}{p:Prop}{w:World}{x:aA}{s:ai}{f:ao}{u:aw}{pl:bO}
theorem iO(h:dF s t=some f):yJ u s t pl=bH u s f pl:=by unfold yJ;rw[h]
theorem sa(h:pl.param=true):bH u s f pl=(f.az.getD pl.index.toNat 0,0):=by unfold bH;rw[if_pos h]
theorem zA(h:pl.param=false)(J:(c6 u s f pl).2≠0):bH u s f pl=(0,(c6 u s f pl).2):=by unfold bH;rw[if_neg (by simp[h]),if_pos J]
theorem ql(h:pl.param=false)(J:(c6 u s f pl).2=0):bH u s f pl=(e6 u.af pl.index+(c6 u s f pl).1,0):=by unfold bH;rw[if_neg (by simp[h]),if_neg ad]
theorem ER{nk:Int}(hU:cT u)(hF:cf u f)(aj:nk<=f.az.length)(hx:cK (bg u) nl nk pl)(h:pl.param=false)(J:(c6 u s f pl).2=0):
  0<=e6 u.af pl.index+(c6 u s f pl).1/\e6 u.af pl.index+(c6 u s f pl).1<=5000:=by
 have ac:=(jN (s:=s) hU hF aj hx).2;rw[ql h J] at ac;have:=mm hU;have:=ac rfl;simp only at this;omega
theorem FB{bC:NH}{l:Nat}(hx:cK (bg u) nl f.az.length pl)(h:pl.param=true)(hl:Sl w (av w) bC l (f.az.map D.i)):
  0<=pl.index/\pl.index<l/\∃b o,bC=some ⟨b,o,none⟩/\b<w.heap.size/\w.cell? ⟨b,o+pl.index.toNat,none⟩=some (.int .i64 (f.az.getD pl.index.toNat 0)):=by
 rcases hx with⟨_,ac,az,_⟩|⟨ac,_⟩
 .have hn:=hl.1;rw[M5] at hn;obtain⟨b,o,x,bF,O,hx,hc⟩:=hl.ints.int (k:=pl.index.toNat) ad;refine⟨ac,ad,b,o,bF,O,?_⟩;rw[List.getD_eq_getElem?_getD,hx];exact hc
 .rw[h] at ac;cases ac
structure Kc(u:aw)(s:ai)(t:Int)(f:ao)(pl:bO)(N:Nat)(w:World)(p:UV)(q:SV)(QA:NH)(qm qc:Nat):Prop where
 hU:cT u
 hS:aP u N s
 sm:Small s
 ht:dF s t=some f
 hx:∃cq,u.procs[f.proc.toNat]?=some cq/\cK (bg u) cq.locals cq.az pl
 u:p.Ok w u
 s:q.Ok w s
 pl:(dg pl).rep w (av w) [.bool pl.param,.int .i64 pl.index,.slice QA qm qc]
theorem cf.tJ{cq:cR}(hF:cf u f)(hp:u.procs[f.proc.toNat]?=some cq):(f.az.length:Int)=cq.az:=by
 obtain⟨p,h,_,_,az⟩:=hF.ex;rw[hp] at h;injection h with h;rw[h];exact az
namespace DI
theorem BZ(h:p:=by
 clear k ar m a7 bn a0 ak af bs am aK d0 aQ aS c2 c3;obtain⟨a0,ak,af⟩:=((al.2.1.aj a8.1).aj a8.2).two;obtain⟨d0,aQ,aS⟩:=((al.2.2.2.1.aj a8.1).aj a8.2).two;refine dY hK ?_;clear hK K
 iterate 5 refine pf ?_
 refine aG ?_;by_cases aI:z=0
 .have q5:(z != 0)=false:=by simpa using aI
  have aY:=bH.1 aI;have I:=ae (bH.2.2 aI);subst aI;generalize aT:e6 u.af pl.index=B at *;have bL:=ae aT;clear aT bH;go_wp2_with(fail);refine(EE MA mn mc u.af pl.index aW ((al.2.2.2.2.1.on a8.1).on a8.2).at_.m.tO aP.1.Gq bR).mono ?_;rintro e b6 ⟨rfl,cd⟩;rw[bL.o];have a4:=ae (((al.1.trans a8.1).trans a8.2).trans (Fr.of cd));clear cd a0 ak af d0 aQ aS;go_wp2
  go_ret2
  exact gx.mk' I.o (Fr.ext a4.o)
 .have q5:(z != 0)=true:=by simpa using aI
  have I:=ae (bH.2.1 aI);clear aI bH;go_wp2_with(fail)
  go_ret2
  exact gx.mk' I.o (Fr.ext ((al.1.trans a8.1).trans a8.2))
 ):p:=h
theorem By(h:p:=by
 refine(lH Q.o _ _ _).mono ?_;rintro e aO ⟨rfl,aM⟩;have ab:=ae (Q.on aM);have bw:=ae aM;clear a0 ak af bs am aK d0 aQ aS;obtain⟨a0,ak,af⟩:=(al.2.1.aj aM).two;obtain⟨bs,am,aK⟩:=(al.2.2.1.aj aM).two;obtain⟨d0,aQ,aS⟩:=(al.2.2.2.1.aj aM).two;have cH:=ab.lf;have c2:=ab.c2;have c3:=ab.c3;clear aM Q
 cases j:pl.param with
 | true=>
  rw[j] at d0;obtain⟨cl,cO,lb,lo,rfl,bu,bo⟩:=FB aP.2.2.2.2.2 j ab.az;have aj:=sa (u:=u) (s:=s) (f:=f) j;generalize hV:f.az.getD pl.index.toNat 0=V at *;have a3:=ae aj;have q1:decide (pl.index<0)=false:=by simp;omega
  have cL:decide (pl.index>=l)=false:=by simp;omega
  clear aj hV;go_upto_region 5 with(fail);refine eJ (λ_=>False) [(0,3),(1,0),(2,3),(3,3),(4,3),(5,0),(6,3),(7,3),(8,3),(9,0),(10,3),(11,3),(12,3)] ?_;refine pf ?_;refine ph ?_
  iterate 3 refine pf ?_
  refine ph ?_
  iterate 3 refine pf ?_
  refine ph ?_
  iterate 3 refine pf ?_
  refine aG ?_;go_upto_region 7 with(fail);refine eJ (λ_=>False) [(0,3),(1,3),(2,3),(3,0),(4,3),(5,0),(6,3),(7,0),(8,3),(9,3)] ?_
  iterate 3 refine pf ?_
  refine bS (v:=?_) rfl (by rfl) (λV hV=>?_) ?_;rotate_left
  .obtain⟨hVc,hVf⟩:=Fr.jF hV
   (go_simp<;>with_reducible rfl)
  try simp only[PU]
  refine pf ?_;refine bS (v:=?_) rfl (by rfl) (λV hV=>?_) ?_;rotate_left
  .obtain⟨hVc,hVf⟩:=Fr.jF hV
   (go_simp<;>with_reducible rfl)
  try simp only[PU]
  refine pf ?_;refine bS (v:=?_) rfl (by rfl) (λV hV=>?_) ?_;rotate_left
  .obtain⟨hVc,hVf⟩:=Fr.jF hV
   (go_simp<;>with_reducible rfl)
  try simp only[PU]
  iterate 2 refine pf ?_
  refine aG ?_;go_wp2_with(fail)
  go_ret2
  exact gx.mk' a3.o (Fr.ext ((al.1.trans bw.o).drew.drew))
 | false=>
  rw[j] at d0;go_upto_region 8 with(fail);refine eJ (λ_=>False) [(0,0),(1,3),(2,0),(3,3),(4,0),(5,3),(6,3),(7,3),(8,0),(9,2),(10,3),(11,3),(12,3),(13,3),(14,3)] ?_;refine ph ?_;refine pf ?_;refine ph ?_;refine pf ?_;refine ph ?_
  iterate 3 refine pf ?_
  refine ph ?_;refine au rfl (λK hK=>?_);go_simp;have a7:Ext W aO.drew:=bw.drew;refine(Ju (u:=u) (s:=s) (f:=f) (pl:=pl) aP.1 aP.2.1 aP.2.2.1 aP.2.2.2.1 aP.2.2.2.2.1 j (al.2.2.2.2.1.on a7).at_.m (al.2.2.2.2.2.1.on a7).at_.g (ab.on NC.drew).ints (D.on al.2.2.2.2.2.2 (Fr.ext a7))).mono ?_;rintro e aW ⟨rfl,bn⟩;have a8:=ah a7 (Fr.of (M:=λ_=>False) bn);exact BY
 ):p:=h
theorem Cr(h:p:=by
 have bR:=hu.mc;simp only at bR;have aP:=dH hU hS hF hp hx o;dsimp only[UV.val,SV.val];go_enter func52,ntmps52;exact Bx
 ):p:=h
theorem fP(h:p:=by
 exact Cq
 ):p:=h
end DI
open DI in
theorem qF(u:aw)(s:ai)(t:Int)(f:ao)(pl:bO)(N:Nat)(w:World)(p:UV)(q:SV)(QA:NH)(qm qc:Nat)(h:Kc u s t f pl N w p q QA qm qc) :
  Calls prog 52 #[.agg (p.val u),.agg (q.val s),t,.agg #[.bool pl.param,.int .i64 pl.index,.slice QA qm qc]] w (gx w (yJ u s t pl)):=by
 obtain⟨hU,hS,aY,ht,⟨cq,hp,hx⟩,hu,hs,bv⟩:=h;exact fO
namespace DJ
theorem BZ(h:p:=by
 clear k ar m bn a0 ak af bs am aK d0 aQ aS e0 a6 ag;obtain⟨a0,ak,af⟩:=((al.2.1.aj a8.1).aj a8.2).two;obtain⟨d0,aQ,aS⟩:=((al.2.2.2.1.aj a8.1).aj a8.2).two;by_cases aI:z=0
 .have q5:(z != 0)=false:=by simpa using aI
  have aY:=bH.1 aI;have I:=ae (bH.2.2 aI);subst aI;generalize aT:e6 u.af pl.index=B at *;have bL:=ae aT;clear aT bH;go_wp2_with(fail);refine(vA MA mn mc u.af pl.index aW ((al.2.2.2.2.1.on a8.1).on a8.2).at_.m.tO aP.1.Gq).mono ?_;rintro e b6 ⟨rfl,cd⟩;rw[bL.o];have a4:=ae (((al.1.trans a8.1).trans a8.2).trans (Fr.of cd));clear cd a0 ak af d0 aQ aS;go_wp2
  go_ret2
  exact gx.mk' I.o (Fr.ext a4.o)
 .have q5:(z != 0)=true:=by simpa using aI
  have I:=ae (bH.2.1 aI);clear aI bH;go_wp2_with(fail)
  go_ret2
  exact gx.mk' I.o (Fr.ext ((al.1.trans a8.1).trans a8.2))
 ):p:=h
theorem By(h:p:=by
 refine(od Q.o _ _ _).mono ?_;rintro e aO ⟨rfl,aM⟩;have ab:=ae (Q.on aM);have bw:=ae aM;clear a0 ak af bs am aK d0 aQ aS aM Q;obtain⟨a0,ak,af⟩:=(al.2.1.aj bw.o).two;obtain⟨bs,am,aK⟩:=(al.2.2.1.aj bw.o).two;obtain⟨d0,aQ,aS⟩:=(al.2.2.2.1.aj bw.o).two
 cases j:pl.param with
 | true=>
  rw[j] at d0;obtain⟨cl,cO,lb,lo,rfl,bu,bo⟩:=FB aP.2.2.2.2.2 j ab.az;have aj:=sa (u:=u) (s:=s) (f:=f) j;generalize hV:f.az.getD pl.index.toNat 0=V at *;have a3:=ae aj;clear aj hV;go_wp2_with(fail)
  go_ret2
  exact gx.mk' a3.o (Fr.ext ((al.1.trans bw.o).alloc _))
 | false=>
  rw[j] at d0;go_upto_region 4 with(fail);generalize hV:World.alloc _ _=V;have aC:=aX hV;have L:=aL hV;have a7:Ext W V:=bw.trans aC;have cc:=ah a7 aC;clear hV a7 a0 ak af bs am aK d0 aQ aS;obtain⟨a0,ak,af⟩:=(al.2.1.aj cc.1).two;obtain⟨bs,am,aK⟩:=(al.2.2.1.aj cc.1).two;obtain⟨d0,aQ,aS⟩:=(al.2.2.2.1.aj cc.1).two;obtain⟨e0,a6,ag⟩:=L.two;rw[j] at d0;clear aC L;go_wp2_with(fail);refine(JH (u:=u) (s:=s) (f:=f) (pl:=pl) aP.1 aP.2.1 aP.2.2.1 aP.2.2.2.1 aP.2.2.2.2.1 j (al.2.2.2.2.1.on cc.1).at_.m (al.2.2.2.2.2.1.on cc.1).at_.g (ab.on cc.2).ints (D.on al.2.2.2.2.2.2 (Fr.ext cc.1))).mono ?_;rintro e aW ⟨rfl,bn⟩;have a8:=ah cc.1 (Fr.of (M:=λ_=>False) bn);exact BY
 ):p:=h
theorem Cr(h:p:=by
 have aP:=dH hU hS hF hp hx o;dsimp only[UV.val,SV.val];go_enter func90,ntmps90;exact Bx
 ):p:=h
theorem fP(h:p:=by
 exact Cq
 ):p:=h
end DJ
open DJ in
theorem q3(u:aw)(s:ai)(t:Int)(f:ao)(pl:bO)(N:Nat)(w:World)(p:UV)(q:SV)(QA:NH)(qm qc:Nat)(h:Kc u s t f pl N w p q QA qm qc) :
  Calls prog 90 #[.agg (p.val u),.agg (q.val s),t,.agg #[.bool pl.param,.int .i64 pl.index,.slice QA qm qc]] w (gx w (yJ u s t pl)):=by
 obtain⟨hU,hS,aY,ht,⟨cq,hp,hx⟩,hu,hs,bv⟩:=h;exact fO
structure IV where
 eo:Int
 en:Int
 es:ByteArray
 EA:Option Addr
 em:Nat
 ec:Nat
 QA:Option Addr
 qm:Nat
 qc:Nat
 IA:Option Addr
 i:Nat
 ic:Nat
 KA:Option Addr
 k:Nat
 kc:Nat
abbrev IV.val(v:IV)(x:aA):Array Value:=#[.int .i64 x.op,.int .i64 x.target,.bool x.du,.int .i64 v.eo,.int .i64 v.en,.string v.es,.slice v.EA v.em v.ec,.bool x.place.param,.int .i64 x.place.index,.slice v.QA v.qm v.qc,.slice v.IA v.i v.ic,.slice v.KA v.k v.kc]
structure IV.Ok(v:IV)(w:World)(x:aA):Prop where
 expr:(o9 x.expr).rep w (av w) [.int .i64 v.eo,.int .i64 v.en,.string v.es,.slice v.EA v.em v.ec]
 place:(dg x.place).rep w (av w) [.bool x.place.param,.int .i64 x.place.index,.slice v.QA v.qm v.qc]
 ints:Sl w (av w) v.IA v.i (x.ints.map bo)
 Jo:v.i<=v.ic
 places:Sl w (av w) v.KA v.k (x.places.map dg)
 Js:v.k<=v.kc
theorem IV.Ok.on{v:IV}{w ab:World}{x:aA}(h:v.Ok w x)(he:Ext w ab):v.Ok ab x:=
 ⟨D.on h.expr (Fr.ext he),D.on h.place (Fr.ext he),h.ints.on (Fr.ext he),h.Jo,h.places.on (Fr.ext he),h.Js⟩
def HO(w:World)(x:aA)(e:Ending)(ab:World):Prop:=∃v:IV,e=.returned (.tuple #[.agg (v.val x),.bool true])/\v.Ok ab x/\Ext w ab
theorem vf{cq:cR}(h:dF s t=some f)(hp:u.procs[f.proc.toNat]?=some cq)(hx:cq.code[f.pc.toNat]?=some x):dC u s t=some x:=by
 unfold dC;rw[h];simp only[Option.bind_some,hp,hx]
structure Gy(u:aw)(s:ai)(t:Int)(f:ao)(cq:cR)(x:aA)(w:World)(p:UV)(q:SV):Prop where
 sm:Small s
 ht:dF s t=some f
 hp:u.procs[f.proc.toNat]?=some cq
 hx:cq.code[f.pc.toNat]?=some x
 p0:0<=f.proc
 c0:0<=f.pc
 il:x.ints.length<=200
 kl:x.places.length<=200
 u:p.Ok w u
 s:q.Ok w s
theorem h3.code{GA MA PA:NH}{gn mn pn:Nat}(h:h3 w (av w) u GA gn MA mn PA pn){cq:cR}(hp:u.procs[f.proc.toNat]?=some cq)(hx:cq.code[f.pc.toNat]?=some x)(p0:0<=f.proc)(c0:0<=f.pc):
  ∃b o aq co n c,∃v:IV,PA=some ⟨b,o,none⟩/\b<w.heap.size/\f.proc<pn/\w.cell? ⟨b,o+f.proc.toNat*5+4,none⟩=some (.slice (some ⟨aq,co,none⟩) n c)/\aq<w.heap.size/\f.pc<n/\v.Ok w x/\∀j u,(v.val x)[j]?=some u->w.cell? ⟨aq,co+f.pc.toNat*12+j,none⟩=some u:=by
 have ac:=(List.getElem?_eq_some_iff.1 hp).1;have az:=(List.getElem?_eq_some_iff.1 hx).1;have bo:=h.p.1;rw[M5] at bo;obtain⟨b,o,dq,S,n,c,rfl,O,cU,_,_,_,_,hc,aQ,hs⟩:=h.proc (k:=f.proc.toNat) ad;rw[hp] at cU;injection cU with cU;subst cU;have cD:=hs.1;rw[M5] at cD;obtain⟨aq,co,d,cs,eo,en,es,EA,em,ec,QA,qm,qc,IA,i,ic,KA,m,mc,rfl,R,g,aN,bi⟩:=hs.Fe (k:=f.pc.toNat) ad;rw[hx] at g;injection g with g;subst g;refine⟨b,o,aq,co,n,c,⟨eo,en,es,EA,em,ec,QA,qm,qc,IA,i,ic,KA,m,mc⟩,rfl,O,ad,hc,R,ad,⟨aN.expr,aN.place,aN.ints,aN.Jo,aN.places,aN.Js⟩,λj u hu=>bi j u ?_⟩;rw[aN.cells];simpa using hu
namespace DK
theorem Cd(h:p:=by
 clear hV aC L a7 J z bu bl R T;go_upto_region 4 with(fail);refine eJ (λ_=>False) [(0,3),(1,0),(2,3),(3,0),(4,3),(5,3),(6,0),(7,3),(8,0),(9,3),(10,0),(11,2),(12,3)] ?_;refine pf ?_;refine ph ?_;refine pf ?_;refine ph ?_
 iterate 2 refine pf ?_
 refine ph ?_;refine pf ?_;refine ph ?_;refine pf ?_;refine ph ?_;refine au rfl (λK hK=>?_);go_simp;refine dY hK ?_;clear hK K;refine pf ?_;refine aG ?_;generalize hX:World.setCell _ _ _=X;obtain⟨bE,bt,ct⟩:=a9 (w:=w) [.int .i64 x.op,.int .i64 x.target,.bool x.du,eo,en,es,.slice EA em ec,.bool x.place.param,.int .i64 x.place.index,.slice QA qm qc,.slice dl j dh,.slice KA k kc] (by rfl) cc.2.1 cc.1 ad hX;have aP:=ae bt;clear hX bt ct a0 ak af d0 aQ aS bq a1 a5 cZ cw bR cS H bS cM cm cp cv ca cb b3;obtain⟨bq,a1,a5⟩:=bE.two;clear bE;go_wp2_with(fail);refine NB (v:=.tuple #[.agg #[.int .i64 x.op,.int .i64 x.target,.bool x.du,eo,en,es,.slice EA em ec,.bool x.place.param,.int .i64 x.place.index,.slice QA qm qc,.slice dl j dh,.slice KA k kc],true]) (by simp[results,Tryz.results7,go_sem,bq]) rfl ?_;exact⟨⟨eo,en,es,EA,em,ec,QA,qm,qc,dl,j,dh,KA,k,kc⟩,rfl,al.2.2.2.2.1,aP.drew⟩
 ):p:=h
theorem fP(h:p:=by
 obtain⟨O,bD,ch,cT,n,fc,IA,i,ic,bC,l,lc,e,hT⟩:=hs.at_.top aY ht;simp only at e;subst e;obtain⟨pb,gR,aq,co,cB,bQ,v,e,bl,gM,c7,R,cj,bK,bg⟩:=h0.at_.code hp hx p0 bJ;replace c7:=(m.cell bl λh=>h).trans c7
 replace bg:=λj u bi=>(m.cell (j:=co+f.pc.toNat*12+j) R λh=>h).trans (bg j u bi)
 replace bl:=M0 bl m.size
 replace R:=M0 R m.size
 clear h0 m;simp only at e;subst e;simp only at gM;obtain⟨eo,en,es,EA,em,ec,QA,qm,qc,dl,j,dh,KA,k,kc⟩:=v;dsimp only[UV.val,SV.val,IV.val] at bg ⊢;go_enter func7,ntmps7;go_upto_region 1 with(fail);generalize be:World.alloc _ _=W;have aF:=l9 be;have bX:=kB be;have bh:=iL be;have cx:=kC be;have al:=hz aF bX bh cx bK c7 bg;have Q:=ae (hT.on aF);obtain⟨bs,am,aK⟩:=bh.two;clear be aF bX bh cx hT hu hs aY ht hp hx bK c7 bg;go_wp2_with(fail);refine(od Q.o _ _ _).mono ?_;rintro e aO ⟨rfl,aM⟩;have bw:=ae aM;clear bs am aK aM Q;go_upto_region 2 with(fail);generalize hV:World.alloc _ _=V;have aC:=aX hV;have L:=aL hV;have a7:Ext W V:=bw.trans aC;have J:Ext w V:=al.1.trans a7;have z:=al.2.2.2.1.aj a7;have cc:=br J z a7 aC;obtain⟨a0,ak,af⟩:=(al.2.1.aj a7).two;obtain⟨d0,aQ,aS⟩:=L.two;obtain⟨bq,a1,a5⟩:=z.two;have T:=J.size;have N:pb<V:=ad;have b7:aq<V:=ad;have b3:=(J.cell (j:=gR+f.proc.toNat*5+4) bl λh=>h).trans al.2.2.2.2.2.1;have bu:∀j u,_->V.cell? ⟨aq,co+f.pc.toNat*12+j,none⟩=some u:=λj u bi=>(J.cell (j:=co+f.pc.toNat*12+j) R λh=>h).trans (al.2.2.2.2.2.2 j u bi);exact Cc
 ):p:=h
end DK
open DK in
theorem q9(u:aw)(s:ai)(t:Int)(f:ao)(cq:cR)(x:aA)(S w:World)(p:UV)(q:SV)(h:Gy u s t f cq x w p q)(h0:p.Ok S u)(m:Ext S w) :
  Calls prog 7 #[.agg (p.val u),.agg (q.val s),t] w λe ab=>∃v:IV,e=.returned (.tuple #[.agg (v.val x),true])/\v.Ok S x/\Ext w ab:=by
 obtain⟨aY,ht,hp,hx,p0,bJ,cy,bP,hu,hs⟩:=h;exact fO
theorem vJ(u:aw)(s:ai)(t:Int)(f:ao)(cq:cR)(x:aA)(w:World)(p:UV)(q:SV)(h:Gy u s t f cq x w p q) :
  Calls prog 7 #[.agg (p.val u),.agg (q.val s),t] w (HO w x):=
 (q9 u s t f cq x w w p q h h.u NC).mono λ_ _ ⟨v,ac,az,aV⟩=>⟨v,ac,az.on aV,aV⟩
theorem Jc:cq prog 40 39 (.agg #[false,(0:Int),()]) 3 40:=cq.mk' Tryz.underlying40 (by kernel_rfl) rfl ad
theorem kY{X V:World}{g:Nat}{t:TypeId}{cs:Array Value}(i:Nat)(vs:List Value)(aT:an V g t cs)(hX:sj g V i vs=X):an X g t (jv cs i vs)/\Fr (λb=>b=g) V X:=by
 subst hX;exact⟨lz vs i V cs aT,jT vs i V⟩
namespace DL
theorem c4(h:p:=by
 go_upto_region 5 with(fail);generalize hV:World.drew (World.alloc _ _)=V;have aC:Ext w V:=hV▸(bw.1.alloc _).drew;have b4:an V aO 42 #[.int .i64 x.op,.int .i64 x.target,.bool x.du,eo,en,es,.slice EA em ec,.bool x.place.param,.int .i64 x.place.index,.slice QA qm qc,.slice dl j dh,.slice KA di kc]:=hV▸ND;have z:an V (w.heap.size+2) 42 #[(0:Int),(0:Int),false,(0:Int),(0:Int),NF,(),false,(0:Int),(),(),()]:=hV▸bw.2.aj ((Fr.refl _ aO).alloc _).drew;have dm:=b4.lt;have cc:=br aC b4 z (al.2.2.2.2.1.on aC);clear hV aC z a0 ak af cZ cw bR cS H bS cM cm cp cv ca cb c0 c1 b3;obtain⟨a0,ak,af⟩:=b4.two;clear b4;refine eJ (λ_=>False) [(0,3),(1,0),(3,3),(4,0),(6,3),(7,0),(2,1),(9,3),(5,1),(8,2),(10,2),(11,3),(12,2),(13,3),(14,2)] ?_;refine pf ?_;refine ph ?_;refine pf ?_;refine ph ?_;refine pf ?_;refine ph ?_;refine aE rfl (λK hK=>?_);go_simp;refine(zT x.expr _ eo en es EA em ec (D.on cc.2.2.2.expr (Fr.ext (Fr.refl _ V).drew))).mono ?_;rintro e aW ⟨m,aI,az,rfl,ba,bF⟩;have b1:=ah (Fr.aF bF) ba;refine dB hK (bF) ?_;clear hK K;refine pf ?_;clear ba bF;refine aE rfl (λK hK=>?_);go_simp;refine(qI x.place aW QA qm qc (D.on cc.2.2.2.place (Fr.ext b1.1))).mono ?_;rintro e b6 ⟨ac,a3,aJ,rfl,bv,bZ⟩;have bN:=ah bZ bv;refine dB hK (bZ) ?_;clear hK K;clear bv bZ;refine au rfl (λK hK=>?_);go_simp
 refine(qG x.ints (ax bT.1) b6 dl j dh ((cc.2.2.2.ints.on (Fr.ext b1.1)).on (Fr.ext bN.1))).mono ?_;rintro e cO ⟨L,bc,a6,rfl,b8,bH,dt⟩;obtain rfl:bc=j:=by have:=bH.1;simp at this;have:=bT.1;omega
 have bX:=((cc.2.1.aj b1.1).aj bN.1).aj dt;have P:=br b8 bH dt bX;clear b8 bH dt a0 ak af;obtain⟨a0,ak,af⟩:=bX.two;clear bX;refine dY hK ?_;clear hK K;refine au rfl (λK hK=>?_);go_simp;refine dY hK ?_;clear hK K;refine pf ?_;refine au rfl (λK hK=>?_);go_simp;refine dY hK ?_;clear hK K;refine pf ?_;refine au rfl (λK hK=>?_);go_simp;refine dY hK ?_;clear hK K;refine aG ?_;generalize hX:World.setCell _ _ _=X;have bn:Ext w cO:=((cc.1.trans b1.1).trans bN.1).trans P.2.2.1;obtain⟨bW,J⟩:=kY 3 [eo,en,es,.slice m aI az,.bool x.place.param,.int .i64 x.place.index,.slice ac a3 aJ,.slice L bc a6] P.2.2.2 hX;have aT:an X aO 42 #[.int .i64 x.op,.int .i64 x.target,.bool x.du,eo,en,es,.slice m aI az,.bool x.place.param,.int .i64 x.place.index,.slice ac a3 aJ,.slice L bc a6,.slice KA di kc]:=by
  simpa[jv] using bW
 clear bW;have bO:=b1.1.size;have cI:=bN.1.size;have dk:=P.2.2.1.size;have cg:V.drew.heap.size=V:=rfl;have dF:=J.size;have ct:D.rep X (λb=>aO.heap.size<b/\b<X.heap.size) (o9 x.expr) [eo,en,es,.slice m aI az]:=
  D.aM (λb O=>(⟨by have:=O.1;omega,by have:=O.2;omega⟩:aO.heap.size<b/\b<X.heap.size)) _ _ (D.aO (λb O=>(J.block b (ax O.2) (ax O.1)).trans ((P.2.2.1.block b (ax O.2) λh=>h).trans (bN.1.block b O.2 λh=>h))) _ _ b1.2)
 have cD:D.rep X (λb=>aO.heap.size<b/\b<X.heap.size) (dg x.place) [.bool x.place.param,.int .i64 x.place.index,.slice ac a3 aJ]:=
  D.aM (λb O=>(⟨by have:=O.1;omega,by have:=O.2;omega⟩:aO.heap.size<b/\b<X.heap.size)) _ _ (D.aO (λb O=>(J.block b (ax O.2) (ax O.1)).trans (P.2.2.1.block b O.2 λh=>h)) _ _ bN.2)
 have cC:Sl X (λb=>aO.heap.size<b/\b<X.heap.size) L bc (x.ints.map bo):=
  (P.2.1.ak λb O=>J.block b O.2 (ax O.1)).mono λb O=>⟨by have:=O.1;omega,by have:=O.2;omega⟩
 have bt:Ext w X:=Fr.low (M:=λb=>b=aO.heap.size) (Fr.trans (Fr.mono bn λ_ h=>h.elim) J) λb O=>ad;have bL:=(((cc.2.2.1.aj b1.1).aj bN.1).aj P.2.2.1).on J ad;have aP:=dH bt bL ct cD cC P.1;have bE:=aT;clear hX bn J aT bO cI dk dF cg ct cD cC bt bL a0 ak af;obtain⟨a0,ak,af⟩:=bE.two;go_upto_region 8 with(fail);generalize hX:World.setCell _ _ _=Y;obtain⟨bW,J⟩:=kY 11 [()] bE hX;have bM:an Y aO 42 #[.int .i64 x.op,.int .i64 x.target,.bool x.du,eo,en,es,.slice m aI az,.bool x.place.param,.int .i64 x.place.index,.slice ac a3 aJ,.slice L bc a6,()]:=by
  simpa[jv] using bW
 have bA:Ext w Y:=Fr.low (M:=λb=>b=aO.heap.size) (Fr.trans (Fr.mono aP.1 λ_ h=>h.elim) J) λb O=>by have:=bw.1.size;omega
 have c9:=J.size;have bB:=br bA (aP.2.1.on J (ax bw.2.lt)) J bM;have ag:=bw.2.lt;have b2:aO<X.heap.size:=by have:=bE.lt;omega
 clear hX bW J bM bA bE a0 ak af;go_wp2_with(fail);go_loopw [51] (λb5 wr=>∃(k:Nat) (I:NH) (aD:Nat),b5=.int .i64 k/\k<=di/\Ext w wr/\Fr (λb=>b=aO.heap.size) Y wr/\an wr (w.heap.size+2) 42 #[(0:Int),(0:Int),false,(0:Int),(0:Int),NF,(),false,(0:Int),(),(),()]/\
   an wr aO 42 #[.int .i64 x.op,.int .i64 x.target,.bool x.du,eo,en,es,.slice m aI az,.bool x.place.param,.int .i64 x.place.index,.slice ac a3 aJ,.slice L bc a6,.slice I k aD]/\Gr (λb=>Y.heap.size<=b) Y.heap.size 39 3 wr I k aD ((x.places.take k).map dg)) (λb5 _=>di - (intOf b5).toNat)
 case atStart=>exact⟨0,none,0,rfl,ad,bB.1,NC,bB.2.1,bB.2.2.2,Gr.nil _ _ _ _ _⟩
 case round=>
  obtain⟨k,I,aD,rfl,aj,aF,bk,cx,aT,hG⟩:=hrel;have bY:=cQ aF bk cx aT hG;have fk:=bk.size;by_cases ap:k<di
  .obtain⟨b,o,y,b9,aN,zc,rfl,O,bb,ci,cr,cf,bV,cY⟩:=(al.2.2.2.2.1.places.on (Fr.ext aF)).pH ap;have aZ:b<wr:=O;have ck:=ay bb bV cY;clear aF bk cx aT hG bb bV cY O;go_upto_region 11 with(fail);generalize hU:World.alloc _ _=U;have cl:=aX hU;have cN:=aL hU;have dc:=cl.size;have bG:=bY.2.2.2.1.aj cl;have cz:=dH (bY.1.trans cl) (Fr.trans bY.2.1 (cl.mono λ_ h=>h.elim)) (bY.2.2.1.aj cl) bG (bY.2.2.2.2.aj cl) (dK.2 ⟨b9,aN,zc,rfl,ck.2.1,ck.2.2.on (Fr.ext cl)⟩:(dg y).rep U (av U) [.bool y.param,.int .i64 y.index,.slice b9 aN zc]);obtain⟨d0,aQ,aS⟩:=cN.two;obtain⟨a0,ak,af⟩:=bG.two;clear hU cl cN bG ci cr cf aZ;refine eJ (λ_=>False) [(0,3),(1,0),(2,0),(3,1),(4,1),(5,2),(6,3),(7,2)] ?_;refine pf ?_
   iterate 2 refine ph ?_
   refine aE rfl (λK hK=>?_);go_simp;refine(qI y _ b9 aN zc (D.on cz.2.2.2.2.2 (Fr.ext (Fr.refl _ U).drew))).mono ?_;rintro e v1 ⟨c8,da,db,rfl,aa,ar⟩;have H1:=ah aa ar;refine dB hK (ar) ?_;clear hK K;have aM:Ext U v1:=Fr.aF ar;have r:=cz.2.2.2.2.1.aj aM;have cn:=aM.size;have aB:∀b,(Value.slice I k aD).ownBlock=some b->b<U.heap.size:=λb O=>(cz.2.2.2.2.1.lt O).2;have hd:(dg y).rep v1 (lD (λb=>Y.heap.size<=b) v1 (.slice I k aD)) (#[.bool y.param,.int .i64 y.index,.slice c8 da db]:Array Value).toList:=
    D.aM (λb O=>⟨by have:=O.1;have:U.drew.heap.size=U:=rfl;omega,O.2,λh=>by have:=aB b h;have:=O.1;have:U.drew.heap.size=U:=rfl;omega⟩) _ _ aa
   have a8:=ah r hd;clear aa ar r hd aB;refine rS ?_;refine au rfl (λK hK=>?_);rw[if_pos (by rfl)];refine rA Jc (.tmp 56) (.tmp 59) rfl a8.1 a8.2 rfl rfl rfl ad ad ad ?_;intro cu c3 v2 cd g2 cA c6;have bp:∀b,(Value.slice I k aD).ownBlock=some b->Y.heap.size<=b:=λb O=>(a8.1.lt O).1;have b0:=(cz.2.2.2.1.aj aM).on g2 (λh=>by have:=bp _ h;omega);have cE:=(cz.2.2.1.aj aM).on g2 (λh=>by have:=bp _ h;omega);have bf:Ext w v2:=Fr.low (M:=λb=>(Value.slice I k aD).ownBlock=some b) (Fr.trans (Fr.mono (cz.1.trans aM) λ_ h=>h.elim) g2) λb O=>by have:=bp b O;omega
   have a2:Fr (λb=>b=aO.heap.size) Y v2:=(Fr.trans cz.2.1 (aM.mono λ_ h=>h.elim)).eW (g2.below ad λb O hm=>by have:=bp b hm;omega);have b1:=cQ bf a2 cE b0 cd;clear cd g2 cA c6 bp cE bf a2 a0 ak af d0 aQ aS;obtain⟨a0,ak,af⟩:=b0.two;refine dY hK ?_;clear hK K;refine pf ?_;refine au rfl (λK hK=>?_);go_simp;refine dY hK ?_;clear hK K;refine aG ?_;generalize hX:World.setCell v2 _ _=Z;obtain⟨bW,bz⟩:=kY 11 [.slice cu (k+1) c3] b1.2.2.2.1 hX;have bm:an Z aO 42 #[.int .i64 x.op,.int .i64 x.target,.bool x.du,eo,en,es,.slice m aI az,.bool x.place.param,.int .i64 x.place.index,.slice ac a3 aJ,.slice L bc a6,.slice cu (k+1) c3]:=by
    simpa[jv] using bW
   have S:=cQ (Fr.low (M:=λb=>b=aO.heap.size) (Fr.trans (Fr.mono b1.1 λ_ h=>h.elim) bz) (λb O=>ad):Ext w Z) (Fr.trans b1.2.1 bz) (b1.2.2.1.on bz ad) bm (b1.2.2.2.2.cD bz λb O _=>⟨ad,ad⟩);clear hX bz bW bm a0 ak af b0;go_wp2;go_roundw
   case rel=>exact⟨k+1,cu,c3,by go_num,ad,S.1,S.2.1,S.2.2.1,S.2.2.2.1,by rw[aU ck.1,Na];exact S.2.2.2.2⟩
   case measure=>exact aH
  .obtain rfl:k=di:=ad;obtain⟨a0,ak,af⟩:=aT.two;obtain⟨bq,a1,a5⟩:=cx.two;clear aF bk cx aT hG;go_wp2_with(fail);generalize hX:World.setCell _ _ _=Z;obtain⟨bm,bd,a4⟩:=a9 (w:=w) [.int .i64 x.op,.int .i64 x.target,.bool x.du,eo,en,es,.slice m aI az,.bool x.place.param,.int .i64 x.place.index,.slice ac a3 aJ,.slice L bc a6,.slice I k aD] (by rfl) bY.2.2.1 bY.1 ad hX;have bj:=ah bd a4;clear hX bd a4 a0 ak af bq a1 a5;obtain⟨bq,a1,a5⟩:=bm.two;clear bm;refine NB (v:=.tuple #[.agg #[.int .i64 x.op,.int .i64 x.target,.bool x.du,eo,en,es,.slice m aI az,.bool x.place.param,.int .i64 x.place.index,.slice ac a3 aJ,.slice L bc a6,.slice I k aD],true]) (by simp[results,Tryz.results28,go_sem,bq]) rfl ?_;have aR:=bY.2.2.2.2.cD bj.2 λb O _=>⟨ad,ad⟩
   rw[Nb (ax bT.2)] at aR;have cY:=bj.2.size;have gS:∀b,(aO.heap.size<b/\b<X.heap.size)->Z.heap[b]?=X.heap[b]?:=λb O=>(bj.2.block b ad ad).trans ((bY.2.1.block b ad ad).trans (bB.2.2.1.block b O.2 ad));have el:∀b,(aO.heap.size<b/\b<X.heap.size)->av Z b:=λb O=>by show b<Z.heap.size;omega
   exact⟨⟨eo,en,es,m,aI,az,ac,a3,aJ,L,bc,a6,I,k,aD⟩,rfl,⟨D.aM el _ _ (D.aO gS _ _ aP.2.2.1),D.aM el _ _ (D.aO gS _ _ aP.2.2.2.1),(aP.2.2.2.2.1.ak gS).mono el,aP.2.2.2.2.2,aR.sl (λb ap O=>ap) (λb ap O=>ap),aR.cap.1⟩,bj.1⟩
 ):p:=h
theorem Cd(h:p:=by
 have cH:=ab.lf;have c0:=ab.c0;have c1:=ab.c1;clear aM a7 bu bl R T;go_upto_region 4 with(fail);refine eJ (λ_=>False) [(0,3),(1,0),(2,3),(3,3),(4,3),(5,0),(6,3),(7,3),(8,0),(9,3),(10,3),(11,3),(12,0),(13,3),(14,0),(15,1),(16,2)] ?_;refine pf ?_;refine ph ?_
 iterate 3 refine pf ?_
 refine ph ?_
 iterate 2 refine pf ?_
 refine ph ?_
 iterate 3 refine pf ?_
 refine ph ?_;refine pf ?_;refine ph ?_;refine rS ?_;exact ew
 ):p:=h
theorem fP(h:p:=by
 obtain⟨O,bD,ch,cT,n,fc,IA,i,ic,bC,l,lc,e,hT⟩:=hs.at_.top aY ht;simp only at e;subst e;obtain⟨pb,gR,aq,co,cB,bQ,v,e,bl,gM,c7,R,cj,bK,bg⟩:=hu.at_.code hp hx p0 bJ;simp only at e;subst e;simp only at gM;obtain⟨eo,en,es,EA,em,ec,QA,qm,qc,dl,j,dh,KA,di,kc⟩:=v;have aV:x.ints.length=j:=by have:=bK.ints.1;simpa using this
 have ce:x.places.length=di:=by have:=bK.places.1;simpa using this
 have cP:j<=200:=ad;have cV:di<=200:=ad;dsimp only[UV.val,SV.val,IV.val] at bg ⊢;go_enter func28,ntmps28;go_upto_region 1 with(fail);generalize be:World.alloc _ _=W;have aF:=l9 be;have bX:=kB be;have bh:=iL be;have cx:=kC be;have al:=hz aF bX bh cx bK c7 bg;have Q:=ae (hT.on aF);have bT:=ah aV ce;obtain⟨bs,am,aK⟩:=bh.two;clear be aF bX bh cx hT hu hs aY ht hp hx bK c7 bg aV ce cy bP;go_wp2_with(fail);refine(lH Q.o _ _ _).mono ?_;rintro e aO ⟨rfl,aM⟩;have ab:=ae (Q.on aM);have a7:Ext w aO:=al.1.trans aM;have bw:=ah a7 (al.2.2.2.1.aj aM);clear bs am aK Q;obtain⟨a0,ak,af⟩:=(al.2.1.aj aM).two;have T:=a7.size;have df:=bw.2.lt;have N:pb<aO:=ad;have b7:aq<aO:=ad;have b3:=(a7.cell (j:=gR+f.proc.toNat*5+4) bl λh=>h).trans al.2.2.2.2.2.1;have bu:∀j u,_->aO.cell? ⟨aq,co+f.pc.toNat*12+j,none⟩=some u:=λj u bi=>(a7.cell (j:=co+f.pc.toNat*12+j) R λh=>h).trans (al.2.2.2.2.2.2 j u bi);exact Cc
 ):p:=h
end DL
open DL in
theorem vk(u:aw)(s:ai)(t:Int)(f:ao)(cq:cR)(x:aA)(w:World)(p:UV)(q:SV)(h:Gy u s t f cq x w p q) :
  Calls prog 28 #[.agg (p.val u),.agg (q.val s),t] w (HO w x):=by
 obtain⟨aY,ht,hp,hx,p0,bJ,cy,bP,hu,hs⟩:=h;exact fO
end Go.Proofs.YtnigabjngpnbiabGreat

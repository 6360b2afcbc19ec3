/- Part 21 of the proof. No condition of its own. -/
import Derived.Test.YtnigabjngpnbiaaGreatQ18
import Derived.Test.YtnigabjngpnbiaaGreatQ19
namespace Go.Proofs.YtnigabjngpnbiaaGreat
open Go.RowKit Go.Proofs.Tryz
set_option maxRecDepth 1000000
set_option maxHeartbeats 25600000
set_option linter.unusedVariables false
variable{nl t:Int}{fs:List ai}{g gn i ic l lc:Nat}{P:Nat->Prop}{GA IA bo:Kj}{p:Prop}{f:ai}{x:ax}{u:ay}{pl:bN}
theorem hE{s:ah}(h:dJ s t=some f):vZ u s t pl=bu u s f pl:=by unfold vZ;rw[h]
theorem p1{s:ah}(h:pl.param=true):bu u s f pl=(f.aq.getD pl.index.toNat 0,0):=by unfold bu;rw[if_pos h]
theorem w4{s:ah}(h:pl.param=false)(aA:(cF u s f pl).2≠0):bu u s f pl=(0,(cF u s f pl).2):=by unfold bu;rw[if_neg (by simp[h]),if_pos aA]
theorem oa{s:ah}(h:pl.param=false)(aA:(cF u s f pl).2=0):bu u s f pl=(eh u.af pl.index+(cF u s f pl).1,0):=by unfold bu;rw[if_neg (by simp[h]),if_neg ad]
theorem CK{s:ah}{nk:Int}(hU:de u)(hF:bX u f)(aj:nk<=f.aq.length)(hx:cQ (bp u) nl nk pl)(h:pl.param=false)(aA:(cF u s f pl).2=0):
  0<=eh u.af pl.index+(cF u s f pl).1/\eh u.af pl.index+(cF u s f pl).1<=5000:=by
 have ac:=(iJ (s:=s) hU hF aj hx).2;rw[oa h aA] at ac;have:=kZ hU;have:=ac rfl;simp only at this;omega
theorem Dp{w:World}(hx:cQ (bp u) nl f.aq.length pl)(h:pl.param=true)(hl:Sl w (ao w) bo l (f.aq.map D.i)):
  0<=pl.index/\pl.index<l/\∃b o,bo=some ⟨b,o,none⟩/\b<w.heap.size/\w.cell? ⟨b,o+pl.index.toNat,none⟩=some (.int .i64 (f.aq.getD pl.index.toNat 0)):=by
 rcases hx with⟨_,ac,ap,_⟩|⟨ac,_⟩
 .have hn:=hl.1;rw[JM] at hn;obtain⟨b,o,x,bu,O,hx,hc⟩:=hl.ints.int (k:=pl.index.toNat) ad;refine⟨ac,ad,b,o,bu,O,?_⟩;rw[List.getD_eq_getElem?_getD,hx];exact hc
 .rw[h] at ac;cases ac
structure G9(u:ay)(s:ah)(t:Int)(f:ai)(pl:bN)(N:Nat)(w:World)(p:UV)(q:SV)(QA:Kj)(qm qc:Nat):Prop where
 hU:de u
 hS:aV u N s
 sm:Small s
 ht:dJ s t=some f
 hx:∃cc,u.procs[f.proc.toNat]?=some cc/\cQ (bp u) cc.locals cc.aq pl
 u:p.Ok w u
 s:q.Ok w s
 pl:(c8 pl).rep w (ao w) [.bool pl.param,.int .i64 pl.index,.slice QA qm qc]
theorem bX.ru{cc:cG}(hF:bX u f)(hp:u.procs[f.proc.toNat]?=some cc):(f.aq.length:Int)=cc.aq:=by
 obtain⟨p,h,_,_,ap⟩:=hF.ex;rw[hp] at h;injection h with h;rw[h];exact ap
namespace Bx
theorem zE(h:p:=by
 clear k aA m aO bv a0 al af b0 am aw d0 aQ aR c2 c3;obtain⟨a0,al,af⟩:=((ab.2.1.aj aT.1).aj aT.2).two;obtain⟨d0,aQ,aR⟩:=((ab.2.2.2.1.aj aT.1).aj aT.2).two;refine eC hK ?_;clear hK K
 iterate 5 refine pf ?_
 refine aG ?_;by_cases bi:z=0
 .have q5:(z != 0)=false:=by simpa using bi
  have T:=bF.1 bi;have cO:=ae (bF.2.2 bi);subst bi;generalize aK:eh u.af pl.index=B at *;have bL:=ae aK;clear aK bF;go_wp2_with(fail);refine(Cz MA mn mc u.af pl.index aV ((ab.2.2.2.2.1.on aT.1).on aT.2).at_.m.na aJ.1.xK bX).mono ?_;rintro e bV ⟨rfl,aE⟩;rw[bL.o];have a4:=ae (((ab.1.trans aT.1).trans aT.2).trans (Fr.of aE));clear aE a0 al af d0 aQ aR;go_wp2
  go_ret2
  exact fx.mk' cO.o (Fr.ext a4.o)
 .have q5:(z != 0)=true:=by simpa using bi
  have cO:=ae (bF.2.1 bi);clear bi bF;go_wp2_with(fail)
  go_ret2
  exact fx.mk' cO.o (Fr.ext ((ab.1.trans aT.1).trans aT.2))
 ):p:=h
theorem zg(h:p:=by
 refine(ks b1.o _ _ _).mono ?_;rintro e aL ⟨rfl,ag⟩;have J:=ae (b1.on ag);have bs:=ae ag;clear a0 al af b0 am aw d0 aQ aR;obtain⟨a0,al,af⟩:=(ab.2.1.aj ag).two;obtain⟨b0,am,aw⟩:=(ab.2.2.1.aj ag).two;obtain⟨d0,aQ,aR⟩:=(ab.2.2.2.1.aj ag).two;have cy:=J.lf;have c2:=J.c2;have c3:=J.c3;clear ag b1
 cases j:pl.param with
 | true=>
  rw[j] at d0;obtain⟨y,ao,lb,lo,rfl,a8,aS⟩:=Dp aJ.2.2.2.2.2 j J.aq;have a6:=p1 (u:=u) (s:=s) (f:=f) j;generalize hV:f.aq.getD pl.index.toNat 0=V at *;have a2:=ae a6;have q1:decide (pl.index<0)=false:=by simp;omega
  have cM:decide (pl.index>=l)=false:=by simp;omega
  clear a6 hV;go_upto_region 5 with(fail);refine fj (λ_=>False) [(0,3),(1,0),(2,3),(3,3),(4,3),(5,0),(6,3),(7,3),(8,3),(9,0),(10,3),(11,3),(12,3)] ?_;refine pf ?_;refine ph ?_
  iterate 3 refine pf ?_
  refine ph ?_
  iterate 3 refine pf ?_
  refine ph ?_
  iterate 3 refine pf ?_
  refine aG ?_;go_upto_region 7 with(fail);refine fj (λ_=>False) [(0,3),(1,3),(2,3),(3,0),(4,3),(5,0),(6,3),(7,0),(8,3),(9,3)] ?_
  iterate 3 refine pf ?_
  refine cR (v:=?_) rfl (by rfl) (λV hV=>?_) ?_;rotate_left
  .obtain⟨hVc,hVf⟩:=Fr.iB hV
   (go_simp<;>with_reducible rfl)
  try simp only[PU]
  refine pf ?_;refine cR (v:=?_) rfl (by rfl) (λV hV=>?_) ?_;rotate_left
  .obtain⟨hVc,hVf⟩:=Fr.iB hV
   (go_simp<;>with_reducible rfl)
  try simp only[PU]
  refine pf ?_;refine cR (v:=?_) rfl (by rfl) (λV hV=>?_) ?_;rotate_left
  .obtain⟨hVc,hVf⟩:=Fr.iB hV
   (go_simp<;>with_reducible rfl)
  try simp only[PU]
  iterate 2 refine pf ?_
  refine aG ?_;go_wp2_with(fail)
  go_ret2
  exact fx.mk' a2.o (Fr.ext ((ab.1.trans bs.o).drew.drew))
 | false=>
  rw[j] at d0;go_upto_region 8 with(fail);refine fj (λ_=>False) [(0,0),(1,3),(2,0),(3,3),(4,0),(5,3),(6,3),(7,3),(8,0),(9,2),(10,3),(11,3),(12,3),(13,3),(14,3)] ?_;refine ph ?_;refine pf ?_;refine ph ?_;refine pf ?_;refine ph ?_
  iterate 3 refine pf ?_
  refine ph ?_;refine az rfl (λK hK=>?_);go_simp;have aO:Ext W aL.drew:=bs.drew;refine(GH (u:=u) (s:=s) (f:=f) (pl:=pl) aJ.1 aJ.2.1 aJ.2.2.1 aJ.2.2.2.1 aJ.2.2.2.2.1 j (ab.2.2.2.2.1.on aO).at_.m (ab.2.2.2.2.2.1.on aO).at_.g (J.on Kf.drew).ints (D.on ab.2.2.2.2.2.2 (Fr.ext aO))).mono ?_;rintro e aV ⟨rfl,bv⟩;have aT:=ak aO (Fr.of (M:=λ_=>False) bv);exact zD
 ):p:=h
theorem z8(h:p:=by
 have bX:=hu.mc;simp only at bX;have aJ:=dq hU hS hF hp hx o;dsimp only[UV.val,SV.val];go_enter func66,ntmps66;exact zf
 ):p:=h
theorem gL(h:p:=by
 exact z7
 ):p:=h
end Bx
open Bx in
theorem oB(u:ay)(s:ah)(t:Int)(f:ai)(pl:bN)(N:Nat)(w:World)(p:UV)(q:SV)(QA:Kj)(qm qc:Nat)(h:G9 u s t f pl N w p q QA qm qc) :
  Calls prog 66 #[.agg (p.val u),.agg (q.val s),.int .i64 t,.agg #[.bool pl.param,.int .i64 pl.index,.slice QA qm qc]] w (fx w (vZ u s t pl)):=by
 obtain⟨hU,hS,T,ht,⟨cc,hp,hx⟩,hu,hs,bx⟩:=h;exact gK
namespace By
theorem zE(h:p:=by
 clear k aA m bv a0 al af b0 am aw d0 aQ aR e0 bl bm;obtain⟨a0,al,af⟩:=((ab.2.1.aj aT.1).aj aT.2).two;obtain⟨d0,aQ,aR⟩:=((ab.2.2.2.1.aj aT.1).aj aT.2).two;by_cases bi:z=0
 .have q5:(z != 0)=false:=by simpa using bi
  have T:=bF.1 bi;have cO:=ae (bF.2.2 bi);subst bi;generalize aK:eh u.af pl.index=B at *;have bL:=ae aK;clear aK bF;go_wp2_with(fail);refine(sN MA mn mc u.af pl.index aV ((ab.2.2.2.2.1.on aT.1).on aT.2).at_.m.na aJ.1.xK).mono ?_;rintro e bV ⟨rfl,aE⟩;rw[bL.o];have a4:=ae (((ab.1.trans aT.1).trans aT.2).trans (Fr.of aE));clear aE a0 al af d0 aQ aR;go_wp2
  go_ret2
  exact fx.mk' cO.o (Fr.ext a4.o)
 .have q5:(z != 0)=true:=by simpa using bi
  have cO:=ae (bF.2.1 bi);clear bi bF;go_wp2_with(fail)
  go_ret2
  exact fx.mk' cO.o (Fr.ext ((ab.1.trans aT.1).trans aT.2))
 ):p:=h
theorem zg(h:p:=by
 refine(my b1.o _ _ _).mono ?_;rintro e aL ⟨rfl,ag⟩;have J:=ae (b1.on ag);have bs:=ae ag;clear a0 al af b0 am aw d0 aQ aR ag b1;obtain⟨a0,al,af⟩:=(ab.2.1.aj bs.o).two;obtain⟨b0,am,aw⟩:=(ab.2.2.1.aj bs.o).two;obtain⟨d0,aQ,aR⟩:=(ab.2.2.2.1.aj bs.o).two
 cases j:pl.param with
 | true=>
  rw[j] at d0;obtain⟨y,ao,lb,lo,rfl,a8,aS⟩:=Dp aJ.2.2.2.2.2 j J.aq;have a6:=p1 (u:=u) (s:=s) (f:=f) j;generalize hV:f.aq.getD pl.index.toNat 0=V at *;have a2:=ae a6;clear a6 hV;go_wp2_with(fail)
  go_ret2
  exact fx.mk' a2.o (Fr.ext ((ab.1.trans bs.o).alloc _))
 | false=>
  rw[j] at d0;go_upto_region 4 with(fail);generalize hV:World.alloc _ _=V;have a9:=aY hV;have aZ:=aF hV;have aO:Ext W V:=bs.trans a9;have bR:=ak aO a9;clear hV aO a0 al af b0 am aw d0 aQ aR;obtain⟨a0,al,af⟩:=(ab.2.1.aj bR.1).two;obtain⟨b0,am,aw⟩:=(ab.2.2.1.aj bR.1).two;obtain⟨d0,aQ,aR⟩:=(ab.2.2.2.1.aj bR.1).two;obtain⟨e0,bl,bm⟩:=aZ.two;rw[j] at d0;clear a9 aZ;go_wp2_with(fail);refine(GR (u:=u) (s:=s) (f:=f) (pl:=pl) aJ.1 aJ.2.1 aJ.2.2.1 aJ.2.2.2.1 aJ.2.2.2.2.1 j (ab.2.2.2.2.1.on bR.1).at_.m (ab.2.2.2.2.2.1.on bR.1).at_.g (J.on bR.2).ints (D.on ab.2.2.2.2.2.2 (Fr.ext bR.1))).mono ?_;rintro e aV ⟨rfl,bv⟩;have aT:=ak bR.1 (Fr.of (M:=λ_=>False) bv);exact zD
 ):p:=h
theorem z8(h:p:=by
 have aJ:=dq hU hS hF hp hx o;dsimp only[UV.val,SV.val];go_enter func76,ntmps76;exact zf
 ):p:=h
theorem gL(h:p:=by
 exact z7
 ):p:=h
end By
open By in
theorem oV(u:ay)(s:ah)(t:Int)(f:ai)(pl:bN)(N:Nat)(w:World)(p:UV)(q:SV)(QA:Kj)(qm qc:Nat)(h:G9 u s t f pl N w p q QA qm qc) :
  Calls prog 76 #[.agg (p.val u),.agg (q.val s),.int .i64 t,.agg #[.bool pl.param,.int .i64 pl.index,.slice QA qm qc]] w (fx w (vZ u s t pl)):=by
 obtain⟨hU,hS,T,ht,⟨cc,hp,hx⟩,hu,hs,bx⟩:=h;exact gK
structure IV where
 eo:Int
 en:Int
 es:ByteArray
 EA:Option Addr
 em:Nat
 ec:Nat
 QA:Option Addr
 qm:Nat
 qc:Nat
 IA:Option Addr
 i:Nat
 ic:Nat
 KA:Option Addr
 k:Nat
 kc:Nat
abbrev IV.val(v:IV)(x:ax):Array Value:=#[.int .i64 x.op,.int .i64 x.target,.bool x.c5,.int .i64 v.eo,.int .i64 v.en,.string v.es,.slice v.EA v.em v.ec,.bool x.place.param,.int .i64 x.place.index,.slice v.QA v.qm v.qc,.slice v.IA v.i v.ic,.slice v.KA v.k v.kc]
structure IV.Ok(v:IV)(w:World)(x:ax):Prop where
 expr:(m8 x.expr).rep w (ao w) [.int .i64 v.eo,.int .i64 v.en,.string v.es,.slice v.EA v.em v.ec]
 place:(c8 x.place).rep w (ao w) [.bool x.place.param,.int .i64 x.place.index,.slice v.QA v.qm v.qc]
 ints:Sl w (ao w) v.IA v.i (x.ints.map bB)
 GD:v.i<=v.ic
 places:Sl w (ao w) v.KA v.k (x.places.map c8)
 GG:v.k<=v.kc
theorem IV.Ok.on{v:IV}{w J:World}{x:ax}(h:v.Ok w x)(he:Ext w J):v.Ok J x:=
 ⟨D.on h.expr (Fr.ext he),D.on h.place (Fr.ext he),h.ints.on (Fr.ext he),h.GD,h.places.on (Fr.ext he),h.GG⟩
def E6(w:World)(x:ax)(e:Ending)(J:World):Prop:=∃v:IV,e=.returned (.tuple #[.agg (v.val x),.bool true])/\v.Ok J x/\Ext w J
theorem sq{s:ah}{cc:cG}(h:dJ s t=some f)(hp:u.procs[f.proc.toNat]?=some cc)(hx:cc.code[f.pc.toNat]?=some x):dD u s t=some x:=by
 unfold dD;rw[h];simp only[Option.bind_some,hp,hx]
structure Ge(u:ay)(s:ah)(t:Int)(f:ai)(cc:cG)(x:ax)(w:World)(p:UV)(q:SV):Prop where
 sm:Small s
 ht:dJ s t=some f
 hp:u.procs[f.proc.toNat]?=some cc
 hx:cc.code[f.pc.toNat]?=some x
 p0:0<=f.proc
 c0:0<=f.pc
 il:x.ints.length<=200
 kl:x.places.length<=200
 u:p.Ok w u
 s:q.Ok w s
theorem jf.code{w:World}{MA PA:Kj}{mn pn:Nat}(h:jf w (ao w) u GA gn MA mn PA pn){cc:cG}(hp:u.procs[f.proc.toNat]?=some cc)(hx:cc.code[f.pc.toNat]?=some x)(p0:0<=f.proc)(c0:0<=f.pc):
  ∃b o aD co n c,∃v:IV,PA=some ⟨b,o,none⟩/\b<w.heap.size/\f.proc<pn/\w.cell? ⟨b,o+f.proc.toNat*5+4,none⟩=some (.slice (some ⟨aD,co,none⟩) n c)/\aD<w.heap.size/\f.pc<n/\v.Ok w x/\∀j u,(v.val x)[j]?=some u->w.cell? ⟨aD,co+f.pc.toNat*12+j,none⟩=some u:=by
 have ac:=(List.getElem?_eq_some_iff.1 hp).1;have ap:=(List.getElem?_eq_some_iff.1 hx).1;have bB:=h.p.1;rw[JM] at bB;obtain⟨b,o,cZ,S,n,c,rfl,O,aH,_,_,_,_,hc,a7,hs⟩:=h.proc (k:=f.proc.toNat) ad;rw[hp] at aH;injection aH with aH;subst aH;have ck:=hs.1;rw[JM] at ck;obtain⟨aD,co,e,cs,eo,en,es,EA,em,ec,QA,qm,qc,IA,i,ic,KA,m,mc,rfl,br,d,I,be⟩:=hs.Hq (k:=f.pc.toNat) ad;rw[hx] at d;injection d with d;subst d;refine⟨b,o,aD,co,n,c,⟨eo,en,es,EA,em,ec,QA,qm,qc,IA,i,ic,KA,m,mc⟩,rfl,O,ad,hc,br,ad,⟨I.expr,I.place,I.ints,I.GD,I.places,I.GG⟩,λj u hu=>be j u ?_⟩;rw[I.cells];simpa using hu
namespace Bz
theorem zS(h:p:=by
 clear hV a9 aZ aO aA m a8 ch br aB;go_upto_region 4 with(fail);refine fj (λ_=>False) [(0,3),(1,0),(2,3),(3,0),(4,3),(5,3),(6,0),(7,3),(8,0),(9,3),(10,0),(11,2),(12,3)] ?_;refine pf ?_;refine ph ?_;refine pf ?_;refine ph ?_
 iterate 2 refine pf ?_
 refine ph ?_;refine pf ?_;refine ph ?_;refine pf ?_;refine ph ?_;refine az rfl (λK hK=>?_);go_simp;refine eC hK ?_;clear hK K;refine pf ?_;refine aG ?_;generalize hX:World.setCell _ _ _=X;obtain⟨a6,bf,y⟩:=bk (w:=w) [.int .i64 x.op,.int .i64 x.target,.bool x.c5,.int .i64 eo,.int .i64 en,.string es,.slice EA em ec,.bool x.place.param,.int .i64 x.place.index,.slice QA qm qc,.slice dg j dh,.slice KA k kc] (by rfl) bR.2.1 bR.1 ad hX;have aJ:=ae bf;clear hX bf y a0 al af d0 aQ aR bh an aM cX cp bE cB aI c7 cM cl cA cH ca cf cn;obtain⟨bh,an,aM⟩:=a6.two;clear a6;go_wp2_with(fail);refine Ke (v:=.tuple #[.agg #[.int .i64 x.op,.int .i64 x.target,.bool x.c5,.int .i64 eo,.int .i64 en,.string es,.slice EA em ec,.bool x.place.param,.int .i64 x.place.index,.slice QA qm qc,.slice dg j dh,.slice KA k kc],.bool true]) (by simp[results,Tryz.results71,go_sem,bh]) rfl ?_;exact⟨⟨eo,en,es,EA,em,ec,QA,qm,qc,dg,j,dh,KA,k,kc⟩,rfl,ab.2.2.2.2.1,aJ.drew⟩
 ):p:=h
theorem gL(h:p:=by
 obtain⟨O,bb,bT,cT,n,fc,IA,i,ic,bo,l,lc,e,hT⟩:=hs.at_.top T ht;simp only at e;subst e;obtain⟨pb,db,aD,co,cN,bx,v,e,ch,b4,c4,br,bG,bD,Q⟩:=h0.at_.code hp hx p0 bS;replace c4:=(z.cell ch λh=>h).trans c4
 replace Q:=λj u be=>(z.cell (j:=co+f.pc.toNat*12+j) br λh=>h).trans (Q j u be)
 replace ch:=JJ ch z.size
 replace br:=JJ br z.size
 clear h0 z;simp only at e;subst e;simp only at b4;obtain⟨eo,en,es,EA,em,ec,QA,qm,qc,dg,j,dh,KA,k,kc⟩:=v;dsimp only[UV.val,SV.val,IV.val] at Q ⊢;go_enter func71,ntmps71;go_upto_region 1 with(fail);generalize ba:World.alloc _ _=W;have ar:=l6 ba;have bJ:=jV ba;have b7:=iF ba;have cq:=jD ba;have ab:=jE ar bJ b7 cq bD c4 Q;have b1:=ae (hT.on ar);obtain⟨b0,am,aw⟩:=b7.two;clear ba ar bJ b7 cq hT hu hs T ht hp hx bD c4 Q;go_wp2_with(fail);refine(my b1.o _ _ _).mono ?_;rintro e aL ⟨rfl,ag⟩;have bs:=ae ag;clear b0 am aw ag b1;go_upto_region 2 with(fail);generalize hV:World.alloc _ _=V;have a9:=aY hV;have aZ:=aF hV;have aO:Ext W V:=bs.trans a9;have aA:Ext w V:=ab.1.trans aO;have m:=ab.2.2.2.1.aj aO;have bR:=b9 aA m aO a9;obtain⟨a0,al,af⟩:=(ab.2.1.aj aO).two;obtain⟨d0,aQ,aR⟩:=aZ.two;obtain⟨bh,an,aM⟩:=m.two;have aB:=aA.size;have a3:pb<V.heap.size:=ad;have bY:aD<V.heap.size:=ad;have cn:=(aA.cell (j:=db+f.proc.toNat*5+4) ch λh=>h).trans ab.2.2.2.2.2.1;have a8:∀j u,_->V.cell? ⟨aD,co+f.pc.toNat*12+j,none⟩=some u:=λj u be=>(aA.cell (j:=co+f.pc.toNat*12+j) br λh=>h).trans (ab.2.2.2.2.2.2 j u be);exact zR
 ):p:=h
end Bz
open Bz in
theorem uV(u:ay)(s:ah)(t:Int)(f:ai)(cc:cG)(x:ax)(r w:World)(p:UV)(q:SV)(h:Ge u s t f cc x w p q)(h0:p.Ok r u)(z:Ext r w) :
  Calls prog 71 #[.agg (p.val u),.agg (q.val s),.int .i64 t] w λe J=>∃v:IV,e=.returned (.tuple #[.agg (v.val x),.bool true])/\v.Ok r x/\Ext w J:=by
 obtain⟨T,ht,hp,hx,p0,bS,cC,bM,hu,hs⟩:=h;exact gK
theorem sS(u:ay)(s:ah)(t:Int)(f:ai)(cc:cG)(x:ax)(w:World)(p:UV)(q:SV)(h:Ge u s t f cc x w p q) :
  Calls prog 71 #[.agg (p.val u),.agg (q.val s),.int .i64 t] w (E6 w x):=
 (uV u s t f cc x w w p q h h.u Kf).mono λ_ _ ⟨v,ac,ap,aD⟩=>⟨v,ac,ap.on aD,aD⟩
theorem Gs:cA prog 75 74 (.agg #[.bool false,.int .i64 0,.slice none 0 0]) 3 40:=cA.mk' Tryz.underlying75 (by kernel_rfl) rfl ad
theorem ej{X V:World}{t:TypeId}{cs:Array Value}(i:Nat)(vs:List Value)(aK:au V g t cs)(hX:qf g V i vs=X):au X g t (ij cs i vs)/\Fr (λb=>b=g) V X:=by
 subst hX;exact⟨kn vs i V cs aK,lH vs i V⟩
namespace BA
theorem eI(h:p:=by
 go_upto_region 5 with(fail);generalize hV:World.drew (World.alloc _ _)=V;have a9:Ext w V:=hV▸(bs.1.alloc _).drew;have b8:au V aL.heap.size 77 #[.int .i64 x.op,.int .i64 x.target,.bool x.c5,.int .i64 eo,.int .i64 en,.string es,.slice EA em ec,.bool x.place.param,.int .i64 x.place.index,.slice QA qm qc,.slice dg j dh,.slice KA de kc]:=hV▸Kg;have m:au V (w.heap.size+2) 77 #[.int .i64 0,.int .i64 0,.bool false,.int .i64 0,.int .i64 0,.string ⟨#[]⟩,.slice none 0 0,.bool false,.int .i64 0,.slice none 0 0,.slice none 0 0,.slice none 0 0]:=hV▸bs.2.aj ((Fr.refl _ aL).alloc _).drew;have dn:=b8.lt;have bR:=b9 a9 b8 m (ab.2.2.2.2.1.on a9);clear hV a9 m a0 al af cX cp bE cB aI c7 cM cl cA cH ca cf c0 c1 cn;obtain⟨a0,al,af⟩:=b8.two;clear b8;refine fj (λ_=>False) [(0,3),(1,0),(3,3),(4,0),(6,3),(7,0),(2,1),(9,3),(5,1),(8,2),(10,2),(11,3),(12,2),(13,3),(14,2)] ?_;refine pf ?_;refine ph ?_;refine pf ?_;refine ph ?_;refine pf ?_;refine ph ?_;refine aP rfl (λK hK=>?_);go_simp;refine(xj x.expr _ eo en es EA em ec (D.on bR.2.2.2.expr (Fr.ext (Fr.refl _ V).drew))).mono ?_;rintro e aV ⟨z,aH,ap,rfl,S,H⟩;have bO:=ak (Fr.aL H) S;refine gu hK (H) ?_;clear hK K;refine pf ?_;clear S H;refine aP rfl (λK hK=>?_);go_simp;refine(oE x.place aV QA qm qc (D.on bR.2.2.2.place (Fr.ext bO.1))).mono ?_;rintro e bV ⟨ac,bd,aZ,rfl,b2,b6⟩;have cb:=ak b6 b2;refine gu hK (b6) ?_;clear hK K;clear b2 b6;refine az rfl (λK hK=>?_);go_simp
 refine(oC x.ints (aC bW.1) bV dg j dh ((bR.2.2.2.ints.on (Fr.ext bO.1)).on (Fr.ext cb.1))).mono ?_;rintro e cE ⟨I,bv,bl,rfl,bj,bN,dk⟩;obtain rfl:bv=j:=by have:=bN.1;simp at this;have:=bW.1;omega
 have bJ:=((bR.2.1.aj bO.1).aj cb.1).aj dk;have bg:=b9 bj bN dk bJ;clear bj bN dk a0 al af;obtain⟨a0,al,af⟩:=bJ.two;clear bJ;refine eC hK ?_;clear hK K;refine az rfl (λK hK=>?_);go_simp;refine eC hK ?_;clear hK K;refine pf ?_;refine az rfl (λK hK=>?_);go_simp;refine eC hK ?_;clear hK K;refine pf ?_;refine az rfl (λK hK=>?_);go_simp;refine eC hK ?_;clear hK K;refine aG ?_;generalize hX:World.setCell _ _ _=X;have bI:Ext w cE:=((bR.1.trans bO.1).trans cb.1).trans bg.2.2.1;obtain⟨a2,aA⟩:=ej 3 [.int .i64 eo,.int .i64 en,.string es,.slice z aH ap,.bool x.place.param,.int .i64 x.place.index,.slice ac bd aZ,.slice I bv bl] bg.2.2.2 hX;have aK:au X aL.heap.size 77 #[.int .i64 x.op,.int .i64 x.target,.bool x.c5,.int .i64 eo,.int .i64 en,.string es,.slice z aH ap,.bool x.place.param,.int .i64 x.place.index,.slice ac bd aZ,.slice I bv bl,.slice KA de kc]:=by
  simpa[ij] using a2
 clear a2;have bz:=bO.1.size;have cu:=cb.1.size;have dc:=bg.2.2.1.size;have cj:V.drew.heap.size=V.heap.size:=rfl;have dR:=aA.size;have cL:D.rep X (λb=>aL.heap.size<b/\b<X.heap.size) (m8 x.expr) [.int .i64 eo,.int .i64 en,.string es,.slice z aH ap]:=
  D.aA (λb O=>(⟨by have:=O.1;omega,by have:=O.2;omega⟩:aL.heap.size<b/\b<X.heap.size)) _ _ (D.aD (λb O=>(aA.block b (aC O.2) (aC O.1)).trans ((bg.2.2.1.block b (aC O.2) λh=>h).trans (cb.1.block b O.2 λh=>h))) _ _ bO.2)
 have cP:D.rep X (λb=>aL.heap.size<b/\b<X.heap.size) (c8 x.place) [.bool x.place.param,.int .i64 x.place.index,.slice ac bd aZ]:=
  D.aA (λb O=>(⟨by have:=O.1;omega,by have:=O.2;omega⟩:aL.heap.size<b/\b<X.heap.size)) _ _ (D.aD (λb O=>(aA.block b (aC O.2) (aC O.1)).trans (bg.2.2.1.block b O.2 λh=>h)) _ _ cb.2)
 have cO:Sl X (λb=>aL.heap.size<b/\b<X.heap.size) I bv (x.ints.map bB):=
  (bg.2.1.al λb O=>aA.block b O.2 (aC O.1)).mono λb O=>⟨by have:=O.1;omega,by have:=O.2;omega⟩
 have bf:Ext w X:=Fr.low (M:=λb=>b=aL.heap.size) (Fr.trans (Fr.mono bI λ_ h=>h.elim) aA) λb O=>ad;have cW:=(((bR.2.2.1.aj bO.1).aj cb.1).aj bg.2.2.1).on aA ad;have aJ:=dq bf cW cL cP cO bg.1;have a6:=aK;clear hX bI aA aK bz cu dc dR cj cL cP cO bf cW a0 al af;obtain⟨a0,al,af⟩:=a6.two;go_upto_region 8 with(fail);generalize hX:World.setCell _ _ _=Y;obtain⟨a2,aA⟩:=ej 11 [.slice none 0 0] a6 hX;have bA:au Y aL.heap.size 77 #[.int .i64 x.op,.int .i64 x.target,.bool x.c5,.int .i64 eo,.int .i64 en,.string es,.slice z aH ap,.bool x.place.param,.int .i64 x.place.index,.slice ac bd aZ,.slice I bv bl,.slice none 0 0]:=by
  simpa[ij] using a2
 have ce:Ext w Y:=Fr.low (M:=λb=>b=aL.heap.size) (Fr.trans (Fr.mono aJ.1 λ_ h=>h.elim) aA) λb O=>by have:=bs.1.size;omega
 have di:=aA.size;have bw:=b9 ce (aJ.2.1.on aA (aC bs.2.lt)) aA bA;have bi:=bs.2.lt;have cd:aL.heap.size<X.heap.size:=by have:=a6.lt;omega
 clear hX a2 aA bA ce a6 a0 al af;go_wp2_with(fail);go_loopw [51] (λcr wr=>∃(k:Nat) (a1:Kj) (aW:Nat),cr=.int .i64 k/\k<=de/\Ext w wr/\Fr (λb=>b=aL.heap.size) Y wr/\au wr (w.heap.size+2) 77 #[.int .i64 0,.int .i64 0,.bool false,.int .i64 0,.int .i64 0,.string ⟨#[]⟩,.slice none 0 0,.bool false,.int .i64 0,.slice none 0 0,.slice none 0 0,.slice none 0 0]/\
   au wr aL.heap.size 77 #[.int .i64 x.op,.int .i64 x.target,.bool x.c5,.int .i64 eo,.int .i64 en,.string es,.slice z aH ap,.bool x.place.param,.int .i64 x.place.index,.slice ac bd aZ,.slice I bv bl,.slice a1 k aW]/\Gr (λb=>Y.heap.size<=b) Y.heap.size 74 3 wr a1 k aW ((x.places.take k).map c8)) (λcr _=>de - (intOf cr).toNat)
 case atStart=>exact⟨0,none,0,rfl,ad,bw.1,Kf,bw.2.1,bw.2.2.2,Gr.nil _ _ _ _ _⟩
 case round=>
  obtain⟨k,a1,aW,rfl,aj,ar,bm,cq,aK,hG⟩:=hrel;have bK:=dT ar bm cq aK hG;have cS:=bm.size;by_cases aq:k<de
  .obtain⟨b,o,y,cI,cJ,zc,rfl,O,aa,cD,b5,b3,bC,cF⟩:=(ab.2.2.2.2.1.places.on (Fr.ext ar)).rD aq;have aN:b<wr.heap.size:=O;have cw:=av aa bC cF;clear ar bm cq aK hG aa bC cF O;go_upto_region 11 with(fail);generalize hU:World.alloc _ _=U;have ci:=aY hU;have cK:=aF hU;have c6:=ci.size;have bp:=bK.2.2.2.1.aj ci;have cx:=dq (bK.1.trans ci) (Fr.trans bK.2.1 (ci.mono λ_ h=>h.elim)) (bK.2.2.1.aj ci) bp (bK.2.2.2.2.aj ci) (dB.2 ⟨cI,cJ,zc,rfl,cw.2.1,cw.2.2.on (Fr.ext ci)⟩:(c8 y).rep U (ao U) [.bool y.param,.int .i64 y.index,.slice cI cJ zc]);obtain⟨d0,aQ,aR⟩:=cK.two;obtain⟨a0,al,af⟩:=bp.two;clear hU ci cK bp cD b5 b3 aN;refine fj (λ_=>False) [(0,3),(1,0),(2,0),(3,1),(4,1),(5,2),(6,3),(7,2)] ?_;refine pf ?_
   iterate 2 refine ph ?_
   refine aP rfl (λK hK=>?_);go_simp;refine(oE y _ cI cJ zc (D.on cx.2.2.2.2.2 (Fr.ext (Fr.refl _ U).drew))).mono ?_;rintro e v1 ⟨dj,cz,df,rfl,P,L⟩;have H1:=ak P L;refine gu hK (L) ?_;clear hK K;have ag:Ext U v1:=Fr.aL L;have r:=cx.2.2.2.2.1.aj ag;have ct:=ag.size;have aE:∀b,(Value.slice a1 k aW).ownBlock=some b->b<U.heap.size:=λb O=>(cx.2.2.2.2.1.lt O).2;have hd:(c8 y).rep v1 (mS (λb=>Y.heap.size<=b) v1 (.slice a1 k aW)) (#[.bool y.param,.int .i64 y.index,.slice dj cz df]:Array Value).toList:=
    D.aA (λb O=>⟨by have:=O.1;have:U.drew.heap.size=U.heap.size:=rfl;omega,O.2,λh=>by have:=aE b h;have:=O.1;have:U.drew.heap.size=U.heap.size:=rfl;omega⟩) _ _ P
   have bt:=ak r hd;clear P L r hd aE;refine sG ?_;refine az rfl (λK hK=>?_);rw[if_pos (by rfl)];refine pt Gs (.tmp 56) (.tmp 59) rfl bt.1 bt.2 rfl rfl rfl ad ad ad ?_;intro bU c3 v2 bX g2 cv cR;have bc:∀b,(Value.slice a1 k aW).ownBlock=some b->Y.heap.size<=b:=λb O=>(bt.1.lt O).1;have bH:=(cx.2.2.2.1.aj ag).on g2 (λh=>by have:=bc _ h;omega);have bL:=(cx.2.2.1.aj ag).on g2 (λh=>by have:=bc _ h;omega);have a7:Ext w v2:=Fr.low (M:=λb=>(Value.slice a1 k aW).ownBlock=some b) (Fr.trans (Fr.mono (cx.1.trans ag) λ_ h=>h.elim) g2) λb O=>by have:=bc b O;omega
   have bZ:Fr (λb=>b=aL.heap.size) Y v2:=(Fr.trans cx.2.1 (ag.mono λ_ h=>h.elim)).mY (g2.below ad λb O hm=>by have:=bc b hm;omega);have bO:=dT a7 bZ bL bH bX;clear bX g2 cv cR bc bL a7 bZ a0 al af d0 aQ aR;obtain⟨a0,al,af⟩:=bH.two;refine eC hK ?_;clear hK K;refine pf ?_;refine az rfl (λK hK=>?_);go_simp;refine eC hK ?_;clear hK K;refine aG ?_;generalize hX:World.setCell v2 _ _=Z;obtain⟨a2,bu⟩:=ej 11 [.slice bU (k+1) c3] bO.2.2.2.1 hX;have bq:au Z aL.heap.size 77 #[.int .i64 x.op,.int .i64 x.target,.bool x.c5,.int .i64 eo,.int .i64 en,.string es,.slice z aH ap,.bool x.place.param,.int .i64 x.place.index,.slice ac bd aZ,.slice I bv bl,.slice bU (k+1) c3]:=by
    simpa[ij] using a2
   have N:=dT (Fr.low (M:=λb=>b=aL.heap.size) (Fr.trans (Fr.mono bO.1 λ_ h=>h.elim) bu) (λb O=>ad):Ext w Z) (Fr.trans bO.2.1 bu) (bO.2.2.1.on bu ad) bq (bO.2.2.2.2.eQ bu λb O _=>⟨ad,ad⟩);clear hX bu a2 bq a0 al af bH;go_wp2;go_roundw
   case rel=>exact⟨k+1,bU,c3,by go_num,ad,N.1,N.2.1,N.2.2.1,N.2.2.2.1,by rw[aX cw.1,JP];exact N.2.2.2.2⟩
   case measure=>exact aU
  .obtain rfl:k=de:=ad;obtain⟨a0,al,af⟩:=aK.two;obtain⟨bh,an,aM⟩:=cq.two;clear ar bm cq aK hG;go_wp2_with(fail);generalize hX:World.setCell _ _ _=Z;obtain⟨bq,a5,a4⟩:=bk (w:=w) [.int .i64 x.op,.int .i64 x.target,.bool x.c5,.int .i64 eo,.int .i64 en,.string es,.slice z aH ap,.bool x.place.param,.int .i64 x.place.index,.slice ac bd aZ,.slice I bv bl,.slice a1 k aW] (by rfl) bK.2.2.1 bK.1 ad hX;have bn:=ak a5 a4;clear hX a5 a4 a0 al af bh an aM;obtain⟨bh,an,aM⟩:=bq.two;clear bq;refine Ke (v:=.tuple #[.agg #[.int .i64 x.op,.int .i64 x.target,.bool x.c5,.int .i64 eo,.int .i64 en,.string es,.slice z aH ap,.bool x.place.param,.int .i64 x.place.index,.slice ac bd aZ,.slice I bv bl,.slice a1 k aW],.bool true]) (by simp[results,Tryz.results22,go_sem,bh]) rfl ?_;have aS:=bK.2.2.2.2.eQ bn.2 λb O _=>⟨ad,ad⟩
   rw[JQ (aC bW.2)] at aS;have cF:=bn.2.size;have R:∀b,(aL.heap.size<b/\b<X.heap.size)->Z.heap[b]?=X.heap[b]?:=λb O=>(bn.2.block b ad ad).trans ((bK.2.1.block b ad ad).trans (bw.2.2.1.block b O.2 ad));have ck:∀b,(aL.heap.size<b/\b<X.heap.size)->ao Z b:=λb O=>by show b<Z.heap.size;omega
   exact⟨⟨eo,en,es,z,aH,ap,ac,bd,aZ,I,bv,bl,a1,k,aW⟩,rfl,⟨D.aA ck _ _ (D.aD R _ _ aJ.2.2.1),D.aA ck _ _ (D.aD R _ _ aJ.2.2.2.1),(aJ.2.2.2.2.1.al R).mono ck,aJ.2.2.2.2.2,aS.sl (λb aq O=>aq) (λb aq O=>aq),aS.cap.1⟩,bn.1⟩
 ):p:=h
theorem zS(h:p:=by
 have cy:=J.lf;have c0:=J.c0;have c1:=J.c1;clear ag aO a8 ch br aB;go_upto_region 4 with(fail);refine fj (λ_=>False) [(0,3),(1,0),(2,3),(3,3),(4,3),(5,0),(6,3),(7,3),(8,0),(9,3),(10,3),(11,3),(12,0),(13,3),(14,0),(15,1),(16,2)] ?_;refine pf ?_;refine ph ?_
 iterate 3 refine pf ?_
 refine ph ?_
 iterate 2 refine pf ?_
 refine ph ?_
 iterate 3 refine pf ?_
 refine ph ?_;refine pf ?_;refine ph ?_;refine sG ?_;exact gM
 ):p:=h
theorem gL(h:p:=by
 obtain⟨O,bb,bT,cT,n,fc,IA,i,ic,bo,l,lc,e,hT⟩:=hs.at_.top T ht;simp only at e;subst e;obtain⟨pb,db,aD,co,cN,bx,v,e,ch,b4,c4,br,bG,bD,Q⟩:=hu.at_.code hp hx p0 bS;simp only at e;subst e;simp only at b4;obtain⟨eo,en,es,EA,em,ec,QA,qm,qc,dg,j,dh,KA,de,kc⟩:=v;have bF:x.ints.length=j:=by have:=bD.ints.1;simpa using this
 have aT:x.places.length=de:=by have:=bD.places.1;simpa using this
 have cY:j<=200:=ad;have c9:de<=200:=ad;dsimp only[UV.val,SV.val,IV.val] at Q ⊢;go_enter func22,ntmps22;go_upto_region 1 with(fail);generalize ba:World.alloc _ _=W;have ar:=l6 ba;have bJ:=jV ba;have b7:=iF ba;have cq:=jD ba;have ab:=jE ar bJ b7 cq bD c4 Q;have b1:=ae (hT.on ar);have bW:=ak bF aT;obtain⟨b0,am,aw⟩:=b7.two;clear ba ar bJ b7 cq hT hu hs T ht hp hx bD c4 Q bF aT cC bM;go_wp2_with(fail);refine(ks b1.o _ _ _).mono ?_;rintro e aL ⟨rfl,ag⟩;have J:=ae (b1.on ag);have aO:Ext w aL:=ab.1.trans ag;have bs:=ak aO (ab.2.2.2.1.aj ag);clear b0 am aw b1;obtain⟨a0,al,af⟩:=(ab.2.1.aj ag).two;have aB:=aO.size;have cm:=bs.2.lt;have a3:pb<aL.heap.size:=ad;have bY:aD<aL.heap.size:=ad;have cn:=(aO.cell (j:=db+f.proc.toNat*5+4) ch λh=>h).trans ab.2.2.2.2.2.1;have a8:∀j u,_->aL.cell? ⟨aD,co+f.pc.toNat*12+j,none⟩=some u:=λj u be=>(aO.cell (j:=co+f.pc.toNat*12+j) br λh=>h).trans (ab.2.2.2.2.2.2 j u be);exact zR
 ):p:=h
end BA
open BA in
theorem su(u:ay)(s:ah)(t:Int)(f:ai)(cc:cG)(x:ax)(w:World)(p:UV)(q:SV)(h:Ge u s t f cc x w p q) :
  Calls prog 22 #[.agg (p.val u),.agg (q.val s),.int .i64 t] w (E6 w x):=by
 obtain⟨T,ht,hp,hx,p0,bS,cC,bM,hu,hs⟩:=h;exact gK
abbrev rS:Array Value:=#[.int .i64 0,.int .i64 0,.bool false,.int .i64 0,.int .i64 0,.string ⟨#[]⟩,.slice none 0 0,.bool false,.int .i64 0,.slice none 0 0,.slice none 0 0,.slice none 0 0]
structure SV.Is(q:SV)(w:World)(P:Nat->Prop)(s:ah):Prop where
 at_:kR w P s q.GA q.gn q.TA q.tn q.HA q.hn
 gc:q.gn<=q.gc
 tc:q.tn<=q.tc
 hc:q.hn<=q.hc
def cH(P:Nat->Prop)(w:World)(s:ah)(b:Bool)(e:Ending)(J:World):Prop:=∃q:SV,e=.returned (.tuple #[.agg (q.val s),.bool b])/\q.Is J (λk=>P k\/(w.heap.size<=k/\k<J.heap.size)) s/\Ext w J
abbrev lO:Nat->Prop:=λ_=>False
theorem SV.Is.ok{q:SV}{w:World}{s:ah}(h:q.Is w P s)(S:∀b,P b->b<w.heap.size):q.Ok w s:=⟨h.at_.mono S,h.gc,h.tc,h.hc⟩
theorem SV.Is.mono{q:SV}{w:World}{P c5:Nat->Prop}{s:ah}(h:q.Is w P s)(S:∀b,P b->c5 b):q.Is w c5 s:=⟨h.at_.mono S,h.gc,h.tc,h.hc⟩
theorem SV.Is.al{q:SV}{w J:World}{P:Nat->Prop}{s:ah}(h:q.Is w P s)(aj:∀b,P b->J.heap[b]?=w.heap[b]?):q.Is J P s:=⟨⟨h.at_.g.al aj,h.at_.t.al aj,h.at_.h.al aj⟩,h.gc,h.tc,h.hc⟩
theorem pz.sv{w:World}{s:ah}{TA HA:Kj}{gc tn tc hn hc:Nat}{xs:List Value}{F1 F2 bj bI:List Nat}(h:pz w s GA gn gc TA tn tc HA hn hc xs F1 F2 bj bI)(hl:∀b∈F1++(F2++(bj++bI)),P b):(⟨GA,gn,gc,TA,tn,tc,HA,hn,hc⟩:SV).Is w P s:=
 ⟨h.at_ hl,h.g.cap,h.t.cap,h.h.cap⟩
theorem rv(s:ah)(q:SV)(w:World)(h:q.Ok w s)(T:Small s):Calls prog 23 #[.agg (q.val s)] w λe J=>∃ao:SV,e=.returned (.agg (ao.val s))/\ao.Is J (fresh w J) s/\Ext w J:=by
 refine(fa s q.GA q.TA q.HA q.gn q.gc q.tn q.tc q.hn q.hc w h.at_ T).mono ?_;rintro e J ⟨GA,gc,TA,tc,HA,hc,xs,F1,F2,bj,bI,rfl,ch,bc,ar⟩;exact⟨⟨GA,q.gn,gc,TA,q.tn,tc,HA,q.hn,hc⟩,rfl,ch.sv bc,ar⟩
namespace BB
theorem gL(h:p:=by
 have bF:=ak hs ht;clear hs ht;dsimp only[UV.val,SV.val];go_enter func22,ntmps22;go_upto_region 1 with(fail);generalize ba:World.alloc _ _=W;have ar:=l6 ba;have b7:=iF ba;have cq:=jD ba;have ab:=ak ar cq;obtain⟨b0,am,aw⟩:=b7.two;clear ba ar b7 cq;go_wp2_with(fail);refine(xk s bP TA HA cg bQ tn tc hn hc t W (bF.1.on ab.1).at_ bF.2).mono ?_;rintro e aL ⟨rfl,ag⟩;have f:=ab.2.aj ag;have bs:=ak (ab.1.trans ag) f;clear b0 am aw ag;obtain⟨bh,an,aM⟩:=f.two;clear f;go_wp2_with(fail);generalize hX:World.setCell _ _ _=Z;obtain⟨bq,a5,a4⟩:=bk (w:=w) [.int .i64 0,.int .i64 0,.bool false,.int .i64 0,.int .i64 0,.string ⟨#[]⟩,.slice none 0 0,.bool false,.int .i64 0,.slice none 0 0,.slice none 0 0,.slice none 0 0] (by rfl) bs.2 bs.1 ad hX;have bn:=ae a5;clear hX a5 a4 bh an aM;obtain⟨bh,an,aM⟩:=bq.two;refine Ke (v:=.tuple #[.agg rS,.bool false]) (by simp[results,Tryz.results22,go_sem,bh]) rfl ?_;exact⟨rfl,bn.o⟩
 ):p:=h
end BB
open BB in
theorem ss(u:ay)(s:ah)(t:Int)(w:World)(p:UV)(q:SV)(hs:q.Ok w s)(ht:dJ s t=none) :
  Calls prog 22 #[.agg (p.val u),.agg (q.val s),.int .i64 t] w λe J=>e=.returned (.tuple #[.agg rS,.bool false])/\Ext w J:=by
 exact gK
namespace BC
theorem gL(h:p:=by
 have bF:=ak hs ht;clear hs ht;dsimp only[UV.val,SV.val];go_enter func71,ntmps71;go_upto_region 1 with(fail);generalize ba:World.alloc _ _=W;have ar:=l6 ba;have b7:=iF ba;have cq:=jD ba;have ab:=ak ar cq;obtain⟨b0,am,aw⟩:=b7.two;clear ba ar b7 cq;go_wp2_with(fail);refine(xw s bP TA HA cg bQ tn tc hn hc t W (bF.1.on ab.1).at_ bF.2).mono ?_;rintro e aL ⟨rfl,ag⟩;have f:=ab.2.aj ag;have bs:=ak (ab.1.trans ag) f;clear b0 am aw ag f;go_upto_region 2 with(fail);generalize hV:World.alloc _ _=V;have a9:=aY hV;have m:=bs.2.aj a9;have bR:=ak (bs.1.trans a9) m;obtain⟨bh,an,aM⟩:=m.two;clear hV a9 m;go_wp2_with(fail);generalize hX:World.setCell _ _ _=Z;obtain⟨bq,a5,a4⟩:=bk (w:=w) [.int .i64 0,.int .i64 0,.bool false,.int .i64 0,.int .i64 0,.string ⟨#[]⟩,.slice none 0 0,.bool false,.int .i64 0,.slice none 0 0,.slice none 0 0,.slice none 0 0] (by rfl) bR.2 bR.1 ad hX;have bn:=ae a5;clear hX a5 a4 bh an aM;obtain⟨bh,an,aM⟩:=bq.two;refine Ke (v:=.tuple #[.agg rS,.bool false]) (by simp[results,Tryz.results71,go_sem,bh]) rfl ?_;exact⟨rfl,bn.o⟩
 ):p:=h
end BC
open BC in
theorem sR(u:ay)(s:ah)(t:Int)(w:World)(p:UV)(q:SV)(hs:q.Ok w s)(ht:dJ s t=none) :
  Calls prog 71 #[.agg (p.val u),.agg (q.val s),.int .i64 t] w λe J=>e=.returned (.tuple #[.agg rS,.bool false])/\Ext w J:=by
 exact gK
namespace BD
theorem kT(h:p:=by
 have ab:=av ar aK cq;obtain⟨b0,am,aw⟩:=aK.two;clear ba ar aK cq;go_wp2_with(fail);refine(rv s ⟨bP,cg,bQ,TA,tn,tc,HA,hn,hc⟩ W (bF.1.on ab.1) bF.2).mono ?_;rintro e aL ⟨⟨aN,aU,a3,S,m,aX,bG,cd,aO⟩,rfl,b2,ag⟩;have cA:=ab.2.1.aj ag;have H1:=b9 b2 (ab.1.trans ag) cA (ab.2.2.aj ag);clear b0 am aw b2 ag;obtain⟨b0,am,aw⟩:=cA.two;clear cA;go_upto_region 3 with(fail);generalize hX:World.setCell _ _ _=X;obtain⟨bp,aA⟩:=ej 3 [.int .i64 z] (ej 0 [.slice aN aU a3,.slice S m aX,.slice bG cd aO,.int .i64 s.fault] H1.2.2.1 rfl).1 hX;have ax:Fr (λb=>b=w.heap.size) aL X:=(ej 0 [.slice aN aU a3,.slice S m aX,.slice bG cd aO,.int .i64 s.fault] H1.2.2.1 rfl).2.trans aA;have bH:au X w.heap.size 31 #[.slice aN aU a3,.slice S m aX,.slice bG cd aO,.int .i64 z]:=by simpa[ij] using bp
 have cW:=H1.2.2.2.on ax ad;have bf:Ext w X:=Fr.low (M:=λb=>b=w.heap.size) (Fr.trans (Fr.mono H1.2.1 λ_ h=>h.elim) ax) λb O=>ad;have aJ:=av bf cW ax;clear hX bp aA ax b0 am aw bf;obtain⟨b0,am,aw⟩:=bH.two;obtain⟨bh,an,aM⟩:=cW.two;clear bH cW;go_wp2_with(fail);generalize hX:World.setCell _ _ _=Z;obtain⟨bq,a5,a4⟩:=bk (w:=w) [.slice aN aU a3,.slice S m aX,.slice bG cd aO,.int .i64 z] (by rfl) aJ.2.1 aJ.1 ad hX;have bn:=ak a5 a4;clear hX a5 a4 bh an aM b0 am aw;obtain⟨bh,an,aM⟩:=bq.two;refine Ke (v:=.tuple #[.agg #[.slice aN aU a3,.slice S m aX,.slice bG cd aO,.int .i64 z],.bool true]) (by simp[results,Tryz.results65,go_sem,bh]) rfl ?_;have bi:=aJ.2.2.size;have cF:=bn.2.size;have u:w.heap.size+1<W.heap.size:=ab.2.2.lt;have I:(⟨aN,aU,a3,S,m,aX,bG,cd,aO⟩:SV).Is Z (fresh W aL) {s with fault:=z}:=SV.Is.al (w:=aL) ⟨⟨H1.1.at_.g,H1.1.at_.t,H1.1.at_.h⟩,H1.1.gc,H1.1.tc,H1.1.hc⟩ λb O=>(bn.2.block b (aC O.2) (aC O.1)).trans (aJ.2.2.block b O.2 (aC O.1));exact⟨⟨aN,aU,a3,S,m,aX,bG,cd,aO⟩,rfl,I.mono λb O=>.inr ⟨by have:=O.1;omega,by have:=O.2;omega⟩,bn.1⟩
 ):p:=h
end BD
open BD in
theorem kq(s:ah)(q:SV)(z:Int)(w:World)(h:q.Ok w s)(T:Small s):Calls prog 65 #[.agg (q.val s),.int .i64 z] w (cH lO w {s with fault:=z} true):=by
 obtain⟨bP,cg,bQ,TA,tn,tc,HA,hn,hc⟩:=q;have bF:=ak h T;clear h T;dsimp only[SV.val];go_enter func65,ntmps65;exact kS
namespace BE
theorem kT(h:p:=by
 have ab:=av ar aK cq;obtain⟨b0,am,aw⟩:=aK.two;clear ba ar aK cq;go_upto_region 2 with(fail);generalize hX:World.setCell _ _ _=X;obtain⟨bp,aA⟩:=ej 3 [.int .i64 z] ab.2.1 hX;have bH:au X w.heap.size 31 #[.slice bP cg bQ,.slice TA tn tc,.slice HA hn hc,.int .i64 z]:=by simpa[ij] using bp
 have cW:=ab.2.2.on aA ad;have bf:Ext w X:=Fr.low (M:=λb=>b=w.heap.size) (Fr.trans (Fr.mono ab.1 λ_ h=>h.elim) aA) λb O=>ad;have aJ:=ak bf cW;clear hX bp aA b0 am aw bf;obtain⟨b0,am,aw⟩:=bH.two;obtain⟨bh,an,aM⟩:=cW.two;clear bH cW;go_wp2_with(fail);generalize hX:World.setCell _ _ _=Z;obtain⟨bq,a5,a4⟩:=bk (w:=w) [.slice bP cg bQ,.slice TA tn tc,.slice HA hn hc,.int .i64 z] (by rfl) aJ.2 aJ.1 ad hX;have bn:=ae a5;clear hX a5 a4 bh an aM b0 am aw;obtain⟨bh,an,aM⟩:=bq.two;refine Ke (v:=.tuple #[.agg #[.slice bP cg bQ,.slice TA tn tc,.slice HA hn hc,.int .i64 z],.bool true]) (by simp[results,Tryz.results74,go_sem,bh]) rfl ?_;have bb:=bF.1.al (J:=Z) λb O=>bn.block b (bF.2 b O) λh=>h;exact⟨⟨bP,cg,bQ,TA,tn,tc,HA,hn,hc⟩,rfl,SV.Is.mono ⟨⟨bb.at_.g,bb.at_.t,bb.at_.h⟩,bb.gc,bb.tc,bb.hc⟩ λb O=>.inl O,bn.o⟩
 ):p:=h
end BE
open BE in
theorem nC(P:Nat->Prop)(s:ah)(q:SV)(z:Int)(w:World)(h:q.Is w P s)(S:∀b,P b->b<w.heap.size):Calls prog 74 #[.agg (q.val s),.int .i64 z] w (cH P w {s with fault:=z} true):=by
 obtain⟨bP,cg,bQ,TA,tn,tc,HA,hn,hc⟩:=q;have bF:=ak h S;clear h S;dsimp only[SV.val];go_enter func74,ntmps74;exact kS
theorem HE(o c:Value)(O hn hc bT n fc:Nat)(t:Int)(w:World)(h0:0<=t)(aq:t<hn)(dr:O<w.heap.size)(Q:w.cell? ⟨O,t.toNat,none⟩=some (.slice (some ⟨bT,0,none⟩) (n+1) fc))(ao:n<=1000000) :
  Calls prog 27 #[.agg #[o,c,.slice (some ⟨O,0,none⟩) hn hc,.int .i64 0],.int .i64 t] w λe J=>e=.returned (.pointer (some ⟨bT,n*4,none⟩))/\Ext w J:=by
 have:=wk o c O 0 hn hc bT 0 n fc t w h0 aq dr (by rw[J0];exact Q) ao
 rwa [J0] at this
theorem dG{s:ah}{U:ai}(h:s.threads[t.toNat]?=some (fs++[f])):bg s t U={s with threads:=s.threads.set t.toNat (fs++[U])}:=by
 unfold bg;rw[kr h,jY]
theorem rh{w:World}{ak j:Nat}{v:Value}(h:g≠ak\/i≠j):(w.setCell ⟨g,i,none⟩ v).cell? ⟨ak,j,none⟩=w.cell? ⟨ak,j,none⟩:=by
 apply World.cell?_setCell_other
 intro he;injection he with ac ap;omega
structure df(B:Nat)(w:World)(s:ah)(N:Nat)(q:SV)(xs:List Value)(F1 F2 bj bI:List Nat):Prop where
 st:pz w s q.GA q.gn q.gc q.TA q.tn q.tc q.HA q.hn q.hc xs F1 F2 bj bI
 o:au w N 31 (q.val s)
 ne:N∉F1++(F2++(bj++bI))
 lo:∀b∈F1++(F2++(bj++bI)),B<=b/\b<w.heap.size
 go:B<=N
section
variable {B:Nat} {w J:World} {s:ah} {N:Nat} {q:SV} {xs:List Value} {F1 F2 bj bI:List Nat}
theorem df.aj(h:df B w s N q xs F1 F2 bj bI)(he:Ext w J):df B J s N q xs F1 F2 bj bI:=
 ⟨h.st.al λb O=>he.block b (h.lo b O).2 λh=>h,h.o.aj he,h.ne,λb O=>⟨(h.lo b O).1,JJ (h.lo b O).2 he.size⟩,h.go⟩
theorem df.eQ{M:Nat->Prop}(h:df B w s N q xs F1 F2 bj bI)(he:Fr M w J)(hM:∀b,M b->b<B):df B J s N q xs F1 F2 bj bI:=
 ⟨h.st.al λb O=>he.block b (h.lo b O).2 λhm=>by have:=hM b hm;have:=(h.lo b O).1;omega,h.o.on he (λhm=>by have:=hM N hm;have:=h.go;omega),h.ne,λb O=>⟨(h.lo b O).1,JJ (h.lo b O).2 he.size⟩,h.go⟩
theorem df.store(h:df B w s N q xs F1 F2 bj bI){aB:ah}{p:Addr}{u:Value}(hp:p.block∈F1++(F2++(bj++bI)))(ch:pz (w.setCell p u) aB q.GA q.gn q.gc q.TA q.tn q.tc q.HA q.hn q.hc xs F1 F2 bj bI)(aA:aB.fault=s.fault):df B (w.setCell p u) aB N q xs F1 F2 bj bI:=by
 refine⟨ch,?_,h.ne,λb O=>⟨(h.lo b O).1,by simpa[World.setCell] using (h.lo b O).2⟩,h.go⟩;have:=h.o.Ie (p:=p) (λhe=>h.ne (he▸hp)) u;unfold SV.val at this ⊢
 rwa [aA]
theorem df.ok(h:df B w s N q xs F1 F2 bj bI):q.Is w (λb=>B<=b/\b<w.heap.size) s:=(show (⟨q.GA,q.gn,q.gc,q.TA,q.tn,q.tc,q.HA,q.hn,q.hc⟩:SV).Is w _ s from h.st.sv h.lo)
structure qK(B:Nat)(w:World)(s:ah)(N:Nat)(q:SV)(xs:List Value)(F1 F2 bj bI:List Nat)(t:Int)(fs:List ai)(f:ai)(bT:Nat)(IA:Kj)(i ic:Nat)(bo:Kj)(l lc:Nat):Prop where
 oz:df B w s N q xs F1 F2 bj bI
 lt:bT<w.heap.size
 c0:w.cell? ⟨bT,fs.length*4,none⟩=some (.int .i64 f.proc)
 c1:w.cell? ⟨bT,fs.length*4+1,none⟩=some (.int .i64 f.pc)
 c2:w.cell? ⟨bT,fs.length*4+2,none⟩=some (.slice IA i ic)
 c3:w.cell? ⟨bT,fs.length*4+3,none⟩=some (.slice bo l lc)
 fz:∀j,w.frozen? ⟨bT,j,none⟩=false
 ne:bT≠N
 ge:B<=bT
 hd:∃O fc,q.HA=some ⟨O,0,none⟩/\t.toNat<q.hn/\O<w.heap.size/\O≠bT/\O≠N/\B<=O/\(∀j,w.frozen? ⟨O,j,none⟩=false)/\w.cell? ⟨O,t.toNat,none⟩=some (.slice (some ⟨bT,0,none⟩) (fs.length+1) fc)/\fs.length+1<=fc
 pc:∀v,df B (w.setCell ⟨bT,fs.length*4+1,none⟩ (.int .i64 v)) {s with threads:=s.threads.set t.toNat (fs++[{f with pc:=v}])} N q xs F1 F2 bj bI
 ints:∀j v,j<i->∃T,IA=some ⟨T,0,none⟩/\T<w.heap.size/\w.frozen? ⟨T,j,none⟩=false/\(∃u,w.cell? ⟨T,j,none⟩=some u)/\T≠N/\B<=T/\df B (w.setCell ⟨T,j,none⟩ (.int .i64 v)) {s with threads:=s.threads.set t.toNat (fs++[{f with ints:=f.ints.set j v}])} N q xs F1 F2 bj bI
theorem df.F7(bb:df B w s N q xs F1 F2 bj bI)(bx:s.threads[t.toNat]?=some (fs++[f])){O bT fc:Nat}(lJ:q.HA=some ⟨O,0,none⟩)
  (hc:w.cell? ⟨O,t.toNat,none⟩=some (.slice (some ⟨bT,0,none⟩) (fs.length+1) fc)) (c2:w.cell? ⟨bT,fs.length*4+2,none⟩=some (.slice IA i ic)) (c3:w.cell? ⟨bT,fs.length*4+3,none⟩=some (.slice bo l lc)) :
  qK B w s N q xs F1 F2 bj bI t fs f bT IA i ic bo l lc:=by
 have bA:∀b,b∈bI->b∈F1++(F2++(bj++bI)):=λb O=>by simp[O]
 have bu:∀b,b∈bj->b∈F1++(F2++(bj++bI)):=λb O=>by simp[O]
 obtain⟨aN,p,b7,bg,u,dJ,a4,aM,bi,d,n,cF,m,bR,a,F,bO,aO,h,d0,d1,d2,d3,k,e,o,c,_⟩:=bb.st.top bx;have e1:=lJ.symm.trans d;injection e1 with e1;injection e1 with e1 _;subst e1;have e2:=hc.symm.trans aO;injection e2 with e2;injection e2 with e2 _ e3;injection e2 with e2;injection e2 with e2 _;subst e2 e3;have cn:=c2.symm.trans d2;injection cn with cn;injection cn with cn ci bL;subst cn ci bL;have e7:=c3.symm.trans d3;injection e7 with e7;injection e7 with e7 e8 e9;subst e7 e8 e9;refine⟨bb,m,d0,d1,d2,d3,e,λhe=>bb.ne (he▸bA _ a),(bb.lo _ (bA _ a)).1,⟨O,fc,d,n,cF,?_,λhe=>bb.ne (he▸bu _ bR),(bb.lo _ (bu _ bR)).1,k,aO,h⟩,λv=>bb.store (bA _ a) (o v) rfl,λj v be=>?_⟩
 .intro he;subst he;have nd:=bb.st.nd;have n1:=(List.nodup_append.1 nd).2.1;have n2:=(List.nodup_append.1 n1).2.1;exact(List.nodup_append.1 n2).2.2 O bR O a rfl
 .obtain⟨T,aR,cC,g,r,bJ,ch⟩:=c j v be;exact⟨T,aR,cC,r,bJ,λhe=>bb.ne (he▸bA _ g),(bb.lo _ (bA _ g)).1,bb.store (bA _ g) ch rfl⟩
theorem df.top(h:df B w s N q xs F1 F2 bj bI){t:Int}{fs:List ai}{f:ai}(bx:s.threads[t.toNat]?=some (fs++[f]))(h0:0<=t)(cr:s.fault=0)(ao:fs.length<=1000000) :
  ∃bT IA i ic bo l lc,i=f.ints.length/\l=f.aq.length/\
   (∀J,Ext w J->Calls prog 27 #[.agg (q.val s),.int .i64 t] J λe j=>e=.returned (.pointer (some ⟨bT,fs.length*4,none⟩))/\Ext J j)/\
   ∀J,Ext w J->qK B J s N q xs F1 F2 bj bI t fs f bT IA i ic bo l lc:=by
 obtain⟨O,bT,fc,IA,i,ic,bo,l,lc,lJ,aT,bB,b3,aE,aP,I,hl,hc,ax,c0,c1,c2,c3,g,a,c4,hints,_⟩:=h.st.top bx;refine⟨bT,IA,i,ic,bo,l,lc,I,hl,λJ he=>?_,λJ he=>?_⟩
 .have:=HE (.slice q.GA q.gn q.gc) (.slice q.TA q.tn q.tc) O q.hn q.hc bT fs.length fc t J h0 ad (JJ bB he.size) ((he.cell bB λh=>h).trans hc) ao;unfold SV.val;rw[lJ,cr];exact this
 .exact(h.aj he).F7 bx lJ ((he.cell bB λh=>h).trans hc) ((he.cell b3 λh=>h).trans c2) ((he.cell b3 λh=>h).trans c3)
theorem qK.H2{bT:Nat}(h:qK B w s N q xs F1 F2 bj bI t fs f bT IA i ic bo l lc)(bx:s.threads[t.toNat]?=some (fs++[f]))(v:Int):
  qK B (w.setCell ⟨bT,fs.length*4+1,none⟩ (.int .i64 v)) {s with threads:=s.threads.set t.toNat (fs++[{f with pc:=v}])} N q xs F1 F2 bj bI t fs {f with pc:=v} bT IA i ic bo l lc:=by
 obtain⟨O,fc,lJ,_,bB,aH,_,_,_,hc,_⟩:=h.hd;have aq:=(List.getElem?_eq_some_iff.1 bx).1;exact(h.pc v).F7 (by simp[aq]) lJ ((rh (.inl (Ne.symm aH))).trans hc) ((rh (.inr ad)).trans h.c2) ((rh (.inr ad)).trans h.c3)
theorem df.c5(h:df B w s N q xs F1 F2 bj bI){j:Nat}(be:j<q.gn):∃a1,q.GA=some ⟨a1,0,none⟩/\a1<w.heap.size/\w.frozen? ⟨a1,j,none⟩=false/\(∃u,w.cell? ⟨a1,j,none⟩=some u)/\a1≠N/\B<=a1/\
  ∀v,df B (w.setCell ⟨a1,j,none⟩ (.int .i64 v)) {s with globals:=s.globals.set j v} N q xs F1 F2 bj bI:=by
 obtain⟨a1,hG,hl,aA,hc,hm,ch⟩:=h.st.c5 be;have cQ:a1∈F1++(F2++(bj++bI)):=by simp[hm]
 exact⟨a1,hG,hl,aA,hc,λhe=>h.ne (he▸cQ),(h.lo _ cQ).1,λv=>h.store cQ (ch v) rfl⟩
end
end Go.Proofs.YtnigabjngpnbiaaGreat

/- Part 18 of the proof. No condition of its own. -/
import Derived.Test.YtflecliffjbleaaGreatQ17
namespace Go.Proofs.YtflecliffjbleaaGreat
open Go.RowKit Go.Proofs.Tryz
set_option maxRecDepth 1000000
set_option maxHeartbeats 25600000
set_option linter.unusedVariables false
variable{nl t:Int}{fs:List al}{gn l:Nat}{P:Nat->Prop}{GA S:LP}{p:Prop}{f:al}{u:av}{x:ay}{pl:bJ}{Q:di}
theorem jV{s:ag}(h:da s t=some f):xS u s t pl=bp u s f pl:=by unfold xS;rw[h]
theorem rM{s:ag}(h:pl.param=true):bp u s f pl=(f.aw.getD pl.index.toNat 0,0):=by unfold bp;rw[if_pos h]
theorem yC{s:ag}(h:pl.param=false)(J:(cO u s f pl).2≠0):bp u s f pl=(0,(cO u s f pl).2):=by unfold bp;rw[if_neg (by simp[h]),if_pos J]
theorem pV{s:ag}(h:pl.param=false)(J:(cO u s f pl).2=0):bp u s f pl=(eP u.ae pl.index+(cO u s f pl).1,0):=by unfold bp;rw[if_neg (by simp[h]),if_neg ab]
theorem Dd{s:ag}{nk:Int}(hU:cP u)(hF:b0 u f)(ai:nk<=f.aw.length)(hx:cI (bj u) nl nk pl)(h:pl.param=false)(J:(cO u s f pl).2=0):
  0<=eP u.ae pl.index+(cO u s f pl).1/\eP u.ae pl.index+(cO u s f pl).1<=5000:=by
 have ae:=(iu (s:=s) hU hF ai hx).2;rw[pV h J] at ae;have:=mb hU;have:=ae rfl;simp only at this;omega
theorem DU{w:World}(hx:cI (bj u) nl f.aw.length pl)(h:pl.param=true)(hl:Sl w (au w) S l (f.aw.map D.i)):
  0<=pl.index/\pl.index<l/\∃b o,S=some ⟨b,o,none⟩/\b<w.heap.size/\w.cell? ⟨b,o+pl.index.toNat,none⟩=some (.int .i64 (f.aw.getD pl.index.toNat 0)):=by
 rcases hx with⟨_,ae,aD,_⟩|⟨ae,_⟩
 .have hn:=hl.1;rw[Lf] at hn;obtain⟨b,o,x,bp,O,hx,hc⟩:=hl.ints.int (k:=pl.index.toNat) ab;refine⟨ae,ab,b,o,bp,O,?_⟩;rw[List.getD_eq_getElem?_getD,hx];exact hc
 .rw[h] at ae;cases ae
structure Ig(u:av)(s:ag)(t:Int)(f:al)(pl:bJ)(N:Nat)(w:World)(p:UV)(q:SV)(QA:LP)(qm qc:Nat):Prop where
 hU:cP u
 hS:aS u N s
 sm:Small s
 ht:da s t=some f
 hx:∃Q,u.procs[f.proc.toNat]?=some Q/\cI (bj u) Q.locals Q.aw pl
 u:p.Ok w u
 s:q.Ok w s
 pl:(ds pl).rep w (au w) [.bool pl.param,.int .i64 pl.index,.slice QA qm qc]
theorem b0.wx(hF:b0 u f)(hp:u.procs[f.proc.toNat]?=some Q):(f.aw.length:Int)=Q.aw:=by
 obtain⟨p,h,_,_,aD⟩:=hF.ex;rw[hp] at h;injection h with h;rw[h];exact aD
namespace BE
theorem AE(h:p:=by
 clear k ar m a2 a9 a0 ap aj a3 am aJ d0 af aS c2 c3;obtain⟨a0,ap,aj⟩:=((aH.2.1.aj a7.1).aj a7.2).two;obtain⟨d0,af,aS⟩:=((aH.2.2.2.1.aj a7.1).aj a7.2).two;refine eL hK ?_;clear hK K
 iterate 5 refine pf ?_
 refine aB ?_;by_cases ba:z=0
 .have q5:(z != 0)=false:=by simpa using ba
  have ac:=bB.1 ba;have cj:=ad (bB.2.2 ba);subst ba;generalize aN:eP u.ae pl.index=B at *;have bx:=ad aN;clear aN bB;go_wp2_with(fail);refine(C2 MA mn mc u.ae pl.index aV ((aH.2.2.2.2.1.on a7.1).on a7.2).at_.m.rr aR.1.EH cq).mono ?_;rintro e b3 ⟨rfl,aA⟩;rw[bx.o];have bX:=ad (((aH.1.trans a7.1).trans a7.2).trans (Fr.of aA));clear aA a0 ap aj d0 af aS;go_wp2
  go_ret2
  exact fS.mk' cj.o (Fr.ext bX.o)
 .have q5:(z != 0)=true:=by simpa using ba
  have cj:=ad (bB.2.1 ba);clear ba bB;go_wp2_with(fail)
  go_ret2
  exact fS.mk' cj.o (Fr.ext ((aH.1.trans a7.1).trans a7.2))
 ):p:=h
theorem Am(h:p:=by
 refine(r3 L.o _ _ _).mono ?_;rintro e aP ⟨rfl,aF⟩;have r:=ad (L.on aF);have bs:=ad aF;clear a0 ap aj a3 am aJ d0 af aS;obtain⟨a0,ap,aj⟩:=(aH.2.1.aj aF).two;obtain⟨a3,am,aJ⟩:=(aH.2.2.1.aj aF).two;obtain⟨d0,af,aS⟩:=(aH.2.2.2.1.aj aF).two;have bk:=r.lf;have c2:=r.c2;have c3:=r.c3;clear aF L
 cases j:pl.param with
 | true=>
  rw[j] at d0;obtain⟨f1,cW,lb,lo,rfl,bt,aK⟩:=DU aR.2.2.2.2.2 j r.aw;have aa:=rM (u:=u) (s:=s) (f:=f) j;generalize hV:f.aw.getD pl.index.toNat 0=V at *;have aZ:=ad aa;have q1:decide (pl.index<0)=false:=by simp;omega
  have cp:decide (pl.index>=l)=false:=by simp;omega
  clear aa hV;go_upto_region 5 with(fail);refine eU (λ_=>False) [(0,3),(1,0),(2,3),(3,3),(4,3),(5,0),(6,3),(7,3),(8,3),(9,0),(10,3),(11,3),(12,3)] ?_;refine pf ?_;refine ph ?_
  iterate 3 refine pf ?_
  refine ph ?_
  iterate 3 refine pf ?_
  refine ph ?_
  iterate 3 refine pf ?_
  refine aB ?_;go_upto_region 7 with(fail);refine eU (λ_=>False) [(0,3),(1,3),(2,3),(3,0),(4,3),(5,0),(6,3),(7,0),(8,3),(9,3)] ?_
  iterate 3 refine pf ?_
  refine bH (v:=?_) rfl (by rfl) (λV hV=>?_) ?_;rotate_left
  .obtain⟨hVc,hVf⟩:=Fr.jq hV
   (go_simp<;>with_reducible rfl)
  try simp only[PU]
  refine pf ?_;refine bH (v:=?_) rfl (by rfl) (λV hV=>?_) ?_;rotate_left
  .obtain⟨hVc,hVf⟩:=Fr.jq hV
   (go_simp<;>with_reducible rfl)
  try simp only[PU]
  refine pf ?_;refine bH (v:=?_) rfl (by rfl) (λV hV=>?_) ?_;rotate_left
  .obtain⟨hVc,hVf⟩:=Fr.jq hV
   (go_simp<;>with_reducible rfl)
  try simp only[PU]
  iterate 2 refine pf ?_
  refine aB ?_;go_wp2_with(fail)
  go_ret2
  exact fS.mk' aZ.o (Fr.ext ((aH.1.trans bs.o).drew.drew))
 | false=>
  rw[j] at d0;go_upto_region 8 with(fail);refine eU (λ_=>False) [(0,0),(1,3),(2,0),(3,3),(4,0),(5,3),(6,3),(7,3),(8,0),(9,2),(10,3),(11,3),(12,3),(13,3),(14,3)] ?_;refine ph ?_;refine pf ?_;refine ph ?_;refine pf ?_;refine ph ?_
  iterate 3 refine pf ?_
  refine ph ?_;refine aq rfl (λK hK=>?_);go_simp;have a2:Ext W aP.drew:=bs.drew;refine(Hz (u:=u) (s:=s) (f:=f) (pl:=pl) aR.1 aR.2.1 aR.2.2.1 aR.2.2.2.1 aR.2.2.2.2.1 j (aH.2.2.2.2.1.on a2).at_.m (aH.2.2.2.2.2.1.on a2).at_.g (r.on LL.drew).ints (D.on aH.2.2.2.2.2.2 (Fr.ext a2))).mono ?_;rintro e aV ⟨rfl,a9⟩;have a7:=ah a2 (Fr.of (M:=λ_=>False) a9);exact AD
 ):p:=h
theorem AY(h:p:=by
 have cq:=hu.mc;simp only at cq;have aR:=ej hU hS hF hp hx o;dsimp only[UV.val,SV.val];go_enter func40,ntmps40;exact Al
 ):p:=h
theorem jg(h:p:=by
 exact AX
 ):p:=h
end BE
open BE in
theorem wz(u:av)(s:ag)(t:Int)(f:al)(pl:bJ)(N:Nat)(w:World)(p:UV)(q:SV)(QA:LP)(qm qc:Nat)(h:Ig u s t f pl N w p q QA qm qc) :
  Calls prog 40 #[.agg (p.val u),.agg (q.val s),.int .i64 t,.agg #[.bool pl.param,.int .i64 pl.index,.slice QA qm qc]] w (fS w (xS u s t pl)):=by
 obtain⟨hU,hS,ac,ht,⟨Q,hp,hx⟩,hu,hs,br⟩:=h;exact jf
namespace BF
theorem AE(h:p:=by
 clear k ar m a9 a0 ap aj a3 am aJ d0 af aS e0 bk a5;obtain⟨a0,ap,aj⟩:=((aH.2.1.aj a7.1).aj a7.2).two;obtain⟨d0,af,aS⟩:=((aH.2.2.2.1.aj a7.1).aj a7.2).two;by_cases ba:z=0
 .have q5:(z != 0)=false:=by simpa using ba
  have ac:=bB.1 ba;have cj:=ad (bB.2.2 ba);subst ba;generalize aN:eP u.ae pl.index=B at *;have bx:=ad aN;clear aN bB;go_wp2_with(fail);refine(uI MA mn mc u.ae pl.index aV ((aH.2.2.2.2.1.on a7.1).on a7.2).at_.m.rr aR.1.EH).mono ?_;rintro e b3 ⟨rfl,aA⟩;rw[bx.o];have bX:=ad (((aH.1.trans a7.1).trans a7.2).trans (Fr.of aA));clear aA a0 ap aj d0 af aS;go_wp2
  go_ret2
  exact fS.mk' cj.o (Fr.ext bX.o)
 .have q5:(z != 0)=true:=by simpa using ba
  have cj:=ad (bB.2.1 ba);clear ba bB;go_wp2_with(fail)
  go_ret2
  exact fS.mk' cj.o (Fr.ext ((aH.1.trans a7.1).trans a7.2))
 ):p:=h
theorem Am(h:p:=by
 refine(nO L.o _ _ _).mono ?_;rintro e aP ⟨rfl,aF⟩;have r:=ad (L.on aF);have bs:=ad aF;clear a0 ap aj a3 am aJ d0 af aS aF L;obtain⟨a0,ap,aj⟩:=(aH.2.1.aj bs.o).two;obtain⟨a3,am,aJ⟩:=(aH.2.2.1.aj bs.o).two;obtain⟨d0,af,aS⟩:=(aH.2.2.2.1.aj bs.o).two
 cases j:pl.param with
 | true=>
  rw[j] at d0;obtain⟨f1,cW,lb,lo,rfl,bt,aK⟩:=DU aR.2.2.2.2.2 j r.aw;have aa:=rM (u:=u) (s:=s) (f:=f) j;generalize hV:f.aw.getD pl.index.toNat 0=V at *;have aZ:=ad aa;clear aa hV;go_wp2_with(fail)
  go_ret2
  exact fS.mk' aZ.o (Fr.ext ((aH.1.trans bs.o).alloc _))
 | false=>
  rw[j] at d0;go_upto_region 4 with(fail);generalize hV:World.alloc _ _=V;have bm:=bb hV;have ak:=aT hV;have a2:Ext W V:=bs.trans bm;have ch:=ah a2 bm;clear hV a2 a0 ap aj a3 am aJ d0 af aS;obtain⟨a0,ap,aj⟩:=(aH.2.1.aj ch.1).two;obtain⟨a3,am,aJ⟩:=(aH.2.2.1.aj ch.1).two;obtain⟨d0,af,aS⟩:=(aH.2.2.2.1.aj ch.1).two;obtain⟨e0,bk,a5⟩:=ak.two;rw[j] at d0;clear bm ak;go_wp2_with(fail);refine(HI (u:=u) (s:=s) (f:=f) (pl:=pl) aR.1 aR.2.1 aR.2.2.1 aR.2.2.2.1 aR.2.2.2.2.1 j (aH.2.2.2.2.1.on ch.1).at_.m (aH.2.2.2.2.2.1.on ch.1).at_.g (r.on ch.2).ints (D.on aH.2.2.2.2.2.2 (Fr.ext ch.1))).mono ?_;rintro e aV ⟨rfl,a9⟩;have a7:=ah ch.1 (Fr.of (M:=λ_=>False) a9);exact AD
 ):p:=h
theorem AY(h:p:=by
 have aR:=ej hU hS hF hp hx o;dsimp only[UV.val,SV.val];go_enter func46,ntmps46;exact Al
 ):p:=h
theorem jg(h:p:=by
 exact AX
 ):p:=h
end BF
open BF in
theorem mq(u:av)(s:ag)(t:Int)(f:al)(pl:bJ)(N:Nat)(w:World)(p:UV)(q:SV)(QA:LP)(qm qc:Nat)(h:Ig u s t f pl N w p q QA qm qc) :
  Calls prog 46 #[.agg (p.val u),.agg (q.val s),.int .i64 t,.agg #[.bool pl.param,.int .i64 pl.index,.slice QA qm qc]] w (fS w (xS u s t pl)):=by
 obtain⟨hU,hS,ac,ht,⟨Q,hp,hx⟩,hu,hs,br⟩:=h;exact jf
structure IV where
 eo:Int
 en:Int
 es:ByteArray
 EA:Option Addr
 em:Nat
 ec:Nat
 QA:Option Addr
 qm:Nat
 qc:Nat
 IA:Option Addr
 i:Nat
 ic:Nat
 KA:Option Addr
 k:Nat
 kc:Nat
abbrev IV.val(v:IV)(x:ay):Array Value:=#[.int .i64 x.op,.int .i64 x.target,.bool x.dw,.int .i64 v.eo,.int .i64 v.en,.string v.es,.slice v.EA v.em v.ec,.bool x.place.param,.int .i64 x.place.index,.slice v.QA v.qm v.qc,.slice v.IA v.i v.ic,.slice v.KA v.k v.kc]
structure IV.Ok(v:IV)(w:World)(x:ay):Prop where
 expr:(oH x.expr).rep w (au w) [.int .i64 v.eo,.int .i64 v.en,.string v.es,.slice v.EA v.em v.ec]
 place:(ds x.place).rep w (au w) [.bool x.place.param,.int .i64 x.place.index,.slice v.QA v.qm v.qc]
 ints:Sl w (au w) v.IA v.i (x.ints.map bf)
 Hv:v.i<=v.ic
 places:Sl w (au w) v.KA v.k (x.places.map ds)
 Hy:v.k<=v.kc
theorem IV.Ok.on{v:IV}{w ac:World}{x:ay}(h:v.Ok w x)(he:Ext w ac):v.Ok ac x:=
 ⟨D.on h.expr (Fr.ext he),D.on h.place (Fr.ext he),h.ints.on (Fr.ext he),h.Hv,h.places.on (Fr.ext he),h.Hy⟩
def F5(w:World)(x:ay)(e:Ending)(ac:World):Prop:=∃v:IV,e=.returned (.tuple #[.agg (v.val x),.bool true])/\v.Ok ac x/\Ext w ac
theorem um{s:ag}(h:da s t=some f)(hp:u.procs[f.proc.toNat]?=some Q)(hx:Q.code[f.pc.toNat]?=some x):cV u s t=some x:=by
 unfold cV;rw[h];simp only[Option.bind_some,hp,hx]
structure G5(u:av)(s:ag)(t:Int)(f:al)(Q:di)(x:ay)(w:World)(p:UV)(q:SV):Prop where
 sm:Small s
 ht:da s t=some f
 hp:u.procs[f.proc.toNat]?=some Q
 hx:Q.code[f.pc.toNat]?=some x
 p0:0<=f.proc
 c0:0<=f.pc
 il:x.ints.length<=200
 kl:x.places.length<=200
 u:p.Ok w u
 s:q.Ok w s
theorem hj.code{w:World}{MA PA:LP}{mn pn:Nat}(h:hj w (au w) u GA gn MA mn PA pn)(hp:u.procs[f.proc.toNat]?=some Q)(hx:Q.code[f.pc.toNat]?=some x)(p0:0<=f.proc)(c0:0<=f.pc):
  ∃b o aa co n c,∃v:IV,PA=some ⟨b,o,none⟩/\b<w.heap.size/\f.proc<pn/\w.cell? ⟨b,o+f.proc.toNat*5+4,none⟩=some (.slice (some ⟨aa,co,none⟩) n c)/\aa<w.heap.size/\f.pc<n/\v.Ok w x/\∀j u,(v.val x)[j]?=some u->w.cell? ⟨aa,co+f.pc.toNat*12+j,none⟩=some u:=by
 have ae:=(List.getElem?_eq_some_iff.1 hp).1;have aD:=(List.getElem?_eq_some_iff.1 hx).1;have bf:=h.p.1;rw[Lf] at bf;obtain⟨b,o,cS,bQ,n,c,rfl,O,cq,_,_,_,_,hc,aI,hs⟩:=h.proc (k:=f.proc.toNat) ab;rw[hp] at cq;injection cq with cq;subst cq;have bj:=hs.1;rw[Lf] at bj;obtain⟨aa,co,d,cs,eo,en,es,EA,em,ec,QA,qm,qc,IA,i,ic,KA,m,mc,rfl,bI,g,ak,bd⟩:=hs.Dz (k:=f.pc.toNat) ab;rw[hx] at g;injection g with g;subst g;refine⟨b,o,aa,co,n,c,⟨eo,en,es,EA,em,ec,QA,qm,qc,IA,i,ic,KA,m,mc⟩,rfl,O,ab,hc,bI,ab,⟨ak.expr,ak.place,ak.ints,ak.Hv,ak.places,ak.Hy⟩,λj u hu=>bd j u ?_⟩;rw[ak.cells];simpa using hu
namespace BG
theorem AO(h:p:=by
 clear hV bm ak a2 r m bi eM bI T;go_upto_region 4 with(fail);refine eU (λ_=>False) [(0,3),(1,0),(2,3),(3,0),(4,3),(5,3),(6,0),(7,3),(8,0),(9,3),(10,0),(11,2),(12,3)] ?_;refine pf ?_;refine ph ?_;refine pf ?_;refine ph ?_
 iterate 2 refine pf ?_
 refine ph ?_;refine pf ?_;refine ph ?_;refine pf ?_;refine ph ?_;refine aq rfl (λK hK=>?_);go_simp;refine eL hK ?_;clear hK K;refine pf ?_;refine aB ?_;generalize hX:World.setCell _ _ _=X;obtain⟨bw,bq,bO⟩:=cm (w:=w) [.int .i64 x.op,.int .i64 x.target,.bool x.dw,.int .i64 eo,.int .i64 en,.string es,.slice EA em ec,.bool x.place.param,.int .i64 x.place.index,.slice QA qm qc,.slice c5 j cU,.slice KA k kc] (by rfl) ch.2.1 ch.1 ab hX;have aR:=ad bq;clear hX bq bO a0 ap aj d0 af aS bE bg bh cE cd bJ aZ H a7 cn cH cJ cN cj cq cF;obtain⟨bE,bg,bh⟩:=bw.two;clear bw;go_wp2_with(fail);refine LK (v:=.tuple #[.agg #[.int .i64 x.op,.int .i64 x.target,.bool x.dw,.int .i64 eo,.int .i64 en,.string es,.slice EA em ec,.bool x.place.param,.int .i64 x.place.index,.slice QA qm qc,.slice c5 j cU,.slice KA k kc],.bool true]) (by simp[results,Tryz.results26,go_sem,bE]) rfl ?_;exact⟨⟨eo,en,es,EA,em,ec,QA,qm,qc,c5,j,cU,KA,k,kc⟩,rfl,aH.2.2.2.2.1.on aR.drew,aR.drew⟩
 ):p:=h
theorem A5(h:p:=by
 obtain⟨eo,en,es,EA,em,ec,QA,qm,qc,c5,j,cU,KA,k,kc⟩:=v;dsimp only[UV.val,SV.val,IV.val] at aI ⊢;go_enter func26,ntmps26;go_upto_region 1 with(fail);generalize be:World.alloc _ _=W;have aE:=nt be;have bK:=lL be;have aY:=jv be;have cg:=lM be;have aH:=gY aE bK aY cg bD cX aI;have L:=ad (hT.on aE);obtain⟨a3,am,aJ⟩:=aY.two;clear be aE bK aY cg hT hu hs ac ht hp hx bD cX aI;go_wp2_with(fail);refine(nO L.o _ _ _).mono ?_;rintro e aP ⟨rfl,aF⟩;have bs:=ad aF;clear a3 am aJ aF L;go_upto_region 2 with(fail);generalize hV:World.alloc _ _=V;have bm:=bb hV;have ak:=aT hV;have a2:Ext W V:=bs.trans bm;have r:Ext w V:=aH.1.trans a2;have m:=aH.2.2.2.1.aj a2;have ch:=bG r m a2 bm;obtain⟨a0,ap,aj⟩:=(aH.2.1.aj a2).two;obtain⟨d0,af,aS⟩:=ak.two;obtain⟨bE,bg,bh⟩:=m.two;have T:=r.size;have N:pb<V.heap.size:=ab;have b8:aa<V.heap.size:=ab;have cF:=(r.cell (j:=gN+f.proc.toNat*5+4) eM λh=>h).trans aH.2.2.2.2.2.1;have bi:∀j u,_->V.cell? ⟨aa,co+f.pc.toNat*12+j,none⟩=some u:=λj u bd=>(r.cell (j:=co+f.pc.toNat*12+j) bI λh=>h).trans (aH.2.2.2.2.2.2 j u bd);exact AN
 ):p:=h
theorem jg(h:p:=by
 exact A4
 ):p:=h
end BG
open BG in
theorem kW(u:av)(s:ag)(t:Int)(f:al)(Q:di)(x:ay)(w:World)(p:UV)(q:SV)(h:G5 u s t f Q x w p q) :
  Calls prog 26 #[.agg (p.val u),.agg (q.val s),.int .i64 t] w (F5 w x):=by
 obtain⟨ac,ht,hp,hx,p0,cw,aM,a8,hu,hs⟩:=h;exact jf
theorem Hi:ca prog 59 58 (.agg #[.bool false,.int .i64 0,.slice none 0 0]) 3 40:=ca.mk' Tryz.underlying59 (by kernel_rfl) rfl ab
theorem p9{X V:World}{g:Nat}{t:TypeId}{cs:Array Value}(i:Nat)(vs:List Value)(aN:an V g t cs)(hX:rT g V i vs=X):an X g t (kq cs i vs)/\Fr (λb=>b=g) V X:=by
 subst hX;exact⟨ll vs i V cs aN,kL vs i V⟩
namespace BH
theorem jU(h:p:=by
 generalize hX:World.setCell _ _ _=X;have b4:Ext w cz:=((ch.1.trans bt.1).trans ao.1).trans P.2.2.1;obtain⟨ci,J⟩:=p9 3 [.int .i64 eo,.int .i64 en,.string es,.slice z aQ aD,.bool x.place.param,.int .i64 x.place.index,.slice ak a6 aU,.slice ae bX a9] P.2.2.2 hX;have aN:an X aP.heap.size 61 #[.int .i64 x.op,.int .i64 x.target,.bool x.dw,.int .i64 eo,.int .i64 en,.string es,.slice z aQ aD,.bool x.place.param,.int .i64 x.place.index,.slice ak a6 aU,.slice ae bX a9,.slice KA cB kc]:=by
  simpa[kq] using ci
 clear ci;have bv:=bt.1.size;have cC:=ao.1.size;have cV:=P.2.2.1.size;have cA:V.drew.heap.size=V.heap.size:=rfl;have cf:=J.size;have cO:D.rep X (λb=>aP.heap.size<b/\b<X.heap.size) (oH x.expr) [.int .i64 eo,.int .i64 en,.string es,.slice z aQ aD]:=
  D.aE (λb O=>(⟨by have:=O.1;omega,by have:=O.2;omega⟩:aP.heap.size<b/\b<X.heap.size)) _ _ (D.aP (λb O=>(J.block b (aC O.2) (aC O.1)).trans ((P.2.2.1.block b (aC O.2) λh=>h).trans (ao.1.block b O.2 λh=>h))) _ _ bt.2)
 have cQ:D.rep X (λb=>aP.heap.size<b/\b<X.heap.size) (ds x.place) [.bool x.place.param,.int .i64 x.place.index,.slice ak a6 aU]:=
  D.aE (λb O=>(⟨by have:=O.1;omega,by have:=O.2;omega⟩:aP.heap.size<b/\b<X.heap.size)) _ _ (D.aP (λb O=>(J.block b (aC O.2) (aC O.1)).trans (P.2.2.1.block b O.2 λh=>h)) _ _ ao.2)
 have cP:Sl X (λb=>aP.heap.size<b/\b<X.heap.size) ae bX (x.ints.map bf):=
  (P.2.1.ai λb O=>J.block b O.2 (aC O.1)).mono λb O=>⟨by have:=O.1;omega,by have:=O.2;omega⟩
 have bq:Ext w X:=Fr.low (M:=λb=>b=aP.heap.size) (Fr.trans (Fr.mono b4 λ_ h=>h.elim) J) λb O=>ab;have bO:=(((ch.2.2.1.aj bt.1).aj ao.1).aj P.2.2.1).on J ab;have aR:=ej bq bO cO cQ cP P.1;have bw:=aN;clear hX b4 J aN bv cC cV cf cA cO cQ cP bq bO a0 ap aj;obtain⟨a0,ap,aj⟩:=bw.two;go_upto_region 8 with(fail);generalize hX:World.setCell _ _ _=Y;obtain⟨ci,J⟩:=p9 11 [.slice none 0 0] bw hX;have bz:an Y aP.heap.size 61 #[.int .i64 x.op,.int .i64 x.target,.bool x.dw,.int .i64 eo,.int .i64 en,.string es,.slice z aQ aD,.bool x.place.param,.int .i64 x.place.index,.slice ak a6 aU,.slice ae bX a9,.slice none 0 0]:=by
  simpa[kq] using ci
 have bA:Ext w Y:=Fr.low (M:=λb=>b=aP.heap.size) (Fr.trans (Fr.mono aR.1 λ_ h=>h.elim) J) λb O=>by have:=bs.1.size;omega
 have cy:=J.size;have bP:=bG bA (aR.2.1.on J (aC bs.2.lt)) J bz;have R:=bs.2.lt;have ct:aP.heap.size<X.heap.size:=by have:=bw.lt;omega
 clear hX ci J bz bA bw a0 ap aj;go_wp2_with(fail);go_loopw [51] (λce wr=>∃(k:Nat) (I:LP) (aA:Nat),ce=.int .i64 k/\k<=cB/\Ext w wr/\Fr (λb=>b=aP.heap.size) Y wr/\an wr (w.heap.size+2) 61 #[.int .i64 0,.int .i64 0,.bool false,.int .i64 0,.int .i64 0,.string ⟨#[]⟩,.slice none 0 0,.bool false,.int .i64 0,.slice none 0 0,.slice none 0 0,.slice none 0 0]/\
   an wr aP.heap.size 61 #[.int .i64 x.op,.int .i64 x.target,.bool x.dw,.int .i64 eo,.int .i64 en,.string es,.slice z aQ aD,.bool x.place.param,.int .i64 x.place.index,.slice ak a6 aU,.slice ae bX a9,.slice I k aA]/\Gr (λb=>Y.heap.size<=b) Y.heap.size 58 3 wr I k aA ((x.places.take k).map ds)) (λce _=>cB - (intOf ce).toNat)
 case atStart=>exact⟨0,none,0,rfl,ab,bP.1,LL,bP.2.1,bP.2.2.2,Gr.nil _ _ _ _ _⟩
 case round=>
  obtain⟨k,I,aA,rfl,ai,aE,bY,cg,aN,hG⟩:=hrel;have bQ:=dq aE bY cg aN hG;have eT:=bY.size;by_cases aw:k<cB
  .obtain⟨b,o,y,cx,cp,zc,rfl,O,a4,cu,cr,br,bL,bB⟩:=(aH.2.2.2.2.1.places.on (Fr.ext aE)).ti aw;have aX:b<wr.heap.size:=O;have cb:=aL a4 bL bB;clear aE bY cg aN hG a4 bL bB O;go_upto_region 11 with(fail);generalize hU:World.alloc _ _=U;have ca:=bb hU;have cM:=aT hU;have c8:=ca.size;have bF:=bQ.2.2.2.1.aj ca;have cv:=ej (bQ.1.trans ca) (Fr.trans bQ.2.1 (ca.mono λ_ h=>h.elim)) (bQ.2.2.1.aj ca) bF (bQ.2.2.2.2.aj ca) (eu.2 ⟨cx,cp,zc,rfl,cb.2.1,cb.2.2.on (Fr.ext ca)⟩:(ds y).rep U (au U) [.bool y.param,.int .i64 y.index,.slice cx cp zc]);obtain⟨d0,af,aS⟩:=cM.two;obtain⟨a0,ap,aj⟩:=bF.two;clear hU ca cM bF cu cr br aX;refine eU (λ_=>False) [(0,3),(1,0),(2,0),(3,1),(4,1),(5,2),(6,3),(7,2)] ?_;refine pf ?_
   iterate 2 refine ph ?_
   refine aO rfl (λK hK=>?_);go_simp;refine(qq y _ cx cp zc (D.on cv.2.2.2.2.2 (Fr.ext (Fr.refl _ U).drew))).mono ?_;rintro e v1 ⟨cK,cR,cT,rfl,bS,ar⟩;have H1:=ah bS ar;refine ei hK (ar) ?_;clear hK K;have aF:Ext U v1:=Fr.aQ ar;have cD:=cv.2.2.2.2.1.aj aF;have b6:=aF.size;have ax:∀b,(Value.slice I k aA).ownBlock=some b->b<U.heap.size:=λb O=>(cv.2.2.2.2.1.lt O).2;have hd:(ds y).rep v1 (lu (λb=>Y.heap.size<=b) v1 (.slice I k aA)) (#[.bool y.param,.int .i64 y.index,.slice cK cR cT]:Array Value).toList:=
    D.aE (λb O=>⟨by have:=O.1;have:U.drew.heap.size=U.heap.size:=rfl;omega,O.2,λh=>by have:=ax b h;have:=O.1;have:U.drew.heap.size=U.heap.size:=rfl;omega⟩) _ _ bS
   have bp:=ah cD hd;clear bS ar cD hd ax;refine r9 ?_;refine aq rfl (λK hK=>?_);rw[if_pos (by rfl)];refine q2 Hi (.tmp 56) (.tmp 59) rfl bp.1 bp.2 rfl rfl rfl ab ab ab ?_;intro ck c3 v2 b9 g2 cI cL;have aG:∀b,(Value.slice I k aA).ownBlock=some b->Y.heap.size<=b:=λb O=>(bp.1.lt O).1;have bW:=(cv.2.2.2.1.aj aF).on g2 (λh=>by have:=aG _ h;omega);have ba:=(cv.2.2.1.aj aF).on g2 (λh=>by have:=aG _ h;omega);have bu:Ext w v2:=Fr.low (M:=λb=>(Value.slice I k aA).ownBlock=some b) (Fr.trans (Fr.mono (cv.1.trans aF) λ_ h=>h.elim) g2) λb O=>by have:=aG b O;omega
   have cl:Fr (λb=>b=aP.heap.size) Y v2:=(Fr.trans cv.2.1 (aF.mono λ_ h=>h.elim)).eI (g2.below ab λb O hm=>by have:=aG b hm;omega);have bt:=dq bu cl ba bW b9;clear b9 g2 cI cL aG ba bu cl a0 ap aj d0 af aS;obtain⟨a0,ap,aj⟩:=bW.two;refine eL hK ?_;clear hK K;refine pf ?_;refine aq rfl (λK hK=>?_);go_simp;refine eL hK ?_;clear hK K;refine aB ?_;generalize hX:World.setCell v2 _ _=Z;obtain⟨ci,bj⟩:=p9 11 [.slice ck (k+1) c3] bt.2.2.2.1 hX;have bH:an Z aP.heap.size 61 #[.int .i64 x.op,.int .i64 x.target,.bool x.dw,.int .i64 eo,.int .i64 en,.string es,.slice z aQ aD,.bool x.place.param,.int .i64 x.place.index,.slice ak a6 aU,.slice ae bX a9,.slice ck (k+1) c3]:=by
    simpa[kq] using ci
   have a5:=dq (Fr.low (M:=λb=>b=aP.heap.size) (Fr.trans (Fr.mono bt.1 λ_ h=>h.elim) bj) (λb O=>ab):Ext w Z) (Fr.trans bt.2.1 bj) (bt.2.2.1.on bj ab) bH (bt.2.2.2.2.cS bj λb O _=>⟨ab,ab⟩);clear hX bj ci bH a0 ap aj bW;go_wp2;go_roundw
   case rel=>exact⟨k+1,ck,c3,by go_num,ab,a5.1,a5.2.1,a5.2.2.1,a5.2.2.2.1,by rw[a1 cb.1,Li];exact a5.2.2.2.2⟩
   case measure=>exact az
  .obtain rfl:k=cB:=ab;obtain⟨a0,ap,aj⟩:=aN.two;obtain⟨bE,bg,bh⟩:=cg.two;clear aE bY cg aN hG;go_wp2_with(fail);generalize hX:World.setCell _ _ _=Z;obtain⟨bH,bn,bC⟩:=cm (w:=w) [.int .i64 x.op,.int .i64 x.target,.bool x.dw,.int .i64 eo,.int .i64 en,.string es,.slice z aQ aD,.bool x.place.param,.int .i64 x.place.index,.slice ak a6 aU,.slice ae bX a9,.slice I k aA] (by rfl) bQ.2.2.1 bQ.1 ab hX;have bc:=ah bn bC;clear hX bn bC a0 ap aj bE bg bh;obtain⟨bE,bg,bh⟩:=bH.two;clear bH;refine LK (v:=.tuple #[.agg #[.int .i64 x.op,.int .i64 x.target,.bool x.dw,.int .i64 eo,.int .i64 en,.string es,.slice z aQ aD,.bool x.place.param,.int .i64 x.place.index,.slice ak a6 aU,.slice ae bX a9,.slice I k aA],.bool true]) (by simp[results,Tryz.results39,go_sem,bE]) rfl ?_;have aK:=bQ.2.2.2.2.cS bc.2 λb O _=>⟨ab,ab⟩
   rw[Lj (aC bN.2)] at aK;have bB:=bc.2.size;have gK:∀b,(aP.heap.size<b/\b<X.heap.size)->Z.heap[b]?=X.heap[b]?:=λb O=>(bc.2.block b ab ab).trans ((bQ.2.1.block b ab ab).trans (bP.2.2.1.block b O.2 ab));have ex:∀b,(aP.heap.size<b/\b<X.heap.size)->au Z b:=λb O=>by show b<Z.heap.size;omega
   exact⟨⟨eo,en,es,z,aQ,aD,ak,a6,aU,ae,bX,a9,I,k,aA⟩,rfl,⟨D.aE ex _ _ (D.aP gK _ _ aR.2.2.1),D.aE ex _ _ (D.aP gK _ _ aR.2.2.2.1),(aR.2.2.2.2.1.ai gK).mono ex,aR.2.2.2.2.2,aK.sl (λb aw O=>aw) (λb aw O=>aw),aK.cap.1⟩,bc.1⟩
 ):p:=h
theorem fW(h:p:=by
 go_upto_region 5 with(fail);generalize hV:World.drew (World.alloc _ _)=V;have bm:Ext w V:=hV▸(bs.1.alloc _).drew;have bV:an V aP.heap.size 61 #[.int .i64 x.op,.int .i64 x.target,.bool x.dw,.int .i64 eo,.int .i64 en,.string es,.slice EA em ec,.bool x.place.param,.int .i64 x.place.index,.slice QA qm qc,.slice c5 j cU,.slice KA cB kc]:=hV▸LM;have m:an V (w.heap.size+2) 61 #[.int .i64 0,.int .i64 0,.bool false,.int .i64 0,.int .i64 0,.string ⟨#[]⟩,.slice none 0 0,.bool false,.int .i64 0,.slice none 0 0,.slice none 0 0,.slice none 0 0]:=hV▸bs.2.aj ((Fr.refl _ aP).alloc _).drew;have cW:=bV.lt;have ch:=bG bm bV m (aH.2.2.2.2.1.on bm);clear hV bm m a0 ap aj cE cd bJ aZ H a7 cn cH cJ cN cj cq c0 c1 cF;obtain⟨a0,ap,aj⟩:=bV.two;clear bV;refine eU (λ_=>False) [(0,3),(1,0),(3,3),(4,0),(6,3),(7,0),(2,1),(9,3),(5,1),(8,2),(10,2),(11,3),(12,2),(13,3),(14,2)] ?_;refine pf ?_;refine ph ?_;refine pf ?_;refine ph ?_;refine pf ?_;refine ph ?_;refine aO rfl (λK hK=>?_);go_simp;refine(yU x.expr _ eo en es EA em ec (D.on ch.2.2.2.expr (Fr.ext (Fr.refl _ V).drew))).mono ?_;rintro e aV ⟨z,aQ,aD,rfl,bx,bU⟩;have bt:=ah (Fr.aQ bU) bx;refine ei hK (bU) ?_;clear hK K;refine pf ?_;clear bx bU;refine aO rfl (λK hK=>?_);go_simp;refine(qq x.place aV QA qm qc (D.on ch.2.2.2.place (Fr.ext bt.1))).mono ?_;rintro e b3 ⟨ak,a6,aU,rfl,bZ,b0⟩;have ao:=ah b0 bZ;refine ei hK (b0) ?_;clear hK K;clear bZ b0;refine aq rfl (λK hK=>?_);go_simp
 refine(qo x.ints (aC bN.1) b3 c5 j cU ((ch.2.2.2.ints.on (Fr.ext bt.1)).on (Fr.ext ao.1))).mono ?_;rintro e cz ⟨ae,bX,a9,rfl,cc,b7,dm⟩;obtain rfl:bX=j:=by have:=b7.1;simp at this;have:=bN.1;omega
 have bK:=((ch.2.1.aj bt.1).aj ao.1).aj dm;have P:=bG cc b7 dm bK;clear cc b7 dm a0 ap aj;obtain⟨a0,ap,aj⟩:=bK.two;clear bK;refine eL hK ?_;clear hK K;refine aq rfl (λK hK=>?_);go_simp;refine eL hK ?_;clear hK K;refine pf ?_;exact vQ
 ):p:=h
theorem AO(h:p:=by
 have bk:=r.lf;have c0:=r.c0;have c1:=r.c1;clear aF a2 bi eM bI T;go_upto_region 4 with(fail);refine eU (λ_=>False) [(0,3),(1,0),(2,3),(3,3),(4,3),(5,0),(6,3),(7,3),(8,0),(9,3),(10,3),(11,3),(12,0),(13,3),(14,0),(15,1),(16,2)] ?_;refine pf ?_;refine ph ?_
 iterate 3 refine pf ?_
 refine ph ?_
 iterate 2 refine pf ?_
 refine ph ?_
 iterate 3 refine pf ?_
 refine ph ?_;refine pf ?_;refine ph ?_;refine r9 ?_;exact fV
 ):p:=h
theorem A5(h:p:=by
 obtain⟨eo,en,es,EA,em,ec,QA,qm,qc,c5,j,cU,KA,cB,kc⟩:=v;have bR:x.ints.length=j:=by have:=bD.ints.1;simpa using this
 have aW:x.places.length=cB:=by have:=bD.places.1;simpa using this
 have cY:j<=200:=ab;have c4:cB<=200:=ab;dsimp only[UV.val,SV.val,IV.val] at aI ⊢;go_enter func39,ntmps39;go_upto_region 1 with(fail);generalize be:World.alloc _ _=W;have aE:=nt be;have bK:=lL be;have aY:=jv be;have cg:=lM be;have aH:=gY aE bK aY cg bD cX aI;have L:=ad (hT.on aE);have bN:=ah bR aW;obtain⟨a3,am,aJ⟩:=aY.two;clear be aE bK aY cg hT hu hs ac ht hp hx bD cX aI bR aW aM a8;go_wp2_with(fail);refine(r3 L.o _ _ _).mono ?_;rintro e aP ⟨rfl,aF⟩;have r:=ad (L.on aF);have a2:Ext w aP:=aH.1.trans aF;have bs:=ah a2 (aH.2.2.2.1.aj aF);clear a3 am aJ L;obtain⟨a0,ap,aj⟩:=(aH.2.1.aj aF).two;have T:=a2.size;have cS:=bs.2.lt;have N:pb<aP.heap.size:=ab;have b8:aa<aP.heap.size:=ab;have cF:=(a2.cell (j:=gN+f.proc.toNat*5+4) eM λh=>h).trans aH.2.2.2.2.2.1;have bi:∀j u,_->aP.cell? ⟨aa,co+f.pc.toNat*12+j,none⟩=some u:=λj u bd=>(a2.cell (j:=co+f.pc.toNat*12+j) bI λh=>h).trans (aH.2.2.2.2.2.2 j u bd);exact AN
 ):p:=h
theorem jg(h:p:=by
 exact A4
 ):p:=h
end BH
open BH in
theorem ot(u:av)(s:ag)(t:Int)(f:al)(Q:di)(x:ay)(w:World)(p:UV)(q:SV)(h:G5 u s t f Q x w p q) :
  Calls prog 39 #[.agg (p.val u),.agg (q.val s),.int .i64 t] w (F5 w x):=by
 obtain⟨ac,ht,hp,hx,p0,cw,aM,a8,hu,hs⟩:=h;exact jf
abbrev tF:Array Value:=#[.int .i64 0,.int .i64 0,.bool false,.int .i64 0,.int .i64 0,.string ⟨#[]⟩,.slice none 0 0,.bool false,.int .i64 0,.slice none 0 0,.slice none 0 0,.slice none 0 0]
structure SV.Is(q:SV)(w:World)(P:Nat->Prop)(s:ag):Prop where
 at_:mE w P s q.GA q.gn q.TA q.tn q.HA q.hn
 gc:q.gn<=q.gc
 tc:q.tn<=q.tc
 hc:q.hn<=q.hc
def mF(P:Nat->Prop)(w:World)(s:ag)(b:Bool)(e:Ending)(ac:World):Prop:=∃q:SV,e=.returned (.tuple #[.agg (q.val s),.bool b])/\q.Is ac (λk=>P k\/(w.heap.size<=k/\k<ac.heap.size)) s/\Ext w ac
theorem SV.Is.ok{q:SV}{w:World}{s:ag}(h:q.Is w P s)(aY:∀b,P b->b<w.heap.size):q.Ok w s:=⟨h.at_.mono aY,h.gc,h.tc,h.hc⟩
theorem SV.Is.mono{q:SV}{w:World}{P bf:Nat->Prop}{s:ag}(h:q.Is w P s)(aY:∀b,P b->bf b):q.Is w bf s:=⟨h.at_.mono aY,h.gc,h.tc,h.hc⟩
theorem SV.Is.ai{q:SV}{w ac:World}{P:Nat->Prop}{s:ag}(h:q.Is w P s)(ai:∀b,P b->ac.heap[b]?=w.heap[b]?):q.Is ac P s:=⟨⟨h.at_.g.ai ai,h.at_.t.ai ai,h.at_.h.ai ai⟩,h.gc,h.tc,h.hc⟩
theorem ri.sv{w:World}{s:ag}{TA HA:LP}{gc tn tc hn hc:Nat}{xs:List Value}{F1 F2 L N:List Nat}(h:ri w s GA gn gc TA tn tc HA hn hc xs F1 F2 L N)(hl:∀b∈F1++(F2++(L++N)),P b):(⟨GA,gn,gc,TA,tn,tc,HA,hn,hc⟩:SV).Is w P s:=
 ⟨h.at_ hl,h.g.cap,h.t.cap,h.h.cap⟩
namespace BI
theorem jg(h:p:=by
 have bB:=ah hs ht;clear hs ht;dsimp only[UV.val,SV.val];go_enter func39,ntmps39;go_upto_region 1 with(fail);generalize be:World.alloc _ _=W;have aE:=nt be;have aY:=jv be;have cg:=lM be;have aH:=ah aE cg;obtain⟨a3,am,aJ⟩:=aY.two;clear be aE aY cg;go_wp2_with(fail);refine(yW s bM TA HA b2 bo tn tc hn hc t W (bB.1.on aH.1).at_ bB.2).mono ?_;rintro e aP ⟨rfl,aF⟩;have f:=aH.2.aj aF;have bs:=ah (aH.1.trans aF) f;clear a3 am aJ aF;obtain⟨bE,bg,bh⟩:=f.two;clear f;go_wp2_with(fail);generalize hX:World.setCell _ _ _=Z;obtain⟨bH,bn,bC⟩:=cm (w:=w) [.int .i64 0,.int .i64 0,.bool false,.int .i64 0,.int .i64 0,.string ⟨#[]⟩,.slice none 0 0,.bool false,.int .i64 0,.slice none 0 0,.slice none 0 0,.slice none 0 0] (by rfl) bs.2 bs.1 ab hX;have bc:=ad bn;clear hX bn bC bE bg bh;obtain⟨bE,bg,bh⟩:=bH.two;refine LK (v:=.tuple #[.agg tF,.bool false]) (by simp[results,Tryz.results39,go_sem,bE]) rfl ?_;exact⟨rfl,bc.o⟩
 ):p:=h
end BI
open BI in
theorem oq(u:av)(s:ag)(t:Int)(w:World)(p:UV)(q:SV)(hs:q.Ok w s)(ht:da s t=none) :
  Calls prog 39 #[.agg (p.val u),.agg (q.val s),.int .i64 t] w λe ac=>e=.returned (.tuple #[.agg tF,.bool false])/\Ext w ac:=by
 exact jf
namespace BJ
theorem jg(h:p:=by
 have bB:=ah hs ht;clear hs ht;dsimp only[UV.val,SV.val];go_enter func26,ntmps26;go_upto_region 1 with(fail);generalize be:World.alloc _ _=W;have aE:=nt be;have aY:=jv be;have cg:=lM be;have aH:=ah aE cg;obtain⟨a3,am,aJ⟩:=aY.two;clear be aE aY cg;go_wp2_with(fail);refine(za s bM TA HA b2 bo tn tc hn hc t W (bB.1.on aH.1).at_ bB.2).mono ?_;rintro e aP ⟨rfl,aF⟩;have f:=aH.2.aj aF;have bs:=ah (aH.1.trans aF) f;clear a3 am aJ aF f;go_upto_region 2 with(fail);generalize hV:World.alloc _ _=V;have bm:=bb hV;have m:=bs.2.aj bm;have ch:=ah (bs.1.trans bm) m;obtain⟨bE,bg,bh⟩:=m.two;clear hV bm m;go_wp2_with(fail);generalize hX:World.setCell _ _ _=Z;obtain⟨bH,bn,bC⟩:=cm (w:=w) [.int .i64 0,.int .i64 0,.bool false,.int .i64 0,.int .i64 0,.string ⟨#[]⟩,.slice none 0 0,.bool false,.int .i64 0,.slice none 0 0,.slice none 0 0,.slice none 0 0] (by rfl) ch.2 ch.1 ab hX;have bc:=ad bn;clear hX bn bC bE bg bh;obtain⟨bE,bg,bh⟩:=bH.two;refine LK (v:=.tuple #[.agg tF,.bool false]) (by simp[results,Tryz.results26,go_sem,bE]) rfl ?_;exact⟨rfl,bc.o⟩
 ):p:=h
end BJ
open BJ in
theorem kV(u:av)(s:ag)(t:Int)(w:World)(p:UV)(q:SV)(hs:q.Ok w s)(ht:da s t=none) :
  Calls prog 26 #[.agg (p.val u),.agg (q.val s),.int .i64 t] w λe ac=>e=.returned (.tuple #[.agg tF,.bool false])/\Ext w ac:=by
 exact jf
namespace BL
theorem pE(h:p:=by
 have aH:=aL aE aN cg;obtain⟨a3,am,aJ⟩:=aN.two;clear be aE aN cg;go_upto_region 2 with(fail);generalize hX:World.setCell _ _ _=X;obtain⟨bF,J⟩:=p9 3 [.int .i64 z] aH.2.1 hX;have bW:an X w.heap.size 30 #[.slice bM b2 bo,.slice TA tn tc,.slice HA hn hc,.int .i64 z]:=by simpa[kq] using bF
 have bO:=aH.2.2.on J ab;have bq:Ext w X:=Fr.low (M:=λb=>b=w.heap.size) (Fr.trans (Fr.mono aH.1 λ_ h=>h.elim) J) λb O=>ab;have aR:=ah bq bO;clear hX bF J a3 am aJ bq;obtain⟨a3,am,aJ⟩:=bW.two;obtain⟨bE,bg,bh⟩:=bO.two;clear bW bO;go_wp2_with(fail);generalize hX:World.setCell _ _ _=Z;obtain⟨bH,bn,bC⟩:=cm (w:=w) [.slice bM b2 bo,.slice TA tn tc,.slice HA hn hc,.int .i64 z] (by rfl) aR.2 aR.1 ab hX;have bc:=ad bn;clear hX bn bC bE bg bh a3 am aJ;obtain⟨bE,bg,bh⟩:=bH.two;refine LK (v:=.tuple #[.agg #[.slice bM b2 bo,.slice TA tn tc,.slice HA hn hc,.int .i64 z],.bool true]) (by simp[results,Tryz.results44,go_sem,bE]) rfl ?_;have bl:=bB.1.ai (ac:=Z) λb O=>bc.block b (bB.2 b O) λh=>h;exact⟨⟨bM,b2,bo,TA,tn,tc,HA,hn,hc⟩,rfl,SV.Is.mono ⟨⟨bl.at_.g,bl.at_.t,bl.at_.h⟩,bl.gc,bl.tc,bl.hc⟩ λb O=>.inl O,bc.o⟩
 ):p:=h
end BL
open BL in
theorem pg(P:Nat->Prop)(s:ag)(q:SV)(z:Int)(w:World)(h:q.Is w P s)(aY:∀b,P b->b<w.heap.size):Calls prog 44 #[.agg (q.val s),.int .i64 z] w (mF P w {s with fault:=z} true):=by
 obtain⟨bM,b2,bo,TA,tn,tc,HA,hn,hc⟩:=q;have bB:=ah h aY;clear h aY;dsimp only[SV.val];go_enter func44,ntmps44;exact pD
theorem IW(c d:Value)(O hn hc b5 n fc:Nat)(t:Int)(w:World)(h0:0<=t)(aw:t<hn)(c9:O<w.heap.size)(aI:w.cell? ⟨O,t.toNat,none⟩=some (.slice (some ⟨b5,0,none⟩) (n+1) fc))(au:n<=1000000) :
  Calls prog 54 #[.agg #[c,d,.slice (some ⟨O,0,none⟩) hn hc,.int .i64 0],.int .i64 t] w λe ac=>e=.returned (.pointer (some ⟨b5,n*4,none⟩))/\Ext w ac:=by
 have:=x4 c d O 0 hn hc b5 0 n fc t w h0 aw c9 (by rw[Lt];exact aI) au
 rwa [Lt] at this
theorem lA{s:ag}{a9:al}(h:s.threads[t.toNat]?=some (fs++[f])):bO s t a9={s with threads:=s.threads.set t.toNat (fs++[a9])}:=by
 unfold bO;rw[lx h,kF]
structure fx(B:Nat)(w:World)(s:ag)(r:Nat)(q:SV)(xs:List Value)(F1 F2 L N:List Nat):Prop where
 st:ri w s q.GA q.gn q.gc q.TA q.tn q.tc q.HA q.hn q.hc xs F1 F2 L N
 o:an w r 30 (q.val s)
 ne:r∉F1++(F2++(L++N))
 lo:∀b∈F1++(F2++(L++N)),B<=b/\b<w.heap.size
 go:B<=r
section
variable {B:Nat} {w ac:World} {s:ag} {r:Nat} {q:SV} {xs:List Value} {F1 F2 L N:List Nat}
theorem fx.aj(h:fx B w s r q xs F1 F2 L N)(he:Ext w ac):fx B ac s r q xs F1 F2 L N:=
 ⟨h.st.ai λb O=>he.block b (h.lo b O).2 λh=>h,h.o.aj he,h.ne,λb O=>⟨(h.lo b O).1,Lc (h.lo b O).2 he.size⟩,h.go⟩
theorem fx.cS{M:Nat->Prop}(h:fx B w s r q xs F1 F2 L N)(he:Fr M w ac)(hM:∀b,M b->b<B):fx B ac s r q xs F1 F2 L N:=
 ⟨h.st.ai λb O=>he.block b (h.lo b O).2 λhm=>by have:=hM b hm;have:=(h.lo b O).1;omega,h.o.on he (λhm=>by have:=hM r hm;have:=h.go;omega),h.ne,λb O=>⟨(h.lo b O).1,Lc (h.lo b O).2 he.size⟩,h.go⟩
theorem fx.store(h:fx B w s r q xs F1 F2 L N){a7:ag}{p:Addr}{u:Value}(hp:p.block∈F1++(F2++(L++N)))(bk:ri (w.setCell p u) a7 q.GA q.gn q.gc q.TA q.tn q.tc q.HA q.hn q.hc xs F1 F2 L N)(J:a7.fault=s.fault):fx B (w.setCell p u) a7 r q xs F1 F2 L N:=by
 refine⟨bk,?_,h.ne,λb O=>⟨(h.lo b O).1,by simpa[World.setCell] using (h.lo b O).2⟩,h.go⟩;have:=h.o.J1 (p:=p) (λhe=>h.ne (he▸hp)) u;unfold SV.val at this ⊢
 rwa [J]
theorem fx.ok(h:fx B w s r q xs F1 F2 L N):q.Is w (λb=>B<=b/\b<w.heap.size) s:=(show (⟨q.GA,q.gn,q.gc,q.TA,q.tn,q.tc,q.HA,q.hn,q.hc⟩:SV).Is w _ s from h.st.sv h.lo)
structure Ip(B:Nat)(w:World)(s:ag)(r:Nat)(q:SV)(xs:List Value)(F1 F2 L N:List Nat)(t:Int)(fs:List al)(f:al)(b5:Nat)(IA:LP)(i ic:Nat)(S:LP)(l lc:Nat):Prop where
 oz:fx B w s r q xs F1 F2 L N
 lt:b5<w.heap.size
 c0:w.cell? ⟨b5,fs.length*4,none⟩=some (.int .i64 f.proc)
 c1:w.cell? ⟨b5,fs.length*4+1,none⟩=some (.int .i64 f.pc)
 c2:w.cell? ⟨b5,fs.length*4+2,none⟩=some (.slice IA i ic)
 c3:w.cell? ⟨b5,fs.length*4+3,none⟩=some (.slice S l lc)
 fz:∀j,w.frozen? ⟨b5,j,none⟩=false
 ne:b5≠r
 ge:B<=b5
 hd:∃O fc,q.HA=some ⟨O,0,none⟩/\t.toNat<q.hn/\O<w.heap.size/\O≠b5/\O≠r/\B<=O/\(∀j,w.frozen? ⟨O,j,none⟩=false)/\w.cell? ⟨O,t.toNat,none⟩=some (.slice (some ⟨b5,0,none⟩) (fs.length+1) fc)/\fs.length+1<=fc
 pc:∀v,fx B (w.setCell ⟨b5,fs.length*4+1,none⟩ (.int .i64 v)) {s with threads:=s.threads.set t.toNat (fs++[{f with pc:=v}])} r q xs F1 F2 L N
 ints:∀j v,j<i->∃H,IA=some ⟨H,0,none⟩/\H<w.heap.size/\w.frozen? ⟨H,j,none⟩=false/\(∃u,w.cell? ⟨H,j,none⟩=some u)/\H≠r/\B<=H/\fx B (w.setCell ⟨H,j,none⟩ (.int .i64 v)) {s with threads:=s.threads.set t.toNat (fs++[{f with ints:=f.ints.set j v}])} r q xs F1 F2 L N
theorem fx.I9(bl:fx B w s r q xs F1 F2 L N)(br:s.threads[t.toNat]?=some (fs++[f])){O b5 fc i ic lc:Nat}{IA:LP}(sY:q.HA=some ⟨O,0,none⟩)
  (hc:w.cell? ⟨O,t.toNat,none⟩=some (.slice (some ⟨b5,0,none⟩) (fs.length+1) fc)) (c2:w.cell? ⟨b5,fs.length*4+2,none⟩=some (.slice IA i ic)) (c3:w.cell? ⟨b5,fs.length*4+3,none⟩=some (.slice S l lc)) :
  Ip B w s r q xs F1 F2 L N t fs f b5 IA i ic S l lc:=by
 have cb:∀b,b∈N->b∈F1++(F2++(L++N)):=λb O=>by simp[O]
 have cQ:∀b,b∈L->b∈F1++(F2++(L++N)):=λb O=>by simp[O]
 obtain⟨aX,bf,cd,a,p,ci,a8,aW,bn,e,n,cO,m,bu,c,K,ax,a9,h,d0,d1,d2,d3,k,g,o,d,_⟩:=bl.st.top br;have e1:=sY.symm.trans e;injection e1 with e1;injection e1 with e1 _;subst e1;have e2:=hc.symm.trans a9;injection e2 with e2;injection e2 with e2 _ e3;injection e2 with e2;injection e2 with e2 _;subst e2 e3;have cF:=c2.symm.trans d2;injection cF with cF;injection cF with cF cN bH;subst cF cN bH;have e7:=c3.symm.trans d3;injection e7 with e7;injection e7 with e7 e8 e9;subst e7 e8 e9;refine⟨bl,m,d0,d1,d2,d3,g,λhe=>bl.ne (he▸cb _ c),(bl.lo _ (cb _ c)).1,⟨O,fc,e,n,cO,?_,λhe=>bl.ne (he▸cQ _ bu),(bl.lo _ (cQ _ bu)).1,k,a9,h⟩,λv=>bl.store (cb _ c) (o v) rfl,λj v bd=>?_⟩
 .intro he;subst he;have nd:=bl.st.nd;have n1:=(List.nodup_append.1 nd).2.1;have n2:=(List.nodup_append.1 n1).2.1;exact(List.nodup_append.1 n2).2.2 O bu O c rfl
 .obtain⟨H,dv,aM,dB,I,aq,bk⟩:=d j v bd;exact⟨H,dv,aM,I,aq,λhe=>bl.ne (he▸cb _ dB),(bl.lo _ (cb _ dB)).1,bl.store (cb _ dB) bk rfl⟩
theorem fx.top(h:fx B w s r q xs F1 F2 L N){t:Int}{fs:List al}{f:al}(br:s.threads[t.toNat]?=some (fs++[f]))(h0:0<=t)(bL:s.fault=0)(au:fs.length<=1000000) :
  ∃b5 IA i ic S l lc,i=f.ints.length/\l=f.aw.length/\
   (∀ac,Ext w ac->Calls prog 54 #[.agg (q.val s),.int .i64 t] ac λe j=>e=.returned (.pointer (some ⟨b5,fs.length*4,none⟩))/\Ext ac j)/\
   ∀ac,Ext w ac->Ip B ac s r q xs F1 F2 L N t fs f b5 IA i ic S l lc:=by
 obtain⟨O,b5,fc,IA,i,ic,S,l,lc,sY,aW,aO,cn,aA,aI,ak,hl,hc,o,c0,c1,c2,c3,bN,a,cX,hints,_⟩:=h.st.top br;refine⟨b5,IA,i,ic,S,l,lc,ak,hl,λac he=>?_,λac he=>?_⟩
 .have:=IW (.slice q.GA q.gn q.gc) (.slice q.TA q.tn q.tc) O q.hn q.hc b5 fs.length fc t ac h0 ab (Lc aO he.size) ((he.cell aO λh=>h).trans hc) au;unfold SV.val;rw[sY,bL];exact this
 .exact(h.aj he).I9 br sY ((he.cell aO λh=>h).trans hc) ((he.cell cn λh=>h).trans c2) ((he.cell cn λh=>h).trans c3)
theorem fx.dw(h:fx B w s r q xs F1 F2 L N){j:Nat}(bd:j<q.gn):∃bl,q.GA=some ⟨bl,0,none⟩/\bl<w.heap.size/\w.frozen? ⟨bl,j,none⟩=false/\(∃u,w.cell? ⟨bl,j,none⟩=some u)/\bl≠r/\B<=bl/\
  ∀v,fx B (w.setCell ⟨bl,j,none⟩ (.int .i64 v)) {s with globals:=s.globals.set j v} r q xs F1 F2 L N:=by
 obtain⟨bl,hG,hl,J,hc,hm,bk⟩:=h.st.dw bd;have c4:bl∈F1++(F2++(L++N)):=by simp[hm]
 exact⟨bl,hG,hl,J,hc,λhe=>h.ne (he▸c4),(h.lo _ c4).1,λv=>h.store c4 (bk v) rfl⟩
end
end Go.Proofs.YtflecliffjbleaaGreat

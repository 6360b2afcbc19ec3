/- Part 18 of the proof (McH McI McJ McK McL), without conditions of its own. -/
import Derived.Test.YtjhgbdckgkppnaaGreatQ17
namespace Go.Proofs.YtjhgbdckgkppnaaGreat
open Go.RowKit Go.Proofs.Tryz
set_option maxRecDepth 1000000
set_option maxHeartbeats 25600000
set_option linter.unusedVariables false
variable{nl t:Int}{fs:List aq}{bY g gn i ic l lc:Nat}{P:Nat→Prop}{GA IA bj:GR}{p:Prop}{x:aC}{u:aF}{f:aq}{pl:bK}{bh:c5}
theorem kB{s:an}(h:ei s t=some f):Ak u s t pl=bD u s f pl:=by unfold Ak;rw[h]
theorem ve{s:an}(h:pl.param=true):bD u s f pl=(f.av.getD pl.index.toNat 0,0):=by unfold bD;rw[if_pos h]
theorem vd{s:an}(h:pl.param=false)(aw:(cC u s f pl).2≠0):bD u s f pl=(0,(cC u s f pl).2):=by unfold bD;rw[if_neg (by simp[h]),if_pos aw]
theorem nO{s:an}(h:pl.param=false)(aw:(cC u s f pl).2=0):bD u s f pl=(fP u.af pl.index+(cC u s f pl).1,0):=by unfold bD;rw[if_neg (by simp[h]),if_neg ad]
theorem Al{s:an}{nk:Int}(hU:cU u)(hF:bW u f)(ap:nk≤f.av.length)(hx:cT (bs u) nl nk pl)(h:pl.param=false)(aw:(cC u s f pl).2=0):
  0≤fP u.af pl.index+(cC u s f pl).1∧fP u.af pl.index+(cC u s f pl).1≤5000:=by
 have ac:=(jw (s:=s) hU hF ap hx).2;rw[nO h aw] at ac;have:=nP hU;have:=ac rfl;simp only at this;omega
theorem Ei{w:World}(hx:cT (bs u) nl f.av.length pl)(h:pl.param=true)(hl:Sl w (au w) bj l (f.av.map D.i)):
  0≤pl.index∧pl.index<l∧∃b o,bj=some ⟨b,o,none⟩∧b<w.heap.size∧w.cell? ⟨b,o+pl.index.toNat,none⟩=some (.int .i64 (f.av.getD pl.index.toNat 0)):=by
 rcases hx with⟨_,ac,J,_⟩|⟨ac,_⟩
 ·have hn:=hl.1;rw[Gf] at hn;obtain⟨b,o,x,bb,O,hx,hc⟩:=hl.ints.int (k:=pl.index.toNat) ad;refine⟨ac,ad,b,o,bb,O,?_⟩;rw[List.getD_eq_getElem?_getD,hx];exact hc
 ·rw[h] at ac;cases ac
structure Ft(u:aF)(s:an)(t:Int)(f:aq)(pl:bK)(N:Nat)(w:World)(p:UV)(q:SV)(QA:GR)(qm qc:Nat):Prop where
 hU:cU u
 hS:a1 u N s
 sm:Small s
 ht:ei s t=some f
 hx:∃bh,u.procs[f.proc.toNat]?=some bh∧cT (bs u) bh.locals bh.av pl
 u:p.Ok w u
 s:q.Ok w s
 pl:(cV pl).rep w (au w) [.bool pl.param,.int .i64 pl.index,.slice QA qm qc]
theorem bW.s9(hF:bW u f)(hp:u.procs[f.proc.toNat]?=some bh):(f.av.length:Int)=bh.av:=by
 obtain⟨p,h,_,_,J⟩:=hF.ex;rw[hp] at h;injection h with h;rw[h];exact J
namespace zh
theorem iT(h:p:=by
 have b1:ag W w.heap.size 30 #[.slice GA gn gc,.slice MA mn mc,.slice PA pn pc,.int .i64 u.main]:=bg▸((GO).alloc _).alloc _;have ca:ag W (w.heap.size+1) 40 #[.slice bI bG bq,.slice TA tn tc,.slice (some ⟨O,bi,none⟩) hn hc,.int .i64 s.fault]:=bg▸(ag.bR _ _ _ (by simp)).alloc _;have aX:ag W (w.heap.size+2) 57 #[.bool pl.param,.int .i64 pl.index,.slice QA qm qc]:=bg▸ag.bR _ _ _ (by simp);have aj:=gK av b1 ca aX (hu.on av) (hs.on av) (D.on bu (Fr.ext av));have o:=aR.on av;obtain⟨a0,al,af⟩:=b1.two;obtain⟨a7,am,aE⟩:=ca.two;obtain⟨a6,aL,aP⟩:=aX.two;have P:=ae o;clear bg av b1 ca aX o aR hu hs bu H hS hU ht hp hx hF r x;go_wp2_with (fail);refine(j7 P.o _ _ _).mono ?_;rintro e aH ⟨rfl,aI⟩;have cb:=ae (P.on aI);have bp:=ae aI;clear a0 al af a7 am aE a6 aL aP;obtain⟨a0,al,af⟩:=(aj.2.1.al aI).two;obtain⟨a7,am,aE⟩:=(aj.2.2.1.al aI).two;obtain⟨a6,aL,aP⟩:=(aj.2.2.2.1.al aI).two;have ci:=cb.lf;have c2:=cb.c2;have c3:=cb.c3;clear aI P
 cases j:pl.param with
 | true=>
  rw[j] at a6;obtain⟨gU,c5,lb,lo,rfl,bQ,aM⟩:=Ei aU.2.2.2.2.2 j cb.av;have br:=ve (u:=u) (s:=s) (f:=f) j;generalize hV:f.av.getD pl.index.toNat 0=V at *;have aZ:=ae br;have co:decide (pl.index<0)=false:=by simp;omega
  have ej:decide (pl.index≥l)=false:=by simp;omega
  clear br hV;go_upto_region 5 with(fail);refine eh (fun _=>False) [(0,3),(1,0),(2,3),(3,3),(4,3),(5,0),(6,3),(7,3),(8,3),(9,0),(10,3),(11,3),(12,3)] ?_;refine pf ?_;refine ph ?_
  iterate 3 refine pf ?_
  refine ph ?_
  iterate 3 refine pf ?_
  refine ph ?_
  iterate 3 refine pf ?_
  refine aD ?_;go_upto_region 7 with(fail);refine eh (fun _=>False) [(0,3),(1,3),(2,3),(3,0),(4,3),(5,0),(6,3),(7,0),(8,3),(9,3)] ?_
  iterate 3 refine pf ?_
  refine bm (v:=?_) rfl (by rfl) (fun V hV=>?_) ?_;rotate_left
  ·obtain⟨hVc,hVf⟩:=Fr.fC hV
   (go_simp<;>with_reducible rfl)
  try simp only[PU]
  refine pf ?_;refine bm (v:=?_) rfl (by rfl) (fun V hV=>?_) ?_;rotate_left
  ·obtain⟨hVc,hVf⟩:=Fr.fC hV
   (go_simp<;>with_reducible rfl)
  try simp only[PU]
  refine pf ?_;refine bm (v:=?_) rfl (by rfl) (fun V hV=>?_) ?_;rotate_left
  ·obtain⟨hVc,hVf⟩:=Fr.fC hV
   (go_simp<;>with_reducible rfl)
  try simp only[PU]
  iterate 2 refine pf ?_
  refine aD ?_;go_wp2_with (fail)
  go_ret2
  exact jn.mk' aZ.o (Fr.ext ((aj.1.trans bp.o).drew.drew))
 | false=>
  rw[j] at a6;go_upto_region 8 with(fail);refine eh (fun _=>False) [(0,0),(1,3),(2,0),(3,3),(4,0),(5,3),(6,3),(7,3),(8,0),(9,2),(10,3),(11,3),(12,3),(13,3),(14,3)] ?_;refine ph ?_;refine pf ?_;refine ph ?_;refine pf ?_;refine ph ?_
  iterate 3 refine pf ?_
  refine ph ?_;refine ax rfl (fun K hK=>?_);go_simp;have aO:Ext W aH.drew:=bp.drew;refine(Ec (u:=u) (s:=s) (f:=f) (pl:=pl) aU.1 aU.2.1 aU.2.2.1 aU.2.2.2.1 aU.2.2.2.2.1 j (aj.2.2.2.2.1.on aO).at_.m (aj.2.2.2.2.2.1.on aO).at_.g (cb.on GN.drew).ints (D.on aj.2.2.2.2.2.2 (Fr.ext aO))).mono ?_;rintro e aQ ⟨rfl,bt⟩;have aW:=ai aO (Fr.of (M:=fun _=>False) bt);have k:=fun bv=>Al (s:=s) (nl:=bh.locals) (nk:=f.av.length) aU.1 aU.2.2.1 (Int.le_refl _) aU.2.2.2.2.2 j bv;have X:=vd (u:=u) (s:=s) (f:=f) j;have m:=nO (u:=u) (s:=s) (f:=f) j;generalize cC u s f pl=R at *;obtain⟨v,z⟩:=R;simp only at k X m;have a8:=aK k X m;clear k X m aO bt a0 al af a7 am aE a6 aL aP c2 c3;obtain⟨a0,al,af⟩:=((aj.2.1.al aW.1).al aW.2).two;obtain⟨a6,aL,aP⟩:=((aj.2.2.2.1.al aW.1).al aW.2).two;refine hK _ _ ?_;clear hK K
  try simp only[PU]
  iterate 5 refine pf ?_
  refine aD ?_;by_cases bv:z=0
  ·have bb:(z != 0)=false:=by simpa using bv
   have H:=a8.1 bv;have cK:=ae (a8.2.2 bv);subst bv;generalize aT:fP u.af pl.index=B at *;have a4:=ae aT;clear aT a8;go_wp2_with (fail);refine(z7 MA mn mc u.af pl.index aQ ((aj.2.2.2.2.1.on aW.1).on aW.2).at_.m.ql aU.1.BB bS).mono ?_;rintro e bJ ⟨rfl,bz⟩;rw[a4.o];have b6:=ae (((aj.1.trans aW.1).trans aW.2).trans (Fr.of bz));clear bz a0 al af a6 aL aP;go_wp2
   go_ret2
   exact jn.mk' cK.o (Fr.ext b6.o)
  ·have bb:(z != 0)=true:=by simpa using bv
   have cK:=ae (a8.2.1 bv);clear bv a8;go_wp2_with (fail)
   go_ret2
   exact jn.mk' cK.o (Fr.ext ((aj.1.trans aW.1).trans aW.2))
 ):p:=h
end zh
open zh in
theorem ob(u:aF)(s:an)(t:Int)(f:aq)(pl:bK)(N:Nat)(w:World)(p:UV)(q:SV)(QA:GR)(qm qc:Nat)(h:Ft u s t f pl N w p q QA qm qc) :
  Calls prog 22 #[.agg (p.val u),.agg (q.val s),.int .i64 t,.agg #[.bool pl.param,.int .i64 pl.index,.slice QA qm qc]] w (jn w (Ak u s t pl)):=by
 obtain⟨hU,hS,H,ht,⟨bh,hp,hx⟩,hu,hs,bu⟩:=h;obtain⟨GA,gn,gc,MA,mn,mc,PA,pn,pc⟩:=p;obtain⟨bI,bG,bq,TA,tn,tc,HA,hn,hc⟩:=q;obtain⟨O,bi,bY,cI,n,fc,IA,i,ic,bj,l,lc,e,aR⟩:=hs.at_.top H ht;simp only at e;subst e;obtain⟨hF,_,_⟩:=hS.top ht;have r:=hF.s9 hp;have x:cT (bs u) bh.locals f.av.length pl:=by rw[r];exact hx
 rw[kB ht];have bS:=hu.mc;simp only at bS;have aU:=dz hU hS hF hp hx x;dsimp only[UV.val,SV.val];go_enter func22,ntmps22;exact iS
structure IV where
 eo:Int
 en:Int
 es:ByteArray
 EA:Option Addr
 em:Nat
 ec:Nat
 QA:Option Addr
 qm:Nat
 qc:Nat
 IA:Option Addr
 i:Nat
 ic:Nat
 KA:Option Addr
 k:Nat
 kc:Nat
abbrev IV.val(v:IV)(x:aC):Array Value:=#[.int .i64 x.op,.int .i64 x.target,.bool x.da,.int .i64 v.eo,.int .i64 v.en,.string v.es,.slice v.EA v.em v.ec,.bool x.place.param,.int .i64 x.place.index,.slice v.QA v.qm v.qc,.slice v.IA v.i v.ic,.slice v.KA v.k v.kc]
structure IV.Ok(v:IV)(w:World)(x:aC):Prop where
 expr:(mR x.expr).rep w (au w) [.int .i64 v.eo,.int .i64 v.en,.string v.es,.slice v.EA v.em v.ec]
 place:(cV x.place).rep w (au w) [.bool x.place.param,.int .i64 x.place.index,.slice v.QA v.qm v.qc]
 ints:Sl w (au w) v.IA v.i (x.ints.map a4)
 D8:v.i≤v.ic
 places:Sl w (au w) v.KA v.k (x.places.map cV)
 Eb:v.k≤v.kc
theorem IV.Ok.on{v:IV}{w ab:World}{x:aC}(h:v.Ok w x)(he:Ext w ab):v.Ok ab x:=
 ⟨D.on h.expr (Fr.ext he),D.on h.place (Fr.ext he),h.ints.on (Fr.ext he),h.D8,h.places.on (Fr.ext he),h.Eb⟩
def EI(w:World)(x:aC)(e:Ending)(ab:World):Prop:=∃v:IV,e=.returned (.tuple #[.agg (v.val x),.bool true])∧v.Ok ab x∧Ext w ab
theorem rh{s:an}(h:ei s t=some f)(hp:u.procs[f.proc.toNat]?=some bh)(hx:bh.code[f.pc.toNat]?=some x):dG u s t=some x:=by
 unfold dG;rw[h];simp only[Option.bind_some,hp,hx]
structure Fu(u:aF)(s:an)(t:Int)(f:aq)(bh:c5)(x:aC)(w:World)(p:UV)(q:SV):Prop where
 sm:Small s
 ht:ei s t=some f
 hp:u.procs[f.proc.toNat]?=some bh
 hx:bh.code[f.pc.toNat]?=some x
 p0:0≤f.proc
 c0:0≤f.pc
 il:x.ints.length≤200
 kl:x.places.length≤200
 u:p.Ok w u
 s:q.Ok w s
theorem gv.code{w:World}{MA PA:GR}{mn pn:Nat}(h:gv w (au w) u GA gn MA mn PA pn)(hp:u.procs[f.proc.toNat]?=some bh)(hx:bh.code[f.pc.toNat]?=some x)(p0:0≤f.proc)(c0:0≤f.pc):
  ∃b o N co n c,∃v:IV,PA=some ⟨b,o,none⟩∧b<w.heap.size∧f.proc<pn∧w.cell? ⟨b,o+f.proc.toNat*5+4,none⟩=some (.slice (some ⟨N,co,none⟩) n c)∧N<w.heap.size∧f.pc<n∧v.Ok w x∧∀j u,(v.val x)[j]?=some u→w.cell? ⟨N,co+f.pc.toNat*12+j,none⟩=some u:=by
 have ac:=(List.getElem?_eq_some_iff.1 hp).1;have J:=(List.getElem?_eq_some_iff.1 hx).1;have cd:=h.p.1;rw[Gf] at cd;obtain⟨b,o,b7,aV,n,c,rfl,O,cf,_,_,_,_,hc,aL,hs⟩:=h.proc (k:=f.proc.toNat) ad;rw[hp] at cf;injection cf with cf;subst cf;have ce:=hs.1;rw[Gf] at ce;obtain⟨N,co,d,cs,eo,en,es,EA,em,ec,QA,qm,qc,IA,i,ic,KA,m,mc,rfl,ck,a,aJ,ba⟩:=hs.AE (k:=f.pc.toNat) ad;rw[hx] at a;injection a with a;subst a;refine⟨b,o,N,co,n,c,⟨eo,en,es,EA,em,ec,QA,qm,qc,IA,i,ic,KA,m,mc⟩,rfl,O,ad,hc,ck,ad,⟨aJ.expr,aJ.place,aJ.ints,aJ.D8,aJ.places,aJ.Eb⟩,fun j u hu=>ba j u ?_⟩;rw[aJ.cells];simpa using hu
theorem DW:b0 prog 58 57 (.agg #[.bool false,.int .i64 0,.slice none 0 0]) 3 40:=b0.mk' Tryz.underlying58 (by kernel_rfl) rfl ad
theorem la{X V:World}{t:TypeId}{cs:Array Value}(i:Nat)(vs:List Value)(aT:ag V g t cs)(ah:pq g V i vs=X):ag X g t (iG cs i vs)∧Fr (fun b=>b=g) V X:=by
 subst ah;exact⟨jZ vs i V cs aT,k9 vs i V⟩
namespace zi
theorem h6(h:p:=by
 refine aD ?_;generalize ah:World.setCell _ _ _=X;have b3:Ext w cy:=((cg.1.trans bk.1).trans bH.1).trans cw.2.2.1;obtain⟨bt,aw⟩:=la 3 [.int .i64 eo,.int .i64 en,.string es,.slice m aV ak,.bool x.place.param,.int .i64 x.place.index,.slice ac aZ aX,.slice z bB a2] cw.2.2.2 ah;have aT:ag X aH.heap.size 60 #[.int .i64 x.op,.int .i64 x.target,.bool x.da,.int .i64 eo,.int .i64 en,.string es,.slice m aV ak,.bool x.place.param,.int .i64 x.place.index,.slice ac aZ aX,.slice z bB a2,.slice KA db kc]:=by
  simpa [iG] using bt
 clear bt;have bK:=bk.1.size;have cB:=bH.1.size;have dJ:=cw.2.2.1.size;have cs:V.drew.heap.size=V.heap.size:=rfl;have dC:=aw.size;have cW:D.rep X (fun b=>aH.heap.size<b∧b<X.heap.size) (mR x.expr) [.int .i64 eo,.int .i64 en,.string es,.slice m aV ak]:=
  D.aP (fun b O=>(⟨by have:=O.1;omega,by have:=O.2;omega⟩:aH.heap.size<b∧b<X.heap.size)) _ _ (D.bg (fun b O=>(aw.block b (aB O.2) (aB O.1)).trans ((cw.2.2.1.block b (aB O.2) fun h=>h).trans (bH.1.block b O.2 fun h=>h))) _ _ bk.2)
 have c2:D.rep X (fun b=>aH.heap.size<b∧b<X.heap.size) (cV x.place) [.bool x.place.param,.int .i64 x.place.index,.slice ac aZ aX]:=
  D.aP (fun b O=>(⟨by have:=O.1;omega,by have:=O.2;omega⟩:aH.heap.size<b∧b<X.heap.size)) _ _ (D.bg (fun b O=>(aw.block b (aB O.2) (aB O.1)).trans (cw.2.2.1.block b O.2 fun h=>h)) _ _ bH.2)
 have cY:Sl X (fun b=>aH.heap.size<b∧b<X.heap.size) z bB (x.ints.map a4):=
  (cw.2.1.ao fun b O=>aw.block b O.2 (aB O.1)).mono fun b O=>⟨by have:=O.1;omega,by have:=O.2;omega⟩
 have br:Ext w X:=Fr.low (M:=fun b=>b=aH.heap.size) (Fr.trans (Fr.mono b3 fun _ h=>h.elim) aw) fun b O=>ad;have cQ:=(((cg.2.2.1.al bk.1).al bH.1).al cw.2.2.1).on aw ad;have aU:=dz br cQ cW c2 cY cw.1;have bz:=aT;clear ah b3 aw aT bK cB dJ dC cs cW c2 cY br cQ a0 al af;obtain⟨a0,al,af⟩:=bz.two;go_upto_region 8 with(fail);generalize ah:World.setCell _ _ _=Y;obtain⟨bt,aw⟩:=la 11 [.slice none 0 0] bz ah;have bA:ag Y aH.heap.size 60 #[.int .i64 x.op,.int .i64 x.target,.bool x.da,.int .i64 eo,.int .i64 en,.string es,.slice m aV ak,.bool x.place.param,.int .i64 x.place.index,.slice ac aZ aX,.slice z bB a2,.slice none 0 0]:=by
  simpa [iG] using bt
 have bw:Ext w Y:=Fr.low (M:=fun b=>b=aH.heap.size) (Fr.trans (Fr.mono aU.1 fun _ h=>h.elim) aw) fun b O=>by have:=bp.1.size;omega
 have bT:=aw.size;have bM:=bO bw (aU.2.1.on aw (aB bp.2.lt)) aw bA;have cd:=bp.2.lt;have cL:aH.heap.size<X.heap.size:=by have:=bz.lt;omega
 clear ah bt aw bA bw bz a0 al af;go_wp2_with (fail);go_loopw [51] (fun cp wr=>∃(k:Nat) (az:GR) (aG:Nat),cp=.int .i64 k∧k≤db∧Ext w wr∧Fr (fun b=>b=aH.heap.size) Y wr∧ag wr (w.heap.size+2) 60 #[.int .i64 0,.int .i64 0,.bool false,.int .i64 0,.int .i64 0,.string ⟨#[]⟩,.slice none 0 0,.bool false,.int .i64 0,.slice none 0 0,.slice none 0 0,.slice none 0 0]∧
   ag wr aH.heap.size 60 #[.int .i64 x.op,.int .i64 x.target,.bool x.da,.int .i64 eo,.int .i64 en,.string es,.slice m aV ak,.bool x.place.param,.int .i64 x.place.index,.slice ac aZ aX,.slice z bB a2,.slice az k aG]∧Gr (fun b=>Y.heap.size≤b) Y.heap.size 57 3 wr az k aG ((x.places.take k).map cV)) (fun cp _=>db - (intOf cp).toNat)
 case atStart=>exact⟨0,none,0,rfl,ad,bM.1,GN,bM.2.1,bM.2.2.2,Gr.nil _ _ _ _ _⟩
 case round=>
  obtain⟨k,az,aG,rfl,ap,av,bF,b6,aT,bR⟩:=hrel;have bs:=cA av bF b6 aT bR;have dU:=bF.size;by_cases ao:k<db
  ·obtain⟨b,o,y,bQ,aJ,zc,rfl,O,a3,b8,b2,bu,bV,cG⟩:=(aj.2.2.2.2.1.places.on (Fr.ext av)).qu ao;have aN:b<wr.heap.size:=O;have b9:=aK a3 bV cG;clear av bF b6 aT bR a3 bV cG O;go_upto_region 11 with(fail);generalize hU:World.alloc _ _=U;have ab:Ext wr U:=hU▸GN.alloc _;have a8:ag U wr.heap.size 57 #[.bool y.param,.int .i64 y.index,.slice bQ aJ zc]:=hU▸GO;have cu:=ab.size;have bD:=bs.2.2.2.1.al ab;have cn:=dz (bs.1.trans ab) (Fr.trans bs.2.1 (ab.mono fun _ h=>h.elim)) (bs.2.2.1.al ab) bD (bs.2.2.2.2.al ab) (dY.2 ⟨bQ,aJ,zc,rfl,b9.2.1,b9.2.2.on (Fr.ext ab)⟩:(cV y).rep U (au U) [.bool y.param,.int .i64 y.index,.slice bQ aJ zc]);obtain⟨a6,aL,aP⟩:=a8.two;obtain⟨a0,al,af⟩:=bD.two;clear hU ab a8 bD b8 b2 bu aN;refine eh (fun _=>False) [(0,3),(1,0),(2,0),(3,1),(4,1),(5,2),(6,3),(7,2)] ?_;refine pf ?_
   iterate 2 refine ph ?_
   refine aA rfl (fun K hK=>?_);go_simp;refine(oe y _ bQ aJ zc (D.on cn.2.2.2.2.2 (Fr.ext (Fr.refl _ U).drew))).mono ?_;rintro e v1 ⟨aS,cM,cE,rfl,Q,ar⟩;have H1:=ai Q ar;refine hK _ _ (ar) ?_;clear hK K
   try simp only[PU]
   have aI:Ext U v1:=Fr.aE ar;have bl:=cn.2.2.2.2.1.al aI;have b7:=aI.size;have I:∀b,(Value.slice az k aG).ownBlock=some b→b<U.heap.size:=fun b O=>(cn.2.2.2.2.1.lt O).2;have hd:(cV y).rep v1 (j2 (fun b=>Y.heap.size≤b) v1 (.slice az k aG)) (#[.bool y.param,.int .i64 y.index,.slice aS cM cE]:Array Value).toList:=
    D.aP (fun b O=>⟨by have:=O.1;have:U.drew.heap.size=U.heap.size:=rfl;omega,O.2,fun h=>by have:=I b h;have:=O.1;have:U.drew.heap.size=U.heap.size:=rfl;omega⟩) _ _ Q
   have bv:=ai bl hd;clear Q ar bl hd I;refine uQ ?_;refine ax rfl (fun K hK=>?_);rw[if_pos (by rfl)];refine lI DW (.tmp 56) (.tmp 59) rfl bv.1 bv.2 rfl rfl rfl ad ad ad ?_;intro cl c3 v2 b4 g2 cD cP;have bN:∀b,(Value.slice az k aG).ownBlock=some b→Y.heap.size≤b:=fun b O=>(bv.1.lt O).1;have bL:=(cn.2.2.2.1.al aI).on g2 (fun h=>by have:=bN _ h;omega);have b5:=(cn.2.2.1.al aI).on g2 (fun h=>by have:=bN _ h;omega);have ay:Ext w v2:=Fr.low (M:=fun b=>(Value.slice az k aG).ownBlock=some b) (Fr.trans (Fr.mono (cn.1.trans aI) fun _ h=>h.elim) g2) fun b O=>by have:=bN b O;omega
   have r:Fr (fun b=>b=aH.heap.size) Y v2:=(Fr.trans cn.2.1 (aI.mono fun _ h=>h.elim)).eg (g2.below ad fun b O hm=>by have:=bN b hm;omega);have bk:=cA ay r b5 bL b4;clear b4 g2 cD cP bN b5 ay r a0 al af a6 aL aP;obtain⟨a0,al,af⟩:=bL.two;refine hK _ _ ?_;clear hK K
   try simp only[PU]
   refine pf ?_;refine ax rfl (fun K hK=>?_);go_simp;refine hK _ _ ?_;clear hK K
   try simp only[PU]
   refine aD ?_;generalize ah:World.setCell v2 _ _=Z;obtain⟨bt,bb⟩:=la 11 [.slice cl (k+1) c3] bk.2.2.2.1 ah;have bm:ag Z aH.heap.size 60 #[.int .i64 x.op,.int .i64 x.target,.bool x.da,.int .i64 eo,.int .i64 en,.string es,.slice m aV ak,.bool x.place.param,.int .i64 x.place.index,.slice ac aZ aX,.slice z bB a2,.slice cl (k+1) c3]:=by
    simpa [iG] using bt
   have L:=cA (Fr.low (M:=fun b=>b=aH.heap.size) (Fr.trans (Fr.mono bk.1 fun _ h=>h.elim) bb) (fun b O=>ad):Ext w Z) (Fr.trans bk.2.1 bb) (bk.2.2.1.on bb ad) bm (bk.2.2.2.2.cZ bb fun b O _=>⟨ad,ad⟩);clear ah bb bt bm a0 al af bL;go_wp2;go_roundw
   case rel=>exact⟨k+1,cl,c3,by go_num,ad,L.1,L.2.1,L.2.2.1,L.2.2.2.1,by rw[bo b9.1,Gi];exact L.2.2.2.2⟩
   case measure=>simp[intOf];omega
  ·obtain rfl:k=db:=ad;obtain⟨a0,al,af⟩:=aT.two;obtain⟨bx,bd,be⟩:=b6.two;clear av bF b6 aT bR;go_wp2_with (fail);generalize ah:World.setCell _ _ _=Z;obtain⟨bm,a9,bn⟩:=cx (w:=w) [.int .i64 x.op,.int .i64 x.target,.bool x.da,.int .i64 eo,.int .i64 en,.string es,.slice m aV ak,.bool x.place.param,.int .i64 x.place.index,.slice ac aZ aX,.slice z bB a2,.slice az k aG] (by rfl) bs.2.2.1 bs.1 ad ah;have bf:=ai a9 bn;clear ah a9 bn a0 al af bx bd be;obtain⟨bx,bd,be⟩:=bm.two;clear bm;refine GM (v:=.tuple #[.agg #[.int .i64 x.op,.int .i64 x.target,.bool x.da,.int .i64 eo,.int .i64 en,.string es,.slice m aV ak,.bool x.place.param,.int .i64 x.place.index,.slice ac aZ aX,.slice z bB a2,.slice az k aG],.bool true]) (by simp[results,Tryz.results19,go_sem,bx]) rfl ?_;have aM:=bs.2.2.2.2.cZ bf.2 fun b O _=>⟨ad,ad⟩
   rw[Gj (aB b0.2)] at aM;have cG:=bf.2.size;have cr:∀b,(aH.heap.size<b∧b<X.heap.size)→Z.heap[b]?=X.heap[b]?:=fun b O=>(bf.2.block b ad ad).trans ((bs.2.1.block b ad ad).trans (bM.2.2.1.block b O.2 ad));have eB:∀b,(aH.heap.size<b∧b<X.heap.size)→au Z b:=fun b O=>by show b<Z.heap.size;omega
   exact⟨⟨eo,en,es,m,aV,ak,ac,aZ,aX,z,bB,a2,az,k,aG⟩,rfl,⟨D.aP eB _ _ (D.bg cr _ _ aU.2.2.1),D.aP eB _ _ (D.bg cr _ _ aU.2.2.2.1),(aU.2.2.2.2.1.ao cr).mono eB,aU.2.2.2.2.2,aM.sl (fun b ao O=>ao) (fun b ao O=>ao),aM.cap.1⟩,bf.1⟩
 ):p:=h
theorem pU(h:p:=by
 refine pf ?_;exact h5
 ):p:=h
theorem di(h:p:=by
 go_upto_region 5 with(fail);generalize hV:World.drew (World.alloc _ _)=V;have S:Ext w V:=hV▸(bp.1.alloc _).drew;have bP:ag V aH.heap.size 60 #[.int .i64 x.op,.int .i64 x.target,.bool x.da,.int .i64 eo,.int .i64 en,.string es,.slice EA em ec,.bool x.place.param,.int .i64 x.place.index,.slice QA qm qc,.slice cZ j cN,.slice KA db kc]:=hV▸GO;have R:ag V (w.heap.size+2) 60 #[.int .i64 0,.int .i64 0,.bool false,.int .i64 0,.int .i64 0,.string ⟨#[]⟩,.slice none 0 0,.bool false,.int .i64 0,.slice none 0 0,.slice none 0 0,.slice none 0 0]:=hV▸bp.2.al ((Fr.refl _ aH).alloc _).drew;have cv:=bP.lt;have cg:=bO S bP R (aj.2.2.2.2.1.on S);clear hV S R a0 al af cH cm bZ cz cj cT cC c4 c6 c7 cF cO c0 c1 ch;obtain⟨a0,al,af⟩:=bP.two;clear bP;refine eh (fun _=>False) [(0,3),(1,0),(3,3),(4,0),(6,3),(7,0),(2,1),(9,3),(5,1),(8,2),(10,2),(11,3),(12,2),(13,3),(14,2)] ?_;refine pf ?_;refine ph ?_;refine pf ?_;refine ph ?_;refine pf ?_;refine ph ?_;refine aA rfl (fun K hK=>?_);go_simp;refine(vw x.expr _ eo en es EA em ec (D.on cg.2.2.2.expr (Fr.ext (Fr.refl _ V).drew))).mono ?_;rintro e aQ ⟨m,aV,ak,rfl,aa,bE⟩;have bk:=ai (Fr.aE bE) aa;refine hK _ _ (bE) ?_;clear hK K
 try simp only[PU]
 refine pf ?_;clear aa bE;refine aA rfl (fun K hK=>?_);go_simp;refine(oe x.place aQ QA qm qc (D.on cg.2.2.2.place (Fr.ext bk.1))).mono ?_;rintro e bJ ⟨ac,aZ,aX,rfl,cc,bW⟩;have bH:=ai bW cc;refine hK _ _ (bW) ?_;clear hK K
 try simp only[PU]
 clear cc bW;refine ax rfl (fun K hK=>?_);go_simp;refine(oc x.ints (aB b0.1) bJ cZ j cN ((cg.2.2.2.ints.on (Fr.ext bk.1)).on (Fr.ext bH.1))).mono ?_;rintro e cy ⟨z,bB,a2,rfl,bc,cf,J⟩;obtain rfl:bB=j:=by have:=cf.1;simp at this;have:=b0.1;omega
 have b1:=((cg.2.1.al bk.1).al bH.1).al J;have cw:=bO bc cf J b1;clear bc cf J a0 al af;obtain⟨a0,al,af⟩:=b1.two;clear b1;exact x6
 ):p:=h
theorem iT(h:p:=by
 have b1:ag W w.heap.size 30 #[.slice GA gn gc,.slice MA mn mc,.slice (some ⟨eN,gO,none⟩) pn pc,.int .i64 u.main]:=bg▸((GO).alloc _).alloc _;have ca:ag W (w.heap.size+1) 40 #[.slice bI bG bq,.slice TA tn tc,.slice (some ⟨O,bi,none⟩) hn hc,.int .i64 s.fault]:=bg▸(ag.bR _ _ _ (by simp)).alloc _;have b6:ag W (w.heap.size+2) 60 #[.int .i64 0,.int .i64 0,.bool false,.int .i64 0,.int .i64 0,.string ⟨#[]⟩,.slice none 0 0,.bool false,.int .i64 0,.slice none 0 0,.slice none 0 0,.slice none 0 0]:=bg▸ag.bR _ _ _ (by simp);have aj:=gK av b1 ca b6 bC cX aW;have P:=ae (aR.on av);have b0:=ai a5 aY;obtain⟨a7,am,aE⟩:=ca.two;clear bg av b1 ca b6 aR hu hs H ht hp hx bC cX aW a5 aY cq bU;go_wp2_with (fail);refine(j7 P.o _ _ _).mono ?_;rintro e aH ⟨rfl,aI⟩;have cb:=ae (P.on aI);have aO:Ext w aH:=aj.1.trans aI;have bp:=ai aO (aj.2.2.2.1.al aI);clear a7 am aE P;obtain⟨a0,al,af⟩:=(aj.2.1.al aI).two;have T:=aO.size;have cR:=bp.2.lt;have bS:eN<aH.heap.size:=ad;have cU:N<aH.heap.size:=ad;have ch:=(aO.cell (j:=gO+f.proc.toNat*5+4) eL fun h=>h).trans aj.2.2.2.2.2.1;have a1:∀j u,_→aH.cell? ⟨N,co+f.pc.toNat*12+j,none⟩=some u:=fun j u ba=>(aO.cell (j:=co+f.pc.toNat*12+j) ck fun h=>h).trans (aj.2.2.2.2.2.2 j u ba);have cH:=a1 0 _ rfl;simp only[Gl] at cH;have cm:=a1 1 _ rfl;have bZ:=a1 2 _ rfl;have cz:=a1 3 _ rfl;have cj:=a1 4 _ rfl;have cT:=a1 5 _ rfl;have cC:=a1 6 _ rfl;have c4:=a1 7 _ rfl;have c6:=a1 8 _ rfl;have c7:=a1 9 _ rfl;have cF:=a1 10 _ rfl;have cO:=a1 11 _ rfl;have ci:=cb.lf;have c0:=cb.c0
 have c1:=cb.c1;clear aI aO a1 eL ck T;go_upto_region 4 with(fail);refine eh (fun _=>False) [(0,3),(1,0),(2,3),(3,3),(4,3),(5,0),(6,3),(7,3),(8,0),(9,3),(10,3),(11,3),(12,0),(13,3),(14,0),(15,1),(16,2)] ?_;refine pf ?_;refine ph ?_
 iterate 3 refine pf ?_
 refine ph ?_
 iterate 2 refine pf ?_
 refine ph ?_
 iterate 3 refine pf ?_
 refine ph ?_;refine pf ?_;refine ph ?_;refine uQ ?_;exact dN
 ):p:=h
end zi
open zi in
theorem rm(u:aF)(s:an)(t:Int)(f:aq)(bh:c5)(x:aC)(w:World)(p:UV)(q:SV)(h:Fu u s t f bh x w p q) :
  Calls prog 19 #[.agg (p.val u),.agg (q.val s),.int .i64 t] w (EI w x):=by
 obtain⟨H,ht,hp,hx,p0,cS,cq,bU,hu,hs⟩:=h;obtain⟨GA,gn,gc,MA,mn,mc,PA,pn,pc⟩:=p;obtain⟨bI,bG,bq,TA,tn,tc,HA,hn,hc⟩:=q;obtain⟨O,bi,bY,cI,n,fc,IA,i,ic,bj,l,lc,e,aR⟩:=hs.at_.top H ht;simp only at e;subst e;obtain⟨eN,gO,N,co,ct,bX,v,e,eL,gm,cX,ck,ce,bC,aW⟩:=hu.at_.code hp hx p0 cS;simp only at e;subst e;simp only at gm;obtain⟨eo,en,es,EA,em,ec,QA,qm,qc,cZ,j,cN,KA,db,kc⟩:=v;have a5:x.ints.length=j:=by have:=bC.ints.1;simpa using this
 have aY:x.places.length=db:=by have:=bC.places.1;simpa using this
 have cJ:j≤200:=ad;have cK:db≤200:=ad;dsimp only[UV.val,SV.val,IV.val] at aW ⊢;go_enter func19,ntmps19;exact iS
abbrev t3:Array Value:=#[.int .i64 0,.int .i64 0,.bool false,.int .i64 0,.int .i64 0,.string ⟨#[]⟩,.slice none 0 0,.bool false,.int .i64 0,.slice none 0 0,.slice none 0 0,.slice none 0 0]
structure SV.Is(q:SV)(w:World)(P:Nat→Prop)(s:an):Prop where
 at_:kW w P s q.GA q.gn q.TA q.tn q.HA q.hn
 gc:q.gn≤q.gc
 tc:q.tn≤q.tc
 hc:q.hn≤q.hc
def dE(P:Nat→Prop)(w:World)(s:an)(b:Bool)(e:Ending)(ab:World):Prop:=∃q:SV,e=.returned (.tuple #[.agg (q.val s),.bool b])∧q.Is ab (fun k=>P k∨(w.heap.size≤k∧k<ab.heap.size)) s∧Ext w ab
abbrev lp:Nat→Prop:=fun _=>False
theorem SV.Is.ok{q:SV}{w:World}{s:an}(h:q.Is w P s)(U:∀b,P b→b<w.heap.size):q.Ok w s:=⟨h.at_.mono U,h.gc,h.tc,h.hc⟩
theorem SV.Is.mono{q:SV}{w:World}{P c8:Nat→Prop}{s:an}(h:q.Is w P s)(U:∀b,P b→c8 b):q.Is w c8 s:=⟨h.at_.mono U,h.gc,h.tc,h.hc⟩
theorem SV.Is.ao{q:SV}{w ab:World}{P:Nat→Prop}{s:an}(h:q.Is w P s)(ap:∀b,P b→ab.heap[b]?=w.heap[b]?):q.Is ab P s:=⟨⟨h.at_.g.ao ap,h.at_.t.ao ap,h.at_.h.ao ap⟩,h.gc,h.tc,h.hc⟩
theorem oR.sv{w:World}{s:an}{TA HA:GR}{gc tn tc hn hc:Nat}{xs:List Value}{ak ar bS bX:List Nat}(h:oR w s GA gn gc TA tn tc HA hn hc xs ak ar bS bX)(hl:∀b∈ak++(ar++(bS++bX)),P b):(⟨GA,gn,gc,TA,tn,tc,HA,hn,hc⟩:SV).Is w P s:=
 ⟨h.at_ hl,h.g.cap,h.t.cap,h.h.cap⟩
theorem qj(s:an)(q:SV)(w:World)(h:q.Ok w s)(H:Small s):Calls prog 50 #[.agg (q.val s)] w fun e ab=>∃o:SV,e=.returned (.agg (o.val s))∧o.Is ab (fresh w ab) s∧Ext w ab:=by
 refine(eS s q.GA q.TA q.HA q.gn q.gc q.tn q.tc q.hn q.hc w h.at_ H).mono ?_;rintro e ab ⟨GA,gc,TA,tc,HA,hc,xs,ak,ar,bS,bX,rfl,b8,bN,av⟩;exact⟨⟨GA,q.gn,gc,TA,q.tn,tc,HA,q.hn,hc⟩,rfl,b8.sv bN,av⟩
namespace zj
theorem iT(h:p:=by
 have ca:ag W (w.heap.size+1) 40 #[.slice bI bG bq,.slice TA tn tc,.slice HA hn hc,.int .i64 s.fault]:=bg▸(ag.bR _ _ _ (by simp)).alloc _;have b6:ag W (w.heap.size+2) 60 t3:=bg▸ag.bR _ _ _ (by simp);have aj:=ai av b6;obtain⟨a7,am,aE⟩:=ca.two;clear bg av ca b6;go_wp2_with (fail);refine(vx s bI TA HA bG bq tn tc hn hc t W (a8.1.on aj.1).at_ a8.2).mono ?_;rintro e aH ⟨rfl,aI⟩;have g:=aj.2.al aI;have bp:=ai (aj.1.trans aI) g;clear a7 am aE aI;obtain⟨bx,bd,be⟩:=g.two;clear g;go_wp2_with (fail);generalize ah:World.setCell _ _ _=Z;obtain⟨bm,a9,bn⟩:=cx (w:=w) [.int .i64 0,.int .i64 0,.bool false,.int .i64 0,.int .i64 0,.string ⟨#[]⟩,.slice none 0 0,.bool false,.int .i64 0,.slice none 0 0,.slice none 0 0,.slice none 0 0] (by rfl) bp.2 bp.1 ad ah;have bf:=ae a9;clear ah a9 bn bx bd be;obtain⟨bx,bd,be⟩:=bm.two;refine GM (v:=.tuple #[.agg t3,.bool false]) (by simp[results,Tryz.results19,go_sem,bx]) rfl ?_;exact⟨rfl,bf.o⟩
 ):p:=h
end zj
open zj in
theorem rl(u:aF)(s:an)(t:Int)(w:World)(p:UV)(q:SV)(hs:q.Ok w s)(ht:ei s t=none) :
  Calls prog 19 #[.agg (p.val u),.agg (q.val s),.int .i64 t] w fun e ab=>e=.returned (.tuple #[.agg t3,.bool false])∧Ext w ab:=by
 obtain⟨GA,gn,gc,MA,mn,mc,PA,pn,pc⟩:=p;obtain⟨bI,bG,bq,TA,tn,tc,HA,hn,hc⟩:=q;have a8:=ai hs ht;clear hs ht;dsimp only[UV.val,SV.val];go_enter func19,ntmps19;exact iS
namespace zk
theorem fN(h:p:=by
 have aT:ag W w.heap.size 40 #[.slice bI bG bq,.slice TA tn tc,.slice HA hn hc,.int .i64 s.fault]:=bg▸(GO).alloc _;have b6:ag W (w.heap.size+1) 40 #[.slice none 0 0,.slice none 0 0,.slice none 0 0,.int .i64 0]:=bg▸ag.bR _ _ _ (by simp);have aj:=aK av aT b6;obtain⟨a7,am,aE⟩:=aT.two;clear bg av aT b6;go_wp2_with (fail);refine(qj s ⟨bI,bG,bq,TA,tn,tc,HA,hn,hc⟩ W (a8.1.on aj.1) a8.2).mono ?_;rintro e aH ⟨⟨bc,bE,aN,a3,m,L,bF,o,a2⟩,rfl,ch,aI⟩;have cw:=aj.2.1.al aI;have H1:=bO ch (aj.1.trans aI) cw (aj.2.2.al aI);clear a7 am aE ch aI;obtain⟨a7,am,aE⟩:=cw.two;clear cw;go_upto_region 3 with(fail);generalize ah:World.setCell _ _ _=X;obtain⟨bD,aw⟩:=la 3 [.int .i64 z] (la 0 [.slice bc bE aN,.slice a3 m L,.slice bF o a2,.int .i64 s.fault] H1.2.2.1 rfl).1 ah;have aq:Fr (fun b=>b=w.heap.size) aH X:=(la 0 [.slice bc bE aN,.slice a3 m L,.slice bF o a2,.int .i64 s.fault] H1.2.2.1 rfl).2.trans aw;have bL:ag X w.heap.size 40 #[.slice bc bE aN,.slice a3 m L,.slice bF o a2,.int .i64 z]:=by simpa [iG] using bD
 have cQ:=H1.2.2.2.on aq ad;have br:Ext w X:=Fr.low (M:=fun b=>b=w.heap.size) (Fr.trans (Fr.mono H1.2.1 fun _ h=>h.elim) aq) fun b O=>ad;have aU:=aK br cQ aq;clear ah bD aw aq a7 am aE br;obtain⟨a7,am,aE⟩:=bL.two;obtain⟨bx,bd,be⟩:=cQ.two;clear bL cQ;go_wp2_with (fail);generalize ah:World.setCell _ _ _=Z;obtain⟨bm,a9,bn⟩:=cx (w:=w) [.slice bc bE aN,.slice a3 m L,.slice bF o a2,.int .i64 z] (by rfl) aU.2.1 aU.1 ad ah;have bf:=ai a9 bn;clear ah a9 bn bx bd be a7 am aE;obtain⟨bx,bd,be⟩:=bm.two;refine GM (v:=.tuple #[.agg #[.slice bc bE aN,.slice a3 m L,.slice bF o a2,.int .i64 z],.bool true]) (by simp[results,Tryz.results91,go_sem,bx]) rfl ?_;have cd:=aU.2.2.size;have cG:=bf.2.size;have bU:w.heap.size+1<W.heap.size:=aj.2.2.lt;have aJ:(⟨bc,bE,aN,a3,m,L,bF,o,a2⟩:SV).Is Z (fresh W aH) {s with fault:=z}:=SV.Is.ao (w:=aH) ⟨⟨H1.1.at_.g,H1.1.at_.t,H1.1.at_.h⟩,H1.1.gc,H1.1.tc,H1.1.hc⟩ fun b O=>(bf.2.block b (aB O.2) (aB O.1)).trans (aU.2.2.block b O.2 (aB O.1));exact⟨⟨bc,bE,aN,a3,m,L,bF,o,a2⟩,rfl,aJ.mono fun b O=>.inr ⟨by have:=O.1;omega,by have:=O.2;omega⟩,bf.1⟩
 ):p:=h
end zk
open zk in
theorem j5(s:an)(q:SV)(z:Int)(w:World)(h:q.Ok w s)(H:Small s):Calls prog 91 #[.agg (q.val s),.int .i64 z] w (dE lp w {s with fault:=z} true):=by
 obtain⟨bI,bG,bq,TA,tn,tc,HA,hn,hc⟩:=q;have a8:=ai h H;clear h H;dsimp only[SV.val];go_enter func91,ntmps91;exact fM
theorem E5(N a:Value)(O hn hc bY n fc:Nat)(t:Int)(w:World)(h0:0≤t)(ao:t<hn)(dB:O<w.heap.size)(aW:w.cell? ⟨O,t.toNat,none⟩=some (.slice (some ⟨bY,0,none⟩) (n+1) fc))(m:n≤1000000) :
  Calls prog 54 #[.agg #[N,a,.slice (some ⟨O,0,none⟩) hn hc,.int .i64 0],.int .i64 t] w fun e ab=>e=.returned (.pointer (some ⟨bY,n*4,none⟩))∧Ext w ab:=by
 have:=uL N a O 0 hn hc bY 0 n fc t w h0 ao dB (by rw[Gv];exact aW) m
 rwa [Gv] at this
theorem fa{s:an}{cz:aq}(h:s.threads[t.toNat]?=some (fs++[f])):bk s t cz={s with threads:=s.threads.set t.toNat (fs++[cz])}:=by
 unfold bk;rw[j6 h,jv]
theorem qa{w:World}{ai j:Nat}{v:Value}(h:g≠ai∨i≠j):(w.setCell ⟨g,i,none⟩ v).cell? ⟨ai,j,none⟩=w.cell? ⟨ai,j,none⟩:=by
 apply World.cell?_setCell_other
 intro he;injection he with ac J;omega
structure dg(B:Nat)(w:World)(s:an)(G:Nat)(q:SV)(xs:List Value)(ak ar bS bX:List Nat):Prop where
 st:oR w s q.GA q.gn q.gc q.TA q.tn q.tc q.HA q.hn q.hc xs ak ar bS bX
 o:ag w G 40 (q.val s)
 ne:G∉ak++(ar++(bS++bX))
 lo:∀b∈ak++(ar++(bS++bX)),B≤b∧b<w.heap.size
 go:B≤G
section
variable {B:Nat} {w ab:World} {s:an} {G:Nat} {q:SV} {xs:List Value} {ak ar bS bX:List Nat}
theorem dg.al(h:dg B w s G q xs ak ar bS bX)(he:Ext w ab):dg B ab s G q xs ak ar bS bX:=
 ⟨h.st.ao fun b O=>he.block b (h.lo b O).2 fun h=>h,h.o.al he,h.ne,fun b O=>⟨(h.lo b O).1,Gc (h.lo b O).2 he.size⟩,h.go⟩
theorem dg.cZ{M:Nat→Prop}(h:dg B w s G q xs ak ar bS bX)(he:Fr M w ab)(a5:∀b,M b→b<B):dg B ab s G q xs ak ar bS bX:=
 ⟨h.st.ao fun b O=>he.block b (h.lo b O).2 fun hm=>by have:=a5 b hm;have:=(h.lo b O).1;omega,h.o.on he (fun hm=>by have:=a5 G hm;have:=h.go;omega),h.ne,fun b O=>⟨(h.lo b O).1,Gc (h.lo b O).2 he.size⟩,h.go⟩
theorem dg.store(h:dg B w s G q xs ak ar bS bX){Q:an}{p:Addr}{u:Value}(hp:p.block∈ak++(ar++(bS++bX)))(b8:oR (w.setCell p u) Q q.GA q.gn q.gc q.TA q.tn q.tc q.HA q.hn q.hc xs ak ar bS bX)(aw:Q.fault=s.fault):dg B (w.setCell p u) Q G q xs ak ar bS bX:=by
 refine⟨b8,?_,h.ne,fun b O=>⟨(h.lo b O).1,by simpa [World.setCell] using (h.lo b O).2⟩,h.go⟩;have:=h.o.FD (p:=p) (fun he=>h.ne (he▸hp)) u;unfold SV.val at this ⊢
 rwa [aw]
theorem dg.ok(h:dg B w s G q xs ak ar bS bX):q.Is w (fun b=>B≤b∧b<w.heap.size) s:=(show (⟨q.GA,q.gn,q.gc,q.TA,q.tn,q.tc,q.HA,q.hn,q.hc⟩:SV).Is w _ s from h.st.sv h.lo)
structure pS(B:Nat)(w:World)(s:an)(G:Nat)(q:SV)(xs:List Value)(ak ar bS bX:List Nat)(t:Int)(fs:List aq)(f:aq)(bY:Nat)(IA:GR)(i ic:Nat)(bj:GR)(l lc:Nat):Prop where
 o:dg B w s G q xs ak ar bS bX
 lt:bY<w.heap.size
 c0:w.cell? ⟨bY,fs.length*4,none⟩=some (.int .i64 f.proc)
 c1:w.cell? ⟨bY,fs.length*4+1,none⟩=some (.int .i64 f.pc)
 c2:w.cell? ⟨bY,fs.length*4+2,none⟩=some (.slice IA i ic)
 c3:w.cell? ⟨bY,fs.length*4+3,none⟩=some (.slice bj l lc)
 fz:∀j,w.frozen? ⟨bY,j,none⟩=false
 ne:bY≠G
 ge:B≤bY
 hd:∃O fc,q.HA=some ⟨O,0,none⟩∧t.toNat<q.hn∧O<w.heap.size∧O≠bY∧O≠G∧B≤O∧(∀j,w.frozen? ⟨O,j,none⟩=false)∧w.cell? ⟨O,t.toNat,none⟩=some (.slice (some ⟨bY,0,none⟩) (fs.length+1) fc)∧fs.length+1≤fc
 pc:∀v,dg B (w.setCell ⟨bY,fs.length*4+1,none⟩ (.int .i64 v)) {s with threads:=s.threads.set t.toNat (fs++[{f with pc:=v}])} G q xs ak ar bS bX
 ints:∀j v,j<i→∃g,IA=some ⟨g,0,none⟩∧g<w.heap.size∧w.frozen? ⟨g,j,none⟩=false∧(∃u,w.cell? ⟨g,j,none⟩=some u)∧g≠G∧B≤g∧dg B (w.setCell ⟨g,j,none⟩ (.int .i64 v)) {s with threads:=s.threads.set t.toNat (fs++[{f with ints:=f.ints.set j v}])} G q xs ak ar bS bX
theorem dg.DH(bi:dg B w s G q xs ak ar bS bX)(bu:s.threads[t.toNat]?=some (fs++[f])){O fc:Nat}(T:q.HA=some ⟨O,0,none⟩)
  (hc:w.cell? ⟨O,t.toNat,none⟩=some (.slice (some ⟨bY,0,none⟩) (fs.length+1) fc)) (c2:w.cell? ⟨bY,fs.length*4+2,none⟩=some (.slice IA i ic)) (c3:w.cell? ⟨bY,fs.length*4+3,none⟩=some (.slice bj l lc)) :
  pS B w s G q xs ak ar bS bX t fs f bY IA i ic bj l lc:=by
 have ao:∀b,b∈bX→b∈ak++(ar++(bS++bX)):=fun b O=>by simp[O]
 have a8:∀b,b∈bS→b∈ak++(ar++(bS++bX)):=fun b O=>by simp[O]
 obtain⟨aN,bx,b6,E,x,I,bn,y,cr,e,r,m,p,c,a,C,aa,a2,n,a6,ca,aP,cx,o,h,u,d,_⟩:=bi.st.top bu;have e1:=T.symm.trans e;injection e1 with e1;injection e1 with e1 _;subst e1;have e2:=hc.symm.trans a2;injection e2 with e2;injection e2 with e2 _ e3;injection e2 with e2;injection e2 with e2 _;subst e2 e3;have ch:=c2.symm.trans aP;injection ch with ch;injection ch with ch bT a4;subst ch bT a4;have k:=c3.symm.trans cx;injection k with k;injection k with k e8 e9;subst k e8 e9;refine⟨bi,p,a6,ca,aP,cx,h,fun he=>bi.ne (he▸ao _ a),(bi.lo _ (ao _ a)).1,⟨O,fc,e,r,m,?_,fun he=>bi.ne (he▸a8 _ c),(bi.lo _ (a8 _ c)).1,o,a2,n⟩,fun v=>bi.store (ao _ a) (u v) rfl,fun j v ba=>?_⟩
 ·intro he;subst he;have nd:=bi.st.nd;have n1:=(List.nodup_append.1 nd).2.1;have bl:=(List.nodup_append.1 n1).2.1;exact(List.nodup_append.1 bl).2.2 O c O a rfl
 ·obtain⟨g,du,cq,dE,H,Z,b8⟩:=d j v ba;exact⟨g,du,cq,H,Z,fun he=>bi.ne (he▸ao _ dE),(bi.lo _ (ao _ dE)).1,bi.store (ao _ dE) b8 rfl⟩
theorem dg.top(h:dg B w s G q xs ak ar bS bX){t:Int}{fs:List aq}{f:aq}(bu:s.threads[t.toNat]?=some (fs++[f]))(h0:0≤t)(bU:s.fault=0)(m:fs.length≤1000000) :
  ∃bY IA i ic bj l lc,i=f.ints.length∧l=f.av.length∧
   (∀ab,Ext w ab→Calls prog 54 #[.agg (q.val s),.int .i64 t] ab fun e j=>e=.returned (.pointer (some ⟨bY,fs.length*4,none⟩))∧Ext ab j)∧
   ∀ab,Ext w ab→pS B ab s G q xs ak ar bS bX t fs f bY IA i ic bj l lc:=by
 obtain⟨O,bY,fc,IA,i,ic,bj,l,lc,T,aY,R,b2,bz,u,aJ,hl,hc,bc,c0,c1,c2,c3,a5,a,cX,hints,_⟩:=h.st.top bu;refine⟨bY,IA,i,ic,bj,l,lc,aJ,hl,fun ab he=>?_,fun ab he=>?_⟩
 ·have:=E5 (.slice q.GA q.gn q.gc) (.slice q.TA q.tn q.tc) O q.hn q.hc bY fs.length fc t ab h0 ad (Gc R he.size) ((he.cell R fun h=>h).trans hc) m;unfold SV.val;rw[T,bU];exact this
 ·exact(h.al he).DH bu T ((he.cell R fun h=>h).trans hc) ((he.cell b2 fun h=>h).trans c2) ((he.cell b2 fun h=>h).trans c3)
theorem pS.Fp(h:pS B w s G q xs ak ar bS bX t fs f bY IA i ic bj l lc)(bu:s.threads[t.toNat]?=some (fs++[f]))(v:Int):
  pS B (w.setCell ⟨bY,fs.length*4+1,none⟩ (.int .i64 v)) {s with threads:=s.threads.set t.toNat (fs++[{f with pc:=v}])} G q xs ak ar bS bX t fs {f with pc:=v} bY IA i ic bj l lc:=by
 obtain⟨O,fc,T,_,R,a2,_,_,_,hc,_⟩:=h.hd;have ao:=(List.getElem?_eq_some_iff.1 bu).1;exact(h.pc v).DH (by simp[ao]) T ((qa (.inl (Ne.symm a2))).trans hc) ((qa (.inr ad)).trans h.c2) ((qa (.inr ad)).trans h.c3)
theorem dg.da(h:dg B w s G q xs ak ar bS bX){j:Nat}(ba:j<q.gn):∃b1,q.GA=some ⟨b1,0,none⟩∧b1<w.heap.size∧w.frozen? ⟨b1,j,none⟩=false∧(∃u,w.cell? ⟨b1,j,none⟩=some u)∧b1≠G∧B≤b1∧
  ∀v,dg B (w.setCell ⟨b1,j,none⟩ (.int .i64 v)) {s with globals:=s.globals.set j v} G q xs ak ar bS bX:=by
 obtain⟨b1,bR,hl,aw,hc,hm,b8⟩:=h.st.da ba;have cM:b1∈ak++(ar++(bS++bX)):=by simp[hm]
 exact⟨b1,bR,hl,aw,hc,fun he=>h.ne (he▸cM),(h.lo _ cM).1,fun v=>h.store cM (b8 v) rfl⟩
end
end Go.Proofs.YtjhgbdckgkppnaaGreat

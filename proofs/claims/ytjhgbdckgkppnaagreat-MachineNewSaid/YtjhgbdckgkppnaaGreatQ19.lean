/- Part 19 of the proof (McM McN), without conditions of its own. -/
import Derived.Test.YtjhgbdckgkppnaaGreatQ18
namespace Go.Proofs.YtjhgbdckgkppnaaGreat
open Go.RowKit Go.Proofs.Tryz
set_option maxRecDepth 1000000
set_option maxHeartbeats 25600000
set_option linter.unusedVariables false
variable{t:Int}{l:List Int}{B N i n:Nat}{M:Nat→Prop}{p:Prop}{q:SV}{e:VE}{W Z w:World}{x:aC}{u:aF}{s:an}{f:aq}{bh:c5}
structure lN(u:aF)(s:an)(t:Int)(f:aq)(bh:c5)(x:aC)(N:Nat):Prop where
 hU:vV u
 hS:a1 u N s
 sm:Small s
 ht:ei s t=some f
 hF:bW u f
 hp:u.procs[f.proc.toNat]?=some bh
 hx:bh.code[f.pc.toNat]?=some x
 ok:∃len:Nat,bh.code.length=len+1∧gS (bs u) bh.locals bh.av len x
 nx:x.op≠8→f.pc+1<bh.code.length
 pc:0≤f.pc∧f.pc≤201
 il:x.ints.length≤200
 kl:x.places.length≤200
theorem lN.of(hU:vV u)(hS:a1 u N s)(cj:N≤100000)(ht:ei s t=some f):∃bh x,lN u s t f bh x N∧dG u s t=some x:=by
 obtain⟨hF,_,_⟩:=hS.top ht;obtain⟨bh,x,hp,hx,ac,J,aS,bo,cr,aY,j,H,a9⟩:=hU.EZ hF;have hc:=a9.code;obtain⟨c,bn,ce,_⟩:=hc;have hl:bh.code.length=c.length+1:=by rw[bn];simp
 exact⟨bh,x,⟨hU,hS,hS.small hU.ok cj,ht,hF,hp,hx,cr,H,⟨bo,ad⟩,aY,j⟩,rh ht hp hx⟩
theorem lN.EX(h:lN u s t f bh x N)(he:fo (bs u) bh.locals e){GA IA:GR}{gn:Nat}{c0 c1 c2 c3:Value}
  (aM:Sl w (au w) GA gn (s.globals.map .i)) (aJ:Sl w (au w) IA i (f.ints.map .i)) (aX:(a4 e).rep w (au w) [c0,c1,c2,c3]):kU w GA IA gn i s.globals f.ints e [c0,c1,c2,c3]∧vZ s.globals f.ints e:=by
 obtain⟨bi,g,_⟩:=uF h.hS h.hF h.hp he;have ac:=aM.1;have J:=aJ.1;rw[Gf] at ac J;exact⟨⟨aM.ints,aJ.ints,by rw[←ac,←J];exact bi,jx e _ aX⟩,g⟩
structure F1(u:aF)(s:an)(t:Int)(f:aq)(x:aC)(r:Int×Int):Prop where
 bad:r.2≠0→cp u s t f x=({s with fault:=r.2},true)
 bz:r.2=0→x.op=6→r.1=0→cp u s t f x=(bk s t {f with pc:=x.target},true)
 bn:r.2=0→x.op=6→r.1≠0→cp u s t f x=(bk s t (next f),true)
 gl:r.2=0→x.op=1→x.da=true→cp u s t f x=({bk s t (next f) with globals:=s.globals.set x.target.toNat r.1},true)
 lo:r.2=0→x.op=1→x.da=false→cp u s t f x=(bk s t {next f with ints:=f.ints.set x.target.toNat r.1},true)
theorem F4(he:x.expr=some e)(ct:x.op=1∨x.op=6):F1 u s t f x (ev s.globals f.ints e):=by
 have h0:cp u s t f x=(if (ev s.globals f.ints e).2≠0 then ({s with fault:=(ev s.globals f.ints e).2},true)
  else if x.op=6 then (bk s t (if (ev s.globals f.ints e).1=0 then {f with pc:=x.target} else next f),true)
  else if x.da then ({bk s t (next f) with globals:=s.globals.set x.target.toNat (ev s.globals f.ints e).1},true)
  else (bk s t {next f with ints:=f.ints.set x.target.toNat (ev s.globals f.ints e).1},true)):=by
  unfold cp;rw[if_pos ct,he];rfl
 generalize ev s.globals f.ints e=r at *;refine⟨fun h=>?_,fun h aY bv=>?_,fun h aY bv=>?_,fun h ac aM=>?_,fun h ac aM=>?_⟩
 ·rw[h0,if_pos h]
 ·rw[h0,if_neg ad,if_pos aY,if_pos bv]
 ·rw[h0,if_neg ad,if_pos aY,if_neg bv]
 ·rw[h0,if_neg ad,if_neg ad,if_pos aM]
 ·rw[h0,if_neg ad,if_neg ad,if_neg (by simp[aM])]
theorem lN.th(h:lN u s t f bh x N):s.fault=0∧0≤t∧t<s.threads.length∧∃fs,s.threads[t.toNat]?=some (fs++[f])∧fs.length≤1000000:=by
 obtain⟨h0,ac,fs,bu⟩:=iK h.ht;have:=(List.getElem?_eq_some_iff.1 bu).1;exact⟨h0,ac,ad,fs,bu,by have:=(h.sm.f _ (Ge bu)).1;simp at this;omega⟩
theorem f2{Q:an}{G:Nat}{xs:List Value}{ak ar bS bX:List Nat}(h:dg B W s G q xs ak ar bS bX)(aw:Fr M W Z)(a5:∀b,M b→b<B)(aT:w.heap.size≤B)(av:Ext w Z)(hs:s=Q):dE lp w Q true (.returned (.tuple #[.agg (q.val Q),.bool true])) Z:=by
 subst hs;exact⟨q,rfl,(h.cZ aw a5).ok.mono fun b O=>.inr ⟨ad,O.2⟩,av⟩
theorem dT{aQ bJ:World}{Q:an}{b:Bool}(h:q.Is bJ (fun k=>lp k∨(aQ.heap.size≤k∧k<bJ.heap.size)) Q)(aw:Fr M bJ Z)(a5:∀b,M b→b<aQ.heap.size)(aT:w.heap.size≤aQ.heap.size)(av:Ext w Z):dE lp w Q b (.returned (.tuple #[.agg (q.val Q),.bool b])) Z:=
 ⟨q,rfl,(h.ao fun k ap=>aw.block k (ap.resolve_left fun h=>h).2 fun hm=>by have:=a5 k hm;have:=(ap.resolve_left fun h=>h).1;omega).mono fun k ap=>.inr ⟨by have:=(ap.resolve_left fun h=>h).1;omega,by have:=(ap.resolve_left fun h=>h).2;have:=aw.size;omega⟩,av⟩
namespace zl
theorem di(h:p:=by
 go_upto_region 13 with(fail);generalize ah:World.setCell _ _ _=Y;have aO:dg aQ.heap.size Y {s with threads:=(s.threads.set t.toNat (fs++[next f])).set t.toNat (fs++[{next f with ints:=(next f).ints.set x.target.toNat r}])} bJ.heap.size ⟨bc,bG,aN,a3,tn,L,bF,hn,a2⟩ xs ak ar bS bX:=ah▸cK.o;have aV:Fr (fun b=>b=g) X Y:=ah▸(Fr.refl (fun b=>b=g) X).setCell (.inl rfl) _;have ck:=a1;have bw:Ext w Y:=Fr.low (M:=fun b=>b=g) (Fr.trans (Fr.mono (aj.1.trans aw.2.1) fun _ h=>h.elim) aV) fun b O=>by have:=aj.1.size;omega
 have y:=aw.2.2.on aV (aB aj.2.2.2.1.lt);have bM:=aK aO y bw;clear e0 bl a5 bx bd be;obtain⟨e0,bl,a5⟩:=aO.o.two;obtain⟨bx,bd,be⟩:=y.two;clear ah aO aV bw y;go_wp2_with (fail);generalize ah:World.setCell _ _ _=Z;obtain⟨bm,a9,bn⟩:=cx (w:=w) [.slice bc bG aN,.slice a3 tn L,.slice bF hn a2,.int .i64 s.fault] (by rfl) bM.2.1 bM.2.2 ad ah;have bf:=ai a9 bn;clear ah a9 bn bx bd be e0 bl a5;obtain⟨bx,bd,be⟩:=bm.two;refine GM (v:=.tuple #[.agg #[.slice bc bG aN,.slice a3 tn L,.slice bF hn a2,.int .i64 s.fault],.bool true]) (by simp[results,Tryz.results53,go_sem,bx]) rfl ?_;rw[bW.o];show dE lp w (bk s t {next f with ints:=f.ints.set x.target.toNat r}) true _ _
 exact f2 (Q:=bk s t {next f with ints:=f.ints.set x.target.toNat r}) (q:=⟨bc,bG,aN,a3,tn,L,bF,hn,a2⟩) bM.1 bf.2.drew (fun b O=>by have:=aj.2.2.2.1.lt;omega) (aB aj.1.size) bf.1.drew (by rw[fa bT.2.2.1,List.set_set];rfl)
 ):p:=h
theorem iT(h:p:=by
 have bL:ag W w.heap.size 40 #[.slice bI bG bq,.slice TA tn tc,.slice (some ⟨O,bi,none⟩) hn hc,.int .i64 s.fault]:=bg▸((GO).alloc _).alloc _;have ca:ag W (w.heap.size+1) 60 #[.int .i64 x.op,.int .i64 x.target,.bool x.da,.int .i64 eo,.int .i64 en,.string es,.slice EA em ec,.bool x.place.param,.int .i64 x.place.index,.slice QA qm qc,.slice cZ j cN,.slice KA db kc]:=bg▸(ag.bR _ _ _ (by simp)).alloc _;have b6:ag W (w.heap.size+2) 40 #[.slice none 0 0,.slice none 0 0,.slice none 0 0,.int .i64 0]:=bg▸ag.bR _ _ _ (by simp);have aj:=dz av bL ca b6 (cg.1.on av) (cg.2.1.on av);have P:=ae (cg.2.2.on av);obtain⟨a0,al,af⟩:=bL.two;obtain⟨a7,am,aE⟩:=ca.two;clear bg av bL ca b6 cg;refine eh (fun _=>False) [(0,3),(1,0),(2,3),(3,0),(4,0),(5,3),(6,1),(7,3),(8,3),(9,0),(10,2),(11,3),(12,3),(13,3),(14,3),(15,3)] ?_;refine pf ?_;refine ph ?_;refine pf ?_
 iterate 2 refine ph ?_
 refine pf ?_;refine aA rfl (fun K hK=>?_);go_simp;refine(j7 (P.on (Fr.refl _ W).drew) _ _ _).mono ?_;rintro e aH ⟨rfl,aI⟩;have cb:=ae (P.on (Fr.aE aI));have bp:=ae (Fr.aE aI);have ci:=cb.lf;have c2:=cb.c2;refine hK _ _ (aI) ?_;clear hK K
 try simp only[PU]
 clear aI
 iterate 2 refine pf ?_
 refine FM ?_;refine ax rfl (fun K hK=>?_);go_simp;have aL:(a4 ex).rep aH (au aH) [.int .i64 eo,.int .i64 en,.string es,.slice EA em ec]:=by
  have:=(aj.2.2.2.2.2.on bp.o).expr;rw[aU.2.2.1] at this;exact this
 refine(nr ex aH bI IA bG i bq ic s.globals f.ints _ _ _ _ (aU.1.EX aU.2.1 (aj.2.2.2.2.1.on bp.o).at_.g cb.ints aL).1).mono ?_;rintro e aQ ⟨rfl,bt⟩;have aW:=ae (bp.trans (Fr.of bt));generalize ev s.globals f.ints ex=R at *;obtain⟨r,z⟩:=R;clear aL bt a0 al af a7 am aE c2 ci;obtain⟨a0,al,af⟩:=(aj.2.1.al aW.o).two;have b9:=aW.size;refine hK _ _ ?_;clear hK K
 try simp only[PU]
 iterate 5 refine pf ?_
 refine aD ?_;by_cases bv:z=0
 case neg=>
  have bb:(z != 0)=true:=by simpa using bv
  have bW:=ae (aG.bad bv);clear bv aG P cb;go_wp2_with (fail);refine(j5 s ⟨bI,bG,bq,TA,tn,tc,some ⟨O,bi,none⟩,hn,hc⟩ z aQ (aj.2.2.2.2.1.on aW.o) aU.1.sm).mono ?_;rintro e bJ ⟨⟨bc,bE,aN,a3,m,L,bF,o,a2⟩,rfl,ch,ay⟩;have cO:=ae ch;have b5:=(aj.2.2.2.1.al aW.o).al ay;have aZ:=ai b5 ((aj.1.trans aW.o).trans ay);obtain⟨bx,bd,be⟩:=b5.two;clear ch ay b5 a0 al af;go_wp2_with (fail);generalize ah:World.setCell _ _ _=Z;obtain⟨bm,a9,bn⟩:=cx (w:=w) [.slice bc bE aN,.slice a3 m L,.slice bF o a2,.int .i64 z] (by rfl) aZ.1 aZ.2 ad ah;have bf:=ai a9 bn;clear ah a9 bn bx bd be;obtain⟨bx,bd,be⟩:=bm.two;refine GM (v:=.tuple #[.agg #[.slice bc bE aN,.slice a3 m L,.slice bF o a2,.int .i64 z],.bool true]) (by simp[results,Tryz.results53,go_sem,bx]) rfl ?_;rw[bW.o];show dE lp w {s with fault:=z} true _ _
  exact dT (Q:={s with fault:=z}) (q:=⟨bc,bE,aN,a3,m,L,bF,o,a2⟩) cO.o bf.2 (fun b O=>by have:=aj.2.2.2.1.lt;omega) (aB aj.1.size) bf.1
 have bb:(z != 0)=false:=by simpa using bv
 have I:=ae bv;clear bv P cb;go_wp2_with (fail);refine(eS s bI TA (some ⟨O,bi,none⟩) bG bq tn tc hn hc aQ (aj.2.2.2.2.1.on aW.o).at_ aU.1.sm).mono ?_;rintro e bJ ⟨bc,aN,a3,L,bF,a2,xs,ak,ar,bS,bX,rfl,b8,bN,ay⟩;have bH:=aK b8 bN ay;clear b8 bN ay a0 al af;go_upto_region 5 with(fail);generalize hV:World.alloc _ _=V;have S:Ext bJ V:=hV▸GN.alloc _;have bP:ag V bJ.heap.size 40 #[.slice bc bG aN,.slice a3 tn L,.slice bF hn a2,.int .i64 s.fault]:=hV▸GO;have bA:=bH.2.2.size;have hOut:dg aQ.heap.size V s bJ.heap.size ⟨bc,bG,aN,a3,tn,L,bF,hn,a2⟩ xs ak ar bS bX:=
  ⟨bH.1.ao fun b O=>S.block b (bH.2.1 b O).2 fun h=>h,bP,fun O=>by have:=(bH.2.1 _ O).2;omega,fun b O=>⟨(bH.2.1 b O).1,by have:=(bH.2.1 b O).2;have:=S.size;omega⟩,bA⟩
 have G:Ext W V:=(aW.trans bH.2.2).trans S;obtain⟨cE,c1,dF,cU,cS,dd,cY,c0,bR,cC,ap⟩:=hOut.top bT.2.2.1 bT.2.1 bT.1 bT.2.2.2.1;have cg:=cA hOut cC ap G c0;obtain⟨e0,bl,a5⟩:=hOut.o.two;clear hV S bP hOut G cC ap c0 bR;go_wp2_with (fail);refine(cg.2.1 V GN).mono ?_;rintro e cy ⟨rfl,b3⟩;have aT:=ae (cg.2.2.1 cy b3);have cu:=ae (cg.2.2.2.1.trans b3);clear e0 bl a5 b3;have b4:=aT.c1;have g2:=aT.fz;have cD:=aT.lt;have cP:=dl.1;go_upto_region 8 with(fail);generalize ah:World.setCell _ _ _=X;have cR:pS aQ.heap.size X {s with threads:=s.threads.set t.toNat (fs++[next f])} bJ.heap.size ⟨bc,bG,aN,a3,tn,L,bF,hn,a2⟩ xs ak ar bS bX t fs (next f) cE c1 dF cU cS dd cY:=ah▸aT.Fp bT.2.2.1 (f.pc+1);have bV:Fr (fun b=>b=cE) cy X:=ah▸(Fr.refl (fun b=>b=cE) cy).setCell (.inl rfl) _;have dp:=aT.ge;have br:Ext W X:=Fr.low (M:=fun b=>b=cE) (Fr.trans (Fr.mono cu.o fun _ h=>h.elim) bV) fun b O=>ad;have bz:=aj.2.2.1.al br;have cQ:=aj.2.2.2.1.al br;have aw:=aK cR br cQ;obtain⟨a7,am,aE⟩:=bz.two;obtain⟨e0,bl,a5⟩:=cR.o.o.two;obtain⟨bx,bd,be⟩:=cQ.two;have cm:=cR.c1;have bZ:=cR.c2;have cz:=cR.fz;have cj:=cR.lt;have cT:=cR.ne;clear ah cR bV br bz cQ b4 g2 cD aT;by_cases aY:x.op=6
 ·have c6:(x.op == 6)=true:=by simpa using aY
  by_cases aX:r=0
  ·have az:(r == 0)=true:=by simpa using aX
   have bW:=ae (aG.bz I.o aY aX);clear aY aX aG;go_upto_region 13 with(fail);generalize ah:World.setCell _ _ _=Y;have aO:dg aQ.heap.size Y {s with threads:=(s.threads.set t.toNat (fs++[next f])).set t.toNat (fs++[{next f with pc:=x.target}])} bJ.heap.size ⟨bc,bG,aN,a3,tn,L,bF,hn,a2⟩ xs ak ar bS bX:=ah▸aw.1.pc x.target;have aV:Fr (fun b=>b=cE) X Y:=ah▸(Fr.refl (fun b=>b=cE) X).setCell (.inl rfl) _;have bw:Ext w Y:=Fr.low (M:=fun b=>b=cE) (Fr.trans (Fr.mono (aj.1.trans aw.2.1) fun _ h=>h.elim) aV) fun b O=>by have:=aj.1.size;omega
   have y:=aw.2.2.on aV (aB aj.2.2.2.1.lt);have bM:=aK aO y bw;clear e0 bl a5 bx bd be;obtain⟨e0,bl,a5⟩:=aO.o.two;obtain⟨bx,bd,be⟩:=y.two;clear ah aO aV bw y;go_wp2_with (fail);generalize ah:World.setCell _ _ _=Z;obtain⟨bm,a9,bn⟩:=cx (w:=w) [.slice bc bG aN,.slice a3 tn L,.slice bF hn a2,.int .i64 s.fault] (by rfl) bM.2.1 bM.2.2 ad ah;have bf:=ai a9 bn;clear ah a9 bn bx bd be e0 bl a5;obtain⟨bx,bd,be⟩:=bm.two;refine GM (v:=.tuple #[.agg #[.slice bc bG aN,.slice a3 tn L,.slice bF hn a2,.int .i64 s.fault],.bool true]) (by simp[results,Tryz.results53,go_sem,bx]) rfl ?_;rw[bW.o];show dE lp w (bk s t {f with pc:=x.target}) true _ _
   exact f2 (Q:=bk s t {f with pc:=x.target}) (q:=⟨bc,bG,aN,a3,tn,L,bF,hn,a2⟩) bM.1 bf.2 (fun b O=>by have:=aj.2.2.2.1.lt;omega) (aB aj.1.size) bf.1 (by rw[fa bT.2.2.1,List.set_set];rfl)
  ·have az:(r == 0)=false:=by simpa using aX
   have bW:=ae (aG.bn I.o aY aX);clear aY aX aG;have bM:=aK aw.1.o aw.2.2 (aj.1.trans aw.2.1);go_wp2_with (fail);generalize ah:World.setCell _ _ _=Z;obtain⟨bm,a9,bn⟩:=cx (w:=w) [.slice bc bG aN,.slice a3 tn L,.slice bF hn a2,.int .i64 s.fault] (by rfl) bM.2.1 bM.2.2 ad ah;have bf:=ai a9 bn;clear ah a9 bn bx bd be e0 bl a5;obtain⟨bx,bd,be⟩:=bm.two;refine GM (v:=.tuple #[.agg #[.slice bc bG aN,.slice a3 tn L,.slice bF hn a2,.int .i64 s.fault],.bool true]) (by simp[results,Tryz.results53,go_sem,bx]) rfl ?_;rw[bW.o];show dE lp w (bk s t (next f)) true _ _
   exact f2 (Q:=bk s t (next f)) (q:=⟨bc,bG,aN,a3,tn,L,bF,hn,a2⟩) bM.1 bf.2 (fun b O=>by have:=aj.2.2.2.1.lt;omega) (aB aj.1.size) bf.1 (by rw[fa bT.2.2.1])
 ·have ac:x.op=1:=ad;have c6:(x.op == 6)=false:=by simpa using aY
  cases aM:x.da with
  | true=>
   have bW:=ae (aG.gl I.o ac aM);rw[aM] at a7;have bB:=aU.2.2.2.1 ac aM;have aP:=bT.2.2.2.2.1;have ab:=bT.2.2.2.2.2;have bQ:x.target<(bG:Int):=ad;have bD:=dl.2.2.2;obtain⟨b1,T,cM,c9,⟨a8,ao⟩,b0,a1,H⟩:=aw.1.o.da (j:=x.target.toNat) (by show x.target.toNat<bG;omega);simp only at T;subst T;have cK:=ae (H r);clear aY ac aG bB aP ab H;go_upto_region 13 with(fail);generalize ah:World.setCell _ _ _=Y;have aO:dg aQ.heap.size Y {s with threads:=s.threads.set t.toNat (fs++[next f]),globals:=s.globals.set x.target.toNat r} bJ.heap.size ⟨some ⟨b1,0,none⟩,bG,aN,a3,tn,L,bF,hn,a2⟩ xs ak ar bS bX:=ah▸cK.o;have aV:Fr (fun b=>b=b1) X Y:=ah▸(Fr.refl (fun b=>b=b1) X).setCell (.inl rfl) _;have cl:=a1;have bw:Ext w Y:=Fr.low (M:=fun b=>b=b1) (Fr.trans (Fr.mono (aj.1.trans aw.2.1) fun _ h=>h.elim) aV) fun b O=>by have:=aj.1.size;omega
   have y:=aw.2.2.on aV (aB aj.2.2.2.1.lt);have bM:=aK aO y bw;clear e0 bl a5 bx bd be;obtain⟨e0,bl,a5⟩:=aO.o.two;obtain⟨bx,bd,be⟩:=y.two;clear ah aO aV bw y;go_wp2_with (fail);generalize ah:World.setCell _ _ _=Z;obtain⟨bm,a9,bn⟩:=cx (w:=w) [.slice (some ⟨b1,0,none⟩) bG aN,.slice a3 tn L,.slice bF hn a2,.int .i64 s.fault] (by rfl) bM.2.1 bM.2.2 ad ah;have bf:=ai a9 bn;clear ah a9 bn bx bd be e0 bl a5;obtain⟨bx,bd,be⟩:=bm.two;refine GM (v:=.tuple #[.agg #[.slice (some ⟨b1,0,none⟩) bG aN,.slice a3 tn L,.slice bF hn a2,.int .i64 s.fault],.bool true]) (by simp[results,Tryz.results53,go_sem,bx]) rfl ?_;rw[bW.o];show dE lp w ({bk s t (next f) with globals:=s.globals.set x.target.toNat r}) true _ _
   exact f2 (Q:={bk s t (next f) with globals:=s.globals.set x.target.toNat r}) (q:=⟨some ⟨b1,0,none⟩,bG,aN,a3,tn,L,bF,hn,a2⟩) bM.1 bf.2 (fun b O=>by have:=aj.2.2.2.1.lt;omega) (aB aj.1.size) bf.1 (by rw[fa bT.2.2.1])
  | false=>
   have bW:=ae (aG.lo I.o ac aM);rw[aM] at a7;have bK:=aU.2.2.2.2 ac aM;have c0:=cg.2.2.2.2;have bQ:x.target<(dF:Int):=ad;have bD:=dl.2.2.2;obtain⟨g,du,cM,c9,⟨a8,ao⟩,b0,a1,hints⟩:=aw.1.ints x.target.toNat r ad;subst du;have cK:=ae hints;clear aY ac aG bK c0 hints;go_upto_region 7 with(fail);refine eh (fun _=>False) [(0,3),(1,3),(2,3),(3,0),(4,3),(5,0),(6,3),(7,3),(8,2)] ?_
   iterate 3 refine pf ?_
   refine ph ?_;refine pf ?_;refine ph ?_
   iterate 2 refine pf ?_
   exact dN
 ):p:=h
end zl
open zl in
theorem tb(u:aF)(s:an)(t:Int)(f:aq)(bh:c5)(x:aC)(N:Nat)(w:World)(q:SV)(v:IV)(h:lN u s t f bh x N)(ct:x.op=1∨x.op=6)(hs:q.Ok w s)(bC:v.Ok w x) :
  Calls prog 53 #[.agg (q.val s),.int .i64 t,.agg (v.val x)] w (dE lp w (cp u s t f x).1 (cp u s t f x).2):=by
 obtain⟨bU,cV,ba,fs,bu,b2⟩:=h.th;obtain⟨bI,bG,bq,TA,tn,tc,HA,hn,hc⟩:=q;obtain⟨eo,en,es,EA,em,ec,QA,qm,qc,cZ,j,cN,KA,db,kc⟩:=v;obtain⟨O,bi,bY,cI,n,fc,IA,i,ic,bj,l,lc,e,aR⟩:=hs.at_.top h.sm h.ht;simp only at e;subst e;obtain⟨len,hlen,aJ⟩:=h.ok;have hx:(∃e,x.expr=some e∧fo (bs u) bh.locals e)∧0≤x.target∧(x.op=1→x.da=true→x.target<u.globals.length)∧(x.op=1→x.da=false→x.target<f.ints.length):=by
  obtain⟨b7,cf,_,aa,_⟩:=h.hF.ex;rw[h.hp] at cf;injection cf with cf;subst cf;rcases aJ with⟨ac,J,aS,bo,cr⟩|⟨ac,_⟩|⟨ac,_⟩|⟨ac,_,J,aS,bo⟩|⟨ac,_⟩|⟨ac,_⟩
  ·exact⟨J,aS,fun _ aM=>by have:=bo aM;simpa [bs] using this,fun _ aM=>by have:=cr aM;omega⟩
  ·omega
  ·omega
  ·exact⟨J,aS,fun h=>ad,fun h=>ad⟩
  ·omega
  ·omega
 obtain⟨⟨ex,hex,U⟩,dj,a6,k⟩:=hx;have dt:=F4 (u:=u) (s:=s) (t:=t) (f:=f) hex ct;have cB:bG=s.globals.length:=by have:=hs.at_.g.1;simpa using this.symm
 have cc:=h.hS.da;have cX:=h.pc;have ce:=h.nx;have aU:=cA h U hex a6 k;have bT:=dz bU cV bu b2 cB cc;have aG:=ae dt;have dl:=bO cX ce hlen dj;have cg:=aK hs bC aR;clear bU bu cB cc hlen cX ce aJ hex U a6 k b2 ba dj cV h dt hs bC aR;dsimp only[SV.val,IV.val];go_enter func53,ntmps53;exact iS
section
variable {P:Program} {ops:Array Oper} {Q:Exit→Act→World→Prop} {R:World→World→Prop} {tails:List Nat}
theorem tQ{rest:PT}{aa:Nat→Nat→Nat→Act}{C:Nat→Nat→Nat→World→Prop}{G:Prop}(h:(∀x y z V,C x y z V→cN P ops Q R tails rest (aa x y z) V)→G)(key:∀x y z V,C x y z V→cN P ops Q R tails rest (aa x y z) V):G:=h key
end
section
variable {P:Program} {ops:Array Oper} {Q:Exit→Act→World→Prop} {R:World→World→Prop} {tails:List Nat}
theorem hMz{j k:Nat}{f:Nat→PT}{a:Act}(h:lL P ops Q R tails i (f i) a w)(J:lL P ops Q R tails j (f j) a w)(aS:lL P ops Q R tails k (f k) a w):cN P ops Q R tails (.pick [i,j,k] f) a w:=fun m hm=>by
 simp only[Gt,List.not_mem_nil,or_false] at hm;rcases hm with rfl|rfl|rfl
 ·exact h
 ·exact J
 ·exact aS
end
theorem E1(n:Nat):madeCells #[.int .i64 0] (n*1)=(List.replicate n (Value.int .i64 0)).toArray:=by
 apply Array.toList_inj.1
 rw[pz (f:=dB) (x:=0) (sz:=1) rfl rfl ad n,q9,List.map_replicate]
theorem rP(is:List Int)(n:Nat):splice (List.replicate n (Value.int .i64 0)) 0 (is.map dV)=(is++List.replicate (n - is.length) 0).map dV:=by
 unfold splice;simp[List.map_replicate]
theorem ag.sl{g:Nat}(h:ag w g 3 (l.map dV).toArray)(hn:l.length=n){P:Nat→Prop}(U:P g):Sl w P (some ⟨g,0,none⟩) n (l.map D.i):=by
 refine⟨by simpa using hn,fun _=>⟨g,0,l.map dV,rfl,U,d0 l,fun j u hu=>?_⟩⟩;rw[Gv,h.cell];simpa using hu
structure DL(W:World)(L l:Nat)(a b c:Nat)(V:World):Prop where
 ext:Ext W V
 ba:ag V a 3 (List.replicate L (Value.int .i64 0)).toArray
 bb:ag V b 3 (List.replicate l (Value.int .i64 0)).toArray
 bc:ag V c 76 #[.int .i64 0,.int .i64 0,.slice none 0 0,.slice none 0 0]
 ab:a≠b
 ac:a≠c
 FV:b≠c
 lo:W.heap.size≤a∧W.heap.size≤b∧W.heap.size≤c
theorem gH(n:Nat):madeCells #[.int .i64 0] n=(List.replicate n (Value.int .i64 0)).toArray:=by have:=E1 n;rwa [Nat.mul_one] at this
theorem ha{V:World}{b ty c:TypeId}{j d a:Array Value}(hV:(((W.alloc (.cells j b)).alloc (.cells d ty)).alloc (.cells a c)).drew=V):Ext W V∧ag V W.heap.size b j∧ag V (W.heap.size+1) ty d∧ag V (W.heap.size+1+1) c a:=by
 subst hV;exact⟨(((GN.alloc _).alloc _).alloc _).drew,((GO).alloc _).alloc _,(ag.bR _ _ _ (by simp)).alloc _,ag.bR _ _ _ (by simp)⟩
theorem pH{P:Program}(e f ty elem:TypeId)(hu:P.underlying e=some (.slice elem))(bN:(P.info? elem).map (·.size)=some 1)
  {dp sp:GR} {c dCap d sCap:Nat} {g:Nat} {cur:List Value} {t:TypeId} (aM:ag w g t cur.toArray) (cs:List Value) (hn:cs.length=Nat.min d c)
  (l:0<cs.length→dp=some ⟨g,0,none⟩∧∃a,sp=some a∧∀j v,cs[j]?=some v→w.cell? (a.add j)=some v)
  (o:cs.length≤cur.length) (ac:∀v∈cs,v.oneCell'=true) :
  ∃ab,(Builtin.copy_ #[e,f] ty #[.slice dp c dCap,.slice sp d sCap]).run P w=.ok (goInt cs.length) ab∧ag ab g t (splice cur 0 cs).toArray∧Fr (fun b=>b=g) w ab:=by
 by_cases h0:cs.length=0
 ·obtain rfl:cs=[]:=List.eq_nil_of_length_eq_zero h0;exact⟨w,run_copy_none w e f ty elem dp sp c dCap d sCap hu bN (by simpa using hn.symm),by simpa [splice] using aM,GN⟩
 ·obtain⟨rfl,a,rfl,aC⟩:=l ad;exact⟨_,_root_.Go.run_copy_row (P:=P) w e f ty elem g 0 c dCap a d sCap cur.toArray t cs hu bN aM hn aC (by simpa using o) ac,(show _=_ by simpa [splice] using setRow_heap w g _ _ t _ aM),⟨rfl,rfl,rfl,by simp[World.setRow],fun k ap a2=>setRow_other w g k _ a2⟩⟩
theorem cG.Dx{A:GR}(h:cG (EF dB) 1 w B A n l):0<(l.map dV).length→∃a,A=some a∧∀j v,(l.map dV)[j]?=some v→w.cell? (a.add j)=some v:=fun h0=>by
 have hl:=h.1;rw[Gf] at h0;obtain⟨b,o,bb,_,hc⟩:=h.2 ad;refine⟨_,bb,fun j v ba=>?_⟩;rw[List.getElem?_map] at ba
 cases hx:l[j]? with
 | none=>rw[hx] at ba;cases ba
 | some x=>
  rw[hx] at ba;injection ba with ba;subst ba;obtain⟨cs,rfl,_,Z⟩:=hc j x hx;have:=Z 0 _ rfl;rw[Nat.mul_one,Gl] at this;rw[show (⟨b,o,none⟩:Addr).add j=⟨b,o+j,none⟩ by unfold Addr.add;split<;>simp_all];exact this
def EE(w:World)(f:aq)(e:Ending)(ab:World):Prop:=∃IA i ic bj l lc,e=.returned (.agg #[.int .i64 f.proc,.int .i64 f.pc,.slice IA i ic,.slice bj l lc])∧(fh f).rep ab (fresh w ab) [.int .i64 f.proc,.int .i64 f.pc,.slice IA i ic,.slice bj l lc]∧Ext w ab
namespace zm
theorem gz(h:p:=by
 refine tf ?_;generalize hV:World.drew (World.alloc _ _)=V;obtain⟨h0,ac,J,aS⟩:=ha hV;have hC:DL W L l (W.heap.size+1+1) (W.heap.size) (W.heap.size+1) V:=⟨h0,by rw[←gH];exact aS,by rw[←gH];exact ac,J,ad,ad,ad,ad⟩
 clear hV h0 ac J aS;generalize W.heap.size+1+1=cD at hC ⊢;generalize W.heap.size+1=g2 at hC ⊢;generalize W.heap.size=b4 at hC ⊢;exact key cD b4 g2 _ hC
 ):p:=h
end zm
open zm in
theorem mframe(u:aF)(k:Int)(bh:c5)(is ls:List Int)(IA bj:GR)(i ic l lc:Nat)(w:World)(p:UV)(hu:p.Ok w u)(h0:0≤k)(hp:u.procs[k.toNat]?=some bh)(hl:(is.length:Int)≤bh.locals)(bN:bh.locals≤200)(ck:ls.length≤1000)
  (aJ:Sl w (au w) IA i (is.map D.i)) (ca:Sl w (au w) bj l (ls.map D.i)) :
  Calls prog 29 #[.agg (p.val u),.int .i64 k,.slice IA i ic,.slice bj l lc] w (EE w (c9 u k is ls)):=by
 obtain⟨GA,gn,gc,MA,mn,mc,PA,pn,pc⟩:=p;have cd:=hu.at_.p.1;rw[Gf] at cd;have bF:=(List.getElem?_eq_some_iff.1 hp).1;obtain⟨eN,gO,b7,aV,ct,bX,e,eL,cf,b8,b2,bu,bA,I,_,_⟩:=hu.at_.proc (k:=k.toNat) ad;simp only at e cd;subst e;rw[hp] at cf;injection cf with cf;subst cf;obtain⟨L,t⟩:=Gg (a:=bh.locals) ad;rw[t] at bA;have cq:is.length=i:=by have:=aJ.1;simpa using this
 have bG:ls.length=l:=by have:=ca.1;simpa using this
 have hlen:i≤L:=ad;have cO:L≤200:=ad;have bQ:l≤1000:=ad;have az:k<(pn:Int):=ad;have o:gd u k=L:=by unfold gd;rw[hp];simp[t]
 have b0:=aK cq bG o;have a8:=ai aJ ca;have U:=fun W=>run_mk dj .i64 .i64 L ad ad W;have Y:=fun W=>run_mk dj .i64 .i64 l ad ad W;have bS:eN<w.heap.size:=eL;clear hu cd bF eL hp b8 b2 bu I t cq bG o aJ ca hl bN ck;dsimp only[UV.val];go_enter func29,ntmps29;go_upto_region 1 with(fail);generalize bg:World.alloc _ _=W;have av:Ext w W:=bg▸(GN.alloc _).alloc _;have aT:ag W w.heap.size 30 #[.slice GA gn gc,.slice MA mn mc,.slice (some ⟨eN,gO,none⟩) pn pc,.int .i64 u.main]:=bg▸(GO).alloc _;have b6:ag W (w.heap.size+1) 76 #[.int .i64 0,.int .i64 0,.slice none 0 0,.slice none 0 0]:=bg▸ag.bR _ _ _ (by simp);have ds:=(av.cell (j:=gO+k.toNat*5+3) bS fun h=>h).trans bA;have ax:eN<W.heap.size:=Gc bS av.size;have ay:=b6.lt;have aj:=ai av b6;obtain⟨a0,al,af⟩:=aT.two;clear bg av aT b6 bA bS;refine o2 (fun _=>False) [7,13] (.free 0 (.free 1 (.held 2 (.free 3 (.free 4 (.free 5 (.held 6 (.free 8 (.free 9 (.pick [7,10,12] (fun i=>bif i == 7 then .pick [10,12] (fun i=>bif i == 10 then .free 11 (.pick [12] (fun _=>.pick [13] (fun _=>.stop))) else .pick [10] (fun _=>.free 11 (.pick [13] (fun _=>.stop)))) else bif i == 10 then .pick [7,12] (fun i=>bif i == 7 then .free 11 (.pick [12] (fun _=>.pick [13] (fun _=>.stop))) else .pick [7] (fun _=>.free 11 (.pick [13] (fun _=>.stop)))) else .pick [7,10] (fun i=>bif i == 7 then .pick [10] (fun _=>.free 11 (.pick [13] (fun _=>.stop))) else .pick [7] (fun _=>.free 11 (.pick [13] (fun _=>.stop))))))))))))))) ?_
 iterate 2 refine tf ?_
 refine th ?_
 iterate 3 refine tf ?_
 refine th ?_
 iterate 2 refine tf ?_
 refine tQ (P:=?dn) (ops:=?dS) (Q:=?co) (R:=?fg) (tails:=?dc) (rest:=.pick [13] (fun _=>.stop)) (aa:=?aa) (C:=DL W L l) (fun key=>?main) ?key
 case main=>
  refine hMz ?_ ?_ ?_
  ·
   refine aY rfl (fun K hK=>?_) rfl;go_simp;refine hK _ _ ?_;clear hK K
   try simp only[PU]
   refine aR ?_ ?_
   ·
    refine ja ?_;refine tf ?_;refine ak ?_;refine ja ?_;generalize hV:World.drew (World.alloc _ _)=V;obtain⟨h0,ac,J,aS⟩:=ha hV;have hC:DL W L l (W.heap.size) (W.heap.size+1) (W.heap.size+1+1) V:=⟨h0,by rw[←gH];exact ac,by rw[←gH];exact J,aS,ad,ad,ad,ad⟩
    clear hV h0 ac J aS;generalize W.heap.size+1+1=cD at hC ⊢;generalize W.heap.size+1=g2 at hC ⊢;generalize W.heap.size=b4 at hC ⊢;exact key b4 g2 cD _ hC
   ·
    refine ja ?_;refine ak ?_;refine ja ?_;refine tf ?_;generalize hV:World.drew (World.alloc _ _)=V;obtain⟨h0,ac,J,aS⟩:=ha hV;have hC:DL W L l (W.heap.size) (W.heap.size+1+1) (W.heap.size+1) V:=⟨h0,by rw[←gH];exact ac,by rw[←gH];exact aS,J,ad,ad,ad,ad⟩
    clear hV h0 ac J aS;generalize W.heap.size+1+1=cD at hC ⊢;generalize W.heap.size+1=g2 at hC ⊢;generalize W.heap.size=b4 at hC ⊢;exact key b4 cD g2 _ hC
  ·
   refine ja ?_;refine aR ?_ ?_
   ·
    refine aY rfl (fun K hK=>?_) rfl;go_simp;refine hK _ _ ?_;clear hK K
    try simp only[PU]
    refine tf ?_;refine ak ?_;refine ja ?_;generalize hV:World.drew (World.alloc _ _)=V;obtain⟨h0,ac,J,aS⟩:=ha hV;have hC:DL W L l (W.heap.size+1) (W.heap.size) (W.heap.size+1+1) V:=⟨h0,by rw[←gH];exact J,by rw[←gH];exact ac,aS,ad,ad,ad,ad⟩
    clear hV h0 ac J aS;generalize W.heap.size+1+1=cD at hC ⊢;generalize W.heap.size+1=g2 at hC ⊢;generalize W.heap.size=b4 at hC ⊢;exact key g2 b4 cD _ hC
   ·
    refine ja ?_;exact gy
  ·
   refine ja ?_;refine aR ?_ ?_
   ·
    refine aY rfl (fun K hK=>?_) rfl;go_simp;refine hK _ _ ?_;clear hK K
    try simp only[PU]
    refine ak ?_;refine ja ?_;refine tf ?_;generalize hV:World.drew (World.alloc _ _)=V;obtain⟨h0,ac,J,aS⟩:=ha hV;have hC:DL W L l (W.heap.size+1) (W.heap.size+1+1) (W.heap.size) V:=⟨h0,by rw[←gH];exact J,by rw[←gH];exact aS,ac,ad,ad,ad,ad⟩
    clear hV h0 ac J aS;generalize W.heap.size+1+1=cD at hC ⊢;generalize W.heap.size+1=g2 at hC ⊢;generalize W.heap.size=b4 at hC ⊢;exact key g2 cD b4 _ hC
   ·
    refine ja ?_;refine ak ?_;refine aY rfl (fun K hK=>?_) rfl;go_simp;refine hK _ _ ?_;clear hK K
    try simp only[PU]
    refine tf ?_;generalize hV:World.drew (World.alloc _ _)=V;obtain⟨h0,ac,J,aS⟩:=ha hV;have hC:DL W L l (W.heap.size+1+1) (W.heap.size+1) (W.heap.size) V:=⟨h0,by rw[←gH];exact aS,by rw[←gH];exact J,ac,ad,ad,ad,ad⟩
    clear hV h0 ac J aS;generalize W.heap.size+1+1=cD at hC ⊢;generalize W.heap.size+1=g2 at hC ⊢;generalize W.heap.size=b4 at hC ⊢;exact key cD g2 b4 _ hC
 intro N b1 gc V hC;have bs:=ae hC;obtain⟨c0,bw,a2⟩:=hC.bc.two;clear hC a0 al af U Y ds;refine ak ?_;refine aY rfl (fun K hK=>?_) rfl;go_simp;refine hK _ _ ?_;clear hK K
 try simp only[PU]
 refine bU ?_;generalize ah:World.setCell _ _ _=X;obtain⟨bz,bV⟩:=la 0 [.int .i64 k,.int .i64 0,.slice (some ⟨N,0,none⟩) L L,.slice (some ⟨b1,0,none⟩) l l] bs.bc ah;have aT:ag X gc 76 #[.int .i64 k,.int .i64 0,.slice (some ⟨N,0,none⟩) L L,.slice (some ⟨b1,0,none⟩) l l]:=by simpa [iG] using bz
 have bb:=bs.ba.on bV bs.ac;have bD:=bs.bb.on bV bs.FV;have br:Ext W X:=Fr.low (M:=fun b=>b=gc) (Fr.trans (Fr.mono bs.ext fun _ h=>h.elim) bV) fun b O=>by have:=bs.lo;omega
 have aU:=bO br bb bD aT;obtain⟨a6,aL,aP⟩:=aT.two;clear ah bz bV aT bb bD br c0 bw a2;have am:Ext w X:=aj.1.trans aU.1;have cQ:=aj.2.al aU.1;have ab:=(a8.1.on (Fr.ext am)).ints;have m:=b0.1;have r:=b0.2.1;have T:(is.map dV).length=Nat.min i L:=by rw[Gf];simp only[Nat.min_def];split<;>omega
 have y:=ab.Dx;have H:(is.map dV).length≤(List.replicate L (Value.int .i64 0)).length:=by simp;omega
 have g:=cA aU.2.1 aU.2.2.1 aU.2.2.2 am cQ;have f:=cA T y H m r;clear am cQ ab T y H m r;obtain⟨aQ,F,bt,aq⟩:=pH (P:=prog) 22 22 3 3 Tryz.underlying22 (by kernel_rfl) (dp:=some ⟨N,0,none⟩) (dCap:=L) (sp:=IA) (sCap:=ic) g.1 (is.map dV) f.1 (fun h=>⟨rfl,f.2.1 h⟩) f.2.2.1 (by simp[Value.oneCell']);have bB:=g.2.2.1.on aq (Ne.symm bs.ac);have bk:=aK bt aq bB;clear bt aq;obtain⟨e0,bl,a5⟩:=bB.two;clear bB;have an:Ext w aQ:=Fr.low (M:=fun b=>b=N) (Fr.trans (Fr.mono g.2.2.2.1 fun _ h=>h.elim) bk.2.1) fun b O=>by have:=bs.lo;have:=aj.1.size;omega
 have ao:=(a8.2.on (Fr.ext an)).ints;have z:=ao.Dx;have cn:(ls.map dV).length=Nat.min l l:=by rw[Gf];have:=f.2.2.2.2;simp only[Nat.min_def];split<;>omega
 have S:(ls.map dV).length≤(List.replicate l (Value.int .i64 0)).length:=by have:=f.2.2.2.2;simp;omega
 have bL:=g.2.1.on bk.2.1 (Ne.symm bs.ab);have dl:=cA cn z S bL an;clear an ao z cn S bL;obtain⟨bJ,G,bt,aq⟩:=pH (P:=prog) 22 22 3 3 Tryz.underlying22 (by kernel_rfl) (dp:=some ⟨b1,0,none⟩) (dCap:=l) (sp:=bj) (sCap:=lc) dl.2.2.2.1 (ls.map dV) dl.1 (fun h=>⟨rfl,dl.2.1 h⟩) dl.2.2.1 (by simp[Value.oneCell']);have bB:=bk.2.2.on aq (Ne.symm bs.FV);have bH:=aK bt aq bB;clear bt aq;obtain⟨fn,bK,dr⟩:=bB.two;clear bB;have b5:=(g.2.2.2.2.on bk.2.1 (aB bs.lo)).on bH.2.1 (aB bs.lo);have bo:Ext w bJ:=Fr.low (M:=fun b=>b=b1) (Fr.trans (Fr.mono dl.2.2.2.2 fun _ h=>h.elim) bH.2.1) fun b O=>by have:=bs.lo;have:=aj.1.size;omega
 have aZ:=ai b5 bo;obtain⟨bx,bd,be⟩:=b5.two;clear b5 bo;go_wp2_with (fail);generalize ah:World.setCell _ _ _=Z;obtain⟨bm,a9,bn⟩:=cx (w:=w) [.int .i64 k,.int .i64 0,.slice (some ⟨N,0,none⟩) L L,.slice (some ⟨b1,0,none⟩) l l] (by rfl) aZ.1 aZ.2 ad ah;have bf:=ai a9 bn;clear ah a9 bn bx bd be a6 aL aP e0 bl a5 fn bK dr F G;obtain⟨bx,bd,be⟩:=bm.two;refine GM (v:=.agg #[.int .i64 k,.int .i64 0,.slice (some ⟨N,0,none⟩) L L,.slice (some ⟨b1,0,none⟩) l l]) (by simp[results,Tryz.results29,go_sem,bx]) rfl ?_;have bN:=bs.lo;have bp:=aj.2.lt;have ar:=(bk.1.on bH.2.1 bs.ab).on bf.2 ad;have aw:=bH.1.on bf.2 ad;rw[rP] at ar aw;have ap:=b0.2.2;have a1:=ar.lt;have bQ:=aw.lt;have s:c9 u k is ls=⟨k,0,is++List.replicate (L - is.length) 0,ls⟩:=by unfold c9;rw[ap]
 rw[s];refine⟨some ⟨N,0,none⟩,L,L,some ⟨b1,0,none⟩,l,l,rfl,k4.2 ⟨_,_,_,_,_,_,rfl,Gb _,Gb _,ar.sl (by have:=b0.1;simp;omega) ⟨ad,a1⟩,?_⟩,bf.1⟩;have:=aw.sl (n:=l) (P:=fresh w Z) (by have:=b0.2.1;simp;omega) ⟨ad,bQ⟩
 rwa [show l - ls.length=0 by have:=b0.2.1;omega,List.replicate_zero,GF] at this
end Go.Proofs.YtjhgbdckgkppnaaGreat

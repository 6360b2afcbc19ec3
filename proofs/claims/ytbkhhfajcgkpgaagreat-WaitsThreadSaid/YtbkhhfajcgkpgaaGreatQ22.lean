/- Part 22 of the proof. No condition of its own. -/
import Derived.Test.YtbkhhfajcgkpgaaGreatQ21
namespace Go.Proofs.YtbkhhfajcgkpgaaGreat
open Go.RowKit Go.Proofs.Tryz
set_option maxRecDepth 1000000
set_option maxHeartbeats 25600000
set_option linter.unusedVariables false
variable{b:Bool}{B m:Nat}{P:Nat→Prop}{p:Prop}{q:SV}{Z ac w:World}{s:ah}{f:an}{u:av}
theorem eS{Y:World}{aV:ah}{M:Nat→Prop}(h:q.Is Y (fun k=>P k∨(B≤k∧k<Y.heap.size)) s)(aD:Fr M Y Z)(hM:∀k,M k→¬P k∧k<B)(aY:∀k,P k→k<Y.heap.size)(aL:w.heap.size≤B)(aF:Ext w Z)(hs:s=aV):l2 P w aV b (.returned (.tuple #[.agg (q.val aV),.bool b])) Z:=by
 subst hs;exact⟨q,rfl,(h.aj fun k aj=>aD.block k (aj.elim (aY k) fun h=>h.2) fun hm=>aj.elim (hM k hm).1 fun h=>by have:=(hM k hm).2;omega).mono fun k aj=>aj.imp id fun aj=>⟨ab,by have:=aD.size;omega⟩,aF⟩
theorem SV.Is.FQ{V:World}(h:q.Is w P s)(aY:∀b,P b→b<w.heap.size)(aF:Ext w V):q.Is V P s:=h.aj fun b O=>aF.block b (aY b O) fun h=>h
theorem vY(h:q.Is w P s)(aY:∀b,P b→b<w.heap.size)(aF:Ext w Z):l2 P w s b (.returned (.tuple #[.agg (q.val s),.bool b])) Z:=
 ⟨q,rfl,(h.FQ aY aF).mono fun _ O=>.inl O,aF⟩
theorem RO.HB{k:Nat}{fs:List an}{r:Nat}{O lb lc:Nat}{hx br:List Value}{IA:Kr}{ic:Nat}{bj:Kr}{y:Nat}{F1 F2 a8:List Nat}(h:RO P B w s k fs f r q O lb lc hx br IA ic bj y F1 F2 a8):Sl w (au w) IA f.ints.length (f.ints.map .i):=
 h.i.sl (cy _) (by simp) fun b O=>(h.lo b (by simp[O])).2
namespace BX
theorem Ad(h:p:=by
 exact y3
 ):p:=h
theorem lA(h:p:=by
 have bP:af W w.heap.size 26 #[.slice GA gn gc,.slice MA mn mc,.slice PA pn pc,.int .i64 u.main]:=bg▸((Ko).alloc _).alloc _;have bG:af W (w.heap.size+1) 30 #[.slice bp bQ a7,.slice TA tn tc,.slice HA hn hc,.int .i64 s.fault]:=bg▸(af.ct _ _ _ (by simp)).alloc _;have b8:af W (w.heap.size+2) 30 #[.slice none 0 0,.slice none 0 0,.slice none 0 0,.int .i64 0]:=bg▸af.ct _ _ _ (by simp);have ax:=dQ aF bP bG b8 (cc.1.on aF) (cc.2.1.on aF);have cA:=aF.size;have df:=b8.lt;obtain⟨a0,ap,ak⟩:=bP.two;obtain⟨a6,am,aI⟩:=bG.two;clear bg aF bP bG b8;go_wp2_with(fail);refine(kz u s t W ⟨GA,gn,gc,MA,mn,mc,PA,pn,pc⟩ ⟨bp,bQ,a7,TA,tn,tc,HA,hn,hc⟩ ax.2.2.2.2.2 m.o).mono ?_;rintro e aN ⟨rfl,aG⟩;have br:=ad aG;clear a0 ap ak a6 am aI;go_upto_region 2 with(fail);generalize hV:World.alloc _ _=V;have bf:Ext W V:=hV▸aG.alloc _;have cM:=bf.size;have z:=ax.2.2.2.1.ak bf;obtain⟨a6,am,aI⟩:=(ax.2.2.1.ak bf).two;obtain⟨bv,bd,be⟩:=z.two;have b1:=ai bf z;clear hV bf aG z;go_wp2_with(fail);generalize hX:World.setCell _ _ _=Z;obtain⟨bC,bl,bn⟩:=cb (w:=w) [.slice bp bQ a7,.slice TA tn tc,.slice HA hn hc,.int .i64 s.fault] (by rfl) b1.2 (ax.1.trans b1.1) ab hX;exact Ac
 ):p:=h
theorem fM(h:p:=by
 have cc:=aQ hu (bF.ok aY) bF;obtain⟨k,m⟩:=aM aY ht;clear hu bF aY ht;dsimp only[UV.val,SV.val];go_enter func25,ntmps25;exact lz
 ):p:=h
end BX
open BX in
theorem vS(u:av)(s:ah)(t:Int)(P:Nat→Prop)(w:World)(p:UV)(q:SV)(hu:p.Ok w u)(bF:q.Is w P s)(aY:∀b,P b→b<w.heap.size)(ht:dE s t=none) :
  Calls prog 25 #[.agg (p.val u),.agg (q.val s),.int .i64 t] w (l2 P w s false):=by
 exact fL
theorem RO.ak{P:Nat→Prop}{B:Nat}{w ac:World}{s:ah}{k:Nat}{fs:List an}{f:an}{r:Nat}{q:SV}{O lb lc:Nat}{hx br:List Value}{IA:Kr}{ic:Nat}{bj:Kr}{y:Nat}{F1 F2 a8:List Nat}(h:RO P B w s k fs f r q O lb lc hx br IA ic bj y F1 F2 a8)(aF:Ext w ac):RO P B ac s k fs f r q O lb lc hx br IA ic bj y F1 F2 a8:=by
 have aj:∀b,b<w.heap.size→ac.heap[b]?=w.heap[b]?:=fun b O=>aF.block b O fun h=>h;have aw:∀b∈r::O::lb::(F1++(F2++a8)),ac.heap[b]?=w.heap[b]?:=fun b O=>aj b (h.lo b O).2;have aL:=(h.lo r (by simp))
 have am:∀b,P b→ac.heap[b]?=w.heap[b]?:=fun b O=>aj b (aH (h.pb b O));refine {th:=h.th,gl:=h.gl,tl:=h.tl,hl:=h.hl,g:=h.g.aj fun b O=>aw b (by simp[O]),t:=h.t.aj fun b O=>aw b (by simp[O]),h:=h.h.aj fun b O=>aw b (by simp[Kh.1 O]),sj:=h.sj,qw:=fun j cX bc cy=>?_,yA:=h.yA,l:=h.l.aj fun b O=>aw b (by simp[Kh.1 O]),fr:=D.bJ am _ _ h.fr,lk:=h.lk.aj am,FR:=h.FR,i:=h.i.aj fun b O=>aw b (by simp[O]),o:=h.o.ak aF,nd:=h.nd,lo:=fun b O=>⟨(h.lo b O).1,JR (h.lo b O).2 aF.size⟩,pb:=h.pb};obtain⟨u,hu,aU⟩:=h.qw j cX bc cy;exact⟨u,hu,D.aN am _ _ aU⟩
namespace BY
theorem uO(h:p:=by
 rw[bX.o];exact eS (B:=V.heap.size) bM.1 ba.2.drew (fun b O=>⟨fun hl=>by have:=k.o b hl;omega,ab⟩) (fun b O=>by have:=k.o b O;omega) ab ba.1.drew (by rw[kZ ce.2.1,List.set_set];rfl)
 ):p:=h
theorem fK(h:p:=by
 generalize hX:World.setCell _ _ _=Y;have n:=bS.o;rw[hX] at n;have ar:Fr (fun b=>b=H) ci Y:=hX▸(Fr.refl (fun b=>b=H) ci).setCell (.inl rfl) _;have o:Ext V Y:=Fr.low (M:=fun b=>b=H) (Fr.trans (Fr.mono m.2.1 fun _ h=>h.elim) ar) fun b O=>ab;have bM:=aQ n.is n.o (b1.trans o);have bc:=o.size;clear hX n ar o a6 am aI d0 ag aR e0 a5 aZ c0 c1 c2 c3 aj flb aw cU bq;exact uN
 ):p:=h
theorem zA(h:p:=by
 clear b9 a4 a6 am aI;exact Fi
 ):p:=h
theorem rT(h:p:=by
 first
  | have de:(x.op == 8)=true:=by simpa using h
  | have de:(x.op == 8)=false:=by simp;omega
 have L:=ad h;clear h;go_upto_region 12 with(fail);refine eE (fun _=>False) [(0,3),(1,0),(2,3),(3,0),(4,3),(5,3),(6,3),(7,0),(8,2),(9,3),(10,3),(11,3),(12,3),(13,3)] ?_;refine pf ?_;refine ph ?_;refine pf ?_;refine ph ?_
 iterate 3 refine pf ?_
 refine ph ?_;refine aq rfl (fun K hK=>?_);go_simp;have a1:Ext X X.drew:=(Fr.refl _ X).drew;have c7:=aP.2.2.trans a1;have bz:(bb ex).rep X.drew (au X.drew) [.int .i64 eo,.int .i64 en,.string es,.slice EA em ec]:=by
  have:=(dj.on (aP.2.1.trans a1)).expr;rw[S.2.1] at this;exact this
 obtain⟨cG,cR⟩:=g.Hw S.1 (ax.2.2.2.2.2.on c7).at_.g (aP.1.HB.on (Fr.ext a1)) bz;refine(m7 ex X.drew bp cO bQ f.ints.length a7 cE s.globals f.ints _ _ _ _ cG cR).mono ?_;rintro e ci ⟨rfl,bI⟩;have a2:Ext X ci:=Fr.aO (Fr.of bI);have bA:=ad (aP.2.2.trans a2);have dq:=bK.o;generalize ev s.globals f.ints ex=R at *;obtain⟨r,z⟩:=R;have I:=ad dq;have aa:=RO.ak aP.1 a2;have m:=aQ aa (aP.2.1.trans a2) (aP.2.2.trans a2);have db:=a2.size;clear dq a1 c7 bz cG cR bI a2 a0 ap ak a6 am aI d0 ag aR e0 a5 aZ c0 c1 c2 c3 aj flb aw;obtain⟨a6,am,aI⟩:=(ax.2.2.1.ak bA.o).two;obtain⟨d0,ag,aR⟩:=(cC.ak m.2.1).two;obtain⟨e0,a5,aZ⟩:=aa.o.two;obtain⟨b3,b0,flb,aw,aj,c0,c1,c2,c3,b2⟩:=aa.top;clear aa;refine eD hK ?_;clear hK K
 iterate 5 refine pf ?_
 refine aA ?_;by_cases bi:z=0
 case neg=>
  have dn:(z != 0)=true:=by simpa using bi
  have bX:=ad (I.bad bi);exact zz
 have dn:(z != 0)=false:=by simpa using bi
 have aK:=ad bi;clear bi
 ):p:=h
theorem rR(h:p:=by
 rcases c5.o with h|h
 all_goals
  first
   | have q1:(x.op == 1)=true:=by simpa using h
   | have q1:(x.op == 1)=false:=by simp;omega
  first
   | have cB:(x.op == 2)=true:=by simpa using h
   | have cB:(x.op == 2)=false:=by simp;omega
  first
   | have cv:(x.op == 3)=true:=by simpa using h
   | have cv:(x.op == 3)=false:=by simp;omega
  first
   | have cF:(x.op == 4)=true:=by simpa using h
   | have cF:(x.op == 4)=false:=by simp;omega
  first
   | have q5:(x.op == 5)=true:=by simpa using h
   | have q5:(x.op == 5)=false:=by simp;omega
  first
   | have dg:(x.op == 6)=true:=by simpa using h
   | have dg:(x.op == 6)=false:=by simp;omega
  first
   | have q7:(x.op == 7)=true:=by simpa using h
   | have q7:(x.op == 7)=false:=by simp;omega
  first
   | have de:(x.op == 8)=true:=by simpa using h
   | have de:(x.op == 8)=false:=by simp;omega
  have L:=ad h;clear h;go_upto_region 12 with(fail);refine eE (fun _=>False) [(0,3),(1,0),(2,3),(3,0),(4,3),(5,3),(6,3),(7,0),(8,2),(9,3),(10,3),(11,3),(12,3),(13,3)] ?_;refine pf ?_;refine ph ?_;refine pf ?_;refine ph ?_
  iterate 3 refine pf ?_
  refine ph ?_;refine aq rfl (fun K hK=>?_);go_simp;have a1:Ext X X.drew:=(Fr.refl _ X).drew;have c7:=aP.2.2.trans a1;have bz:(bb ex).rep X.drew (au X.drew) [.int .i64 eo,.int .i64 en,.string es,.slice EA em ec]:=by
   have:=(dj.on (aP.2.1.trans a1)).expr;rw[S.2.1] at this;exact this
  obtain⟨cG,cR⟩:=g.Hw S.1 (ax.2.2.2.2.2.on c7).at_.g (aP.1.HB.on (Fr.ext a1)) bz;refine(m7 ex X.drew bp cO bQ f.ints.length a7 cE s.globals f.ints _ _ _ _ cG cR).mono ?_;rintro e ci ⟨rfl,bI⟩;have a2:Ext X ci:=Fr.aO (Fr.of bI);have bA:=ad (aP.2.2.trans a2);have dq:=bK.o;generalize ev s.globals f.ints ex=R at *;obtain⟨r,z⟩:=R;have I:=ad dq;have aa:=RO.ak aP.1 a2;have m:=aQ aa (aP.2.1.trans a2) (aP.2.2.trans a2);have db:=a2.size;clear dq a1 c7 bz cG cR bI a2 a0 ap ak a6 am aI d0 ag aR e0 a5 aZ c0 c1 c2 c3 aj flb aw;obtain⟨a6,am,aI⟩:=(ax.2.2.1.ak bA.o).two;obtain⟨d0,ag,aR⟩:=(cC.ak m.2.1).two;obtain⟨e0,a5,aZ⟩:=aa.o.two;obtain⟨b3,b0,flb,aw,aj,c0,c1,c2,c3,b2⟩:=aa.top;clear aa;refine eD hK ?_;clear hK K
  iterate 5 refine pf ?_
  refine aA ?_;by_cases bi:z=0
  case neg=>
   have dn:(z != 0)=true:=by simpa using bi
   have bX:=ad (I.bad bi);exact zz
  have dn:(z != 0)=false:=by simpa using bi
  have aK:=ad bi;clear bi
 ·
  cases aJ:x.c8 with
  | true=>
   have bX:=ad (I.gl aK.o L.o aJ);rw[aJ] at d0;have bE:=S.2.2.1 L.o aJ;have bx:=S.2.2.2.2;have aH:=m.1.gl;simp only at aH;have b5:x.target<(cg:Int):=ab;obtain⟨aB,bt,cQ,cU,⟨cH,bq⟩,cp,bk,T⟩:=m.1.c8 (j:=x.target.toNat) (by show x.target.toNat<cg;omega);simp only at bt;subst bt;have bS:=ad (T r);clear bE bx aH T aJ;go_upto_region 45 with(fail);generalize hX:World.setCell _ _ _=Y;have n:=bS.o;rw[hX] at n;have ar:Fr (fun b=>b=aB) ci Y:=hX▸(Fr.refl (fun b=>b=aB) ci).setCell (.inl rfl) _;have o:Ext V Y:=Fr.low (M:=fun b=>b=aB) (Fr.trans (Fr.mono m.2.1 fun _ h=>h.elim) ar) fun b O=>ab;have bM:=aQ n.is n.o (b1.trans o);have bc:=o.size;clear hX n ar o a6 am aI d0 ag aR e0 a5 aZ c0 c1 c2 c3 aj flb aw cU bq;have aX:=ai (ax.2.2.2.1.ak bM.2.2) (ax.1.trans bM.2.2);have cw:=bM.2.2.size;obtain⟨bv,bd,be⟩:=aX.1.two;obtain⟨e0,a5,aZ⟩:=bM.2.1.two;go_wp2_with(fail);generalize hX:World.setCell _ _ _=Z;obtain⟨bC,bl,bn⟩:=cb (w:=w) [.slice (some ⟨aB,0,none⟩) cg bw,.slice cL l aO,.slice (some ⟨O,0,none⟩) a3 G,.int .i64 s.fault] (by rfl) aX.1 aX.2 ab hX;have ba:=ai bl bn;clear hX bl bn bv bd be e0 a5 aZ;obtain⟨bv,bd,be⟩:=bC.two;refine Km (v:=.tuple #[.agg #[.slice (some ⟨aB,0,none⟩) cg bw,.slice cL l aO,.slice (some ⟨O,0,none⟩) a3 G,.int .i64 s.fault],.bool true]) (by simp[results,Tryz.results25,go_sem,bv]) rfl ?_
   exact B9
  | false=>
   have bX:=ad (I.lo aK.o L.o aJ);rw[aJ] at d0;have ac:=S.2.2.2.1 L.o aJ;have b7:x.target<((next f).ints.length:Int):=ac;obtain⟨H,bT,cQ,cU,⟨cH,bq⟩,cp,bk,hints⟩:=m.1.ints (j:=x.target.toNat) (by show x.target.toNat<f.ints.length;omega);subst bT;have bS:=ad (hints r);clear hints aJ;go_upto_region 20 with(fail);refine eE (fun _=>False) [(0,3),(1,3),(2,3),(3,0),(4,3),(5,0),(6,3),(7,3),(8,2)] ?_
   iterate 3 refine pf ?_
   refine ph ?_;refine pf ?_;refine ph ?_
   iterate 2 refine pf ?_
   exact fJ
 ·
  by_cases aU:r=0
  ·have DN:(r == 0)=true:=by simpa using aU
   have bX:=ad (I.bz aK.o L.o aU);clear aU;go_upto_region 45 with(fail);generalize hX:World.setCell _ _ _=Y;have n:=m.1.pc x.target;rw[hX] at n;have ar:Fr (fun b=>b=lb) ci Y:=hX▸(Fr.refl (fun b=>b=lb) ci).setCell (.inl rfl) _;have o:Ext V Y:=Fr.low (M:=fun b=>b=lb) (Fr.trans (Fr.mono m.2.1 fun _ h=>h.elim) ar) fun b O=>ab;have bM:=aQ n.is n.o (b1.trans o);have bc:=o.size;clear hX n ar o a6 am aI d0 ag aR e0 a5 aZ c0 c1 c2 c3 aj flb aw;exact Fg
  ·have DN:(r == 0)=false:=by simpa using aU
   have bX:=ad (I.bn aK.o L.o aU);clear aU;have bM:=aQ m.1.is m.1.o m.2.2;clear e0 a5 aZ c0 c1 c2 c3 aj flb aw;have aX:=ai (ax.2.2.2.1.ak bM.2.2) (ax.1.trans bM.2.2);have cw:=bM.2.2.size;obtain⟨bv,bd,be⟩:=aX.1.two;obtain⟨e0,a5,aZ⟩:=bM.2.1.two;go_wp2_with(fail);generalize hX:World.setCell _ _ _=Z;obtain⟨bC,bl,bn⟩:=cb (w:=w) [.slice c9 cg bw,.slice cL l aO,.slice (some ⟨O,0,none⟩) a3 G,.int .i64 s.fault] (by rfl) aX.1 aX.2 ab hX;have ba:=ai bl bn;clear hX bl bn bv bd be e0 a5 aZ;obtain⟨bv,bd,be⟩:=bC.two;refine Km (v:=.tuple #[.agg #[.slice c9 cg bw,.slice cL l aO,.slice (some ⟨O,0,none⟩) a3 G,.int .i64 s.fault],.bool true]) (by simp[results,Tryz.results25,go_sem,bv]) rfl ?_;exact B9
 ):p:=h
theorem rP(h:p:=by
 exact rQ
 ):p:=h
theorem rX(h:p:=by
 exact rO
 ):p:=h
theorem rV(h:p:=by
 obtain⟨len,hlen,al⟩:=h.ok;have hx:(∃e,x.expr=some e∧fO (bh u) Q.locals e)∧0≤x.target∧(x.op=1→x.c8=true→x.target<u.globals.length)∧(x.op=1→x.c8=false→x.target<f.ints.length):=by
  obtain⟨c8,bV,_,aL,_⟩:=h.hF.ex;rw[h.hp] at bV;injection bV with bV;subst bV;rcases al with⟨ae,aC,aT,a9,cl⟩|⟨ae,_⟩|⟨ae,_⟩|⟨ae,_,aC,aT,a9⟩|⟨ae,_⟩|⟨ae,_⟩
  ·exact⟨aC,aT,fun _ aJ=>by have:=a9 aJ;simpa[bh] using this,fun _ aJ=>by have:=cl aJ;omega⟩
  ·omega
  ·omega
  ·exact⟨aC,aT,fun h=>ab,fun h=>ab⟩
  ·omega
  ·omega
 obtain⟨⟨ex,hex,az⟩,b4,cT,aW⟩:=hx;have bK:=ad (Je (u:=u) (s:=s) (t:=t) (f:=f) hex aE);have aS:=h.hS.c8;have S:=dA az hex cT aW aS;clear al hlen az hex cT aW aS;exact rW
 ):p:=h
end BY
open BY in
theorem qb(u:av)(s:ah)(t:Int)(f:an)(Q:c6)(x:ay)(N:Nat)(P:Nat→Prop)(w:World)(p:UV)(q:SV)(h:k6 u s t f Q x N)(hN:N≤100000)(aE:x.op=1∨x.op=6)(hu:p.Ok w u)(bF:q.Is w P s)(aY:∀b,P b→b<w.heap.size) :
  Calls prog 25 #[.agg (p.val u),.agg (q.val s),.int .i64 t] w (l2 P w (cj u s t f x).1 (cj u s t f x).2):=by
 exact rU
def DV(w:World)(r:Option (Int×Int))(e:Ending)(ac:World):Prop:=
 e=.returned (.tuple #[.int .i64 ((r.map Prod.fst).getD 0),.int .i64 ((r.map Prod.snd).getD 0),.bool r.isSome])∧Ext w ac
structure lv(u:av)(s:ah)(N:Nat)(w:World)(p:UV)(q:SV):Prop where
 hU:yy u
 hS:aS u N s
 hN:N≤100000
 u:p.Ok w u
 s:q.Ok w s
theorem lv.on{u:av}{s:ah}{N:Nat}{w ac:World}{p:UV}{q:SV}(h:lv u s N w p q)(he:Ext w ac):lv u s N ac p q:=⟨h.hU,h.hS,h.hN,h.u.on he,h.s.on he⟩
theorem DF{t:Int}{x:ay}(ht:dE s t=some f)(hx:dg u s t=some x):
  (x.op≠4→dF u s t=none)∧(x.op=4→(bk u s f x.place).2≠0→dF u s t=none)∧
  (x.op=4→(bk u s f x.place).2=0→free u.ae s.table (bk u s f x.place).1 t=true→dF u s t=none)∧
  (x.op=4→(bk u s f x.place).2=0→free u.ae s.table (bk u s f x.place).1 t=false→dF u s t=some ((bk u s f x.place).1,(jo s.table (bk u s f x.place).1).owner - 1)):=by
 unfold dF;rw[ht,hx];refine⟨fun h=>?_,fun ae aC=>?_,fun ae aC aT=>?_,fun ae aC aT=>?_⟩
 ·simp[h]
 ·simp[ae,aC]
 ·simp[ae,aC,aT]
 ·simp[ae,aC,aT]
namespace A7
theorem mP(h:p:=by
 have ax:=bw aF bG aY (cn.on aF);obtain⟨a0,ap,ak⟩:=bG.two;obtain⟨a6,am,aI⟩:=aY.two;clear bg aF bG aY
 cases htop:dE s t with
 | none=>
  have bX:=ad (wq (u:=u) htop);have L:=ad htop;clear htop;go_wp2_with(fail)
  first
   | refine(nM u s t W ⟨GA,gn,gc,MA,mn,mc,PA,pn,pc⟩ ⟨bp,bQ,a7,TA,tn,tc,HA,hn,hc⟩ ax.2.2.2.s L.o).mono ?_
   | refine(kz u s t W ⟨GA,gn,gc,MA,mn,mc,PA,pn,pc⟩ ⟨bp,bQ,a7,TA,tn,tc,HA,hn,hc⟩ ax.2.2.2.s L.o).mono ?_
  rintro e aN ⟨rfl,aG⟩;have br:=ad (ax.1.trans aG);clear a0 ap ak a6 am aI aG;go_wp2_with(fail)
  go_ret3
  exact⟨by rw[bX.o];rfl,br.alloc _⟩
 | some f=>
  obtain⟨Q,x,i,n⟩:=k6.of cn.hU cn.hS cn.hN htop;have m:=ad (DF htop n);have g:=ad i;clear htop n i;go_wp2_with(fail)
  first
   | refine(nN u s t f Q x W ⟨GA,gn,gc,MA,mn,mc,PA,pn,pc⟩ ⟨bp,bQ,a7,TA,tn,tc,HA,hn,hc⟩ ⟨g.sm,g.ht,g.hp,g.hx,g.hF.proc,g.pc.1,g.il,g.kl,ax.2.2.2.u,ax.2.2.2.s⟩).mono ?_
   | refine(kA u s t f Q x W ⟨GA,gn,gc,MA,mn,mc,PA,pn,pc⟩ ⟨bp,bQ,a7,TA,tn,tc,HA,hn,hc⟩ ⟨g.sm,g.ht,g.hp,g.hx,g.hF.proc,g.pc.1,g.il,g.kl,ax.2.2.2.u,ax.2.2.2.s⟩).mono ?_
  rintro e aN ⟨⟨eo,en,es,EA,em,ec,QA,qm,qc,cN,j,cy,KA,cK,kc⟩,rfl,bD,aG⟩;have cI:=ai bD aG;clear a0 ap ak a6 am aI bD aG;dsimp only[IV.val];go_upto_region 2 with(fail);generalize hV:World.alloc _ _=V;have bY:Ext aN V:=hV▸Kn.alloc _;have cX:af V aN.heap.size 62 #[.int .i64 x.op,.int .i64 x.target,.bool x.c8,.int .i64 eo,.int .i64 en,.string es,.slice EA em ec,.bool x.place.param,.int .i64 x.place.index,.slice QA qm qc,.slice cN j cy,.slice KA cK kc]:=hV▸Ko;have bf:Ext W V:=cI.2.trans bY;have cA:=ax.2.2.1.lt;have cM:=cI.2.size;have b1:=ad bf;have U:=ad (cI.1.on bY).place;have cC:=ad cX;obtain⟨a0,ap,ak⟩:=(ax.2.1.ak bf).two;obtain⟨a6,am,aI⟩:=(ax.2.2.1.ak bf).two;obtain⟨d0,ag,aR⟩:=cX.two;clear hV bf bY cX cI;by_cases aE:x.op=4
  case neg=>
   have q1:(x.op != 4)=true:=by simpa using aE
   have bX:=ad (m.1 aE);clear aE m;go_wp2_with(fail)
   go_ret3
   exact⟨by rw[bX.o];rfl,ax.1.trans b1.o⟩
  have q1:(x.op != 4)=false:=by simpa using aE
  have bb:cJ (bh u) Q.locals Q.aw x.place:=by
   obtain⟨len,_,al⟩:=g.ok;exact yN
  have au:=g.hS.ys;obtain⟨bu,cZ,aD,_⟩:=g.th;have b3:t≤1000:=ab;have b0:=ji (s:=s) (nl:=Q.locals) (nk:=f.aw.length) g.hU.ok g.hF (Int.le_refl _) (by rw[g.hF.vy g.hp];exact bb);have aJ:=aQ b0.2 bb (g.hS.tok cn.hN);have E:=aQ (m.2.1 aE) (m.2.2.1 aE) (m.2.2.2 aE);clear aE m bb b0 au bu cZ aD;go_wp2_with(fail)
  first
   | refine(vz u s t f x.place N V ⟨GA,gn,gc,MA,mn,mc,PA,pn,pc⟩ ⟨bp,bQ,a7,TA,tn,tc,HA,hn,hc⟩ QA qm qc ⟨g.hU.ok,g.hS,g.sm,g.ht,⟨Q,g.hp,aJ.2.1⟩,ax.2.2.2.u.on b1.o,ax.2.2.2.s.on b1.o,U.o⟩).mono ?_
   | refine(lR u s t f x.place N V ⟨GA,gn,gc,MA,mn,mc,PA,pn,pc⟩ ⟨bp,bQ,a7,TA,tn,tc,HA,hn,hc⟩ QA qm qc ⟨g.hU.ok,g.hS,g.sm,g.ht,⟨Q,g.hp,aJ.2.1⟩,ax.2.2.2.u.on b1.o,ax.2.2.2.s.on b1.o,U.o⟩).mono ?_
  rintro e aO ⟨rfl,bx⟩;rw[jG g.ht];have aS:Ext V aO:=Fr.of bx;have bK:=ai aJ.1 E.o;generalize bk u s f x.place=R at *;obtain⟨aL,z⟩:=R;have o:=(ax.1.trans b1.o).trans aS;have l:=bw o ((ax.2.2.2.on b1.o).on aS) ((ax.2.1.ak b1.o).ak aS) ((ax.2.2.1.ak b1.o).ak aS);clear a0 ap ak a6 am aI d0 ag aR bx E;obtain⟨a0,ap,ak⟩:=l.2.2.1.two;obtain⟨a6,am,aI⟩:=l.2.2.2.two;clear aS o;by_cases bi:z=0
  case neg=>
   have cB:(z != 0)=true:=by simpa using bi
   have bX:=ad (bK.2.1 bi);clear bi bK;go_wp2_with(fail)
   go_ret3
   exact⟨by rw[bX.o];rfl,l.1⟩
  have cB:(z != 0)=false:=by simpa using bi
  have aB:=bK.1 bi;simp only at aB;have bq:=lI g.hU.ok;have aU:aL≤5000:=ab;have r:=aB.1;have v:=ad aB;have M:=ai (bK.2.2.1 bi) (bK.2.2.2 bi);clear bi aB bq bK;go_wp2_with(fail)
  first
   | refine(CJ MA TA mn mc tn tc u.ae s.table aL t aO l.2.1.u.at_.m.qG g.hU.ok.DM l.2.1.s.at_.t.holds aJ.2.2 ab ab).mono ?_
   | refine(nQ MA TA mn mc tn tc u.ae s.table aL t aO l.2.1.u.at_.m.qG g.hU.ok.DM l.2.1.s.at_.t.holds aJ.2.2 ab).mono ?_
  rintro e bU ⟨rfl,az⟩;have bB:Ext aO bU:=Fr.of az;have bl:=ai (l.1.trans bB) (l.2.1.on bB);have bP:=l.2.2.2.ak bB;clear a0 ap ak a6 am aI az bB;obtain⟨a6,am,aI⟩:=bP.two;clear bP
  cases H:free u.ae s.table aL t with
  | true=>
   have bX:=ad (M.1 H);clear H M;go_wp2_with(fail)
   go_ret3
   exact⟨by rw[bX.o];rfl,bl.1⟩
  | false=>
   have hF:=M.2 H;obtain⟨k,rfl⟩:=JV r;have aj:k<tn:=by
    have ae:=bl.2.s.at_.t.1;have aC:=bl.2.hS.table;have aT:=eK u.ae;have a9:=v.o;simp only[JU] at ae;omega
   obtain⟨y,to,hd,rfl,an,hx,c0,c1⟩:=bl.2.s.at_.t.holds.hold aj;have bv:=(bl.2.hS.holds k hd hx).owner;have au:=bl.2.hS.ys;have S:IntKind.i64.wrap (hd.owner - 1)=hd.owner - 1:=IntWalk.i64_in _ ab;have P:(jo s.table (k:Int)).owner=hd.owner:=by simp[jo,hx]
   rw[P] at hF;have bX:=ad hF;have cm:=ai aj S;have cd:(k:Int)<(tn:Int):=ab;have I:(0:Int)≤(k:Int):=ab;clear H M hF bv au P hx aj S;go_upto_region 7 with(fail);refine eE (fun _=>False) [(0,3),(1,3),(2,0),(3,3),(4,3),(5,3),(6,0),(7,3),(8,3),(9,3),(10,3)] ?_
   iterate 2 refine pf ?_
   refine ph ?_
   iterate 3 refine pf ?_
   refine ph ?_
   iterate 4 refine pf ?_
   refine aA ?_;go_wp2_with(fail)
   go_ret3
   exact⟨by rw[bX.o];simp[cm.2],bl.1.drew⟩
 ):p:=h
theorem fM(h:p:=by
 have cn:=ad h;clear h;dsimp only[UV.val,SV.val];cases b
 all_goals
  simp only[cond_true,cond_false]
  first
   | go_enter func12,ntmps12
   | go_enter func13,ntmps13
  exact mO
 ):p:=h
end A7
open A7 in
theorem gX(b:Bool)(u:av)(s:ah)(t:Int)(N:Nat)(w:World)(p:UV)(q:SV)(h:lv u s N w p q) :
  Calls prog (bif b then 13 else 12) #[.agg (p.val u),.agg (q.val s),.int .i64 t] w (DV w (dF u s t)):=by
 exact fL
theorem xY(b:Bool)(u:av)(s:ah)(t:Int)(N:Nat)(w:World)(p:UV)(q:SV)(h:lv u s N w p q) :
  Calls prog (bif b then 29 else 34) #[.agg (p.val u),.agg (q.val s),.int .i64 t] w fun e ac=>
   ∃(x:ay) (v:IV),e=.returned (.tuple #[.agg (v.val x),.bool (dg u s t).isSome])∧Ext w ac:=by
 cases htop:dE s t with
 | none=>
  rw[nI htop];cases b
  ·exact(nM u s t w p q h.s htop).mono fun e ac h=>⟨⟨0,0,false,none,⟨false,0,none⟩,[],[]⟩,⟨0,0,⟨#[]⟩,none,0,0,none,0,0,none,0,0,none,0,0⟩,h.1,h.2⟩
  ·exact(kz u s t w p q h.s htop).mono fun e ac h=>⟨⟨0,0,false,none,⟨false,0,none⟩,[],[]⟩,⟨0,0,⟨#[]⟩,none,0,0,none,0,0,none,0,0,none,0,0⟩,h.1,h.2⟩
 | some f=>
  obtain⟨Q,x,i,n⟩:=k6.of h.hU h.hS h.hN htop;rw[n];have al:F4 u s t f Q x w p q:=⟨i.sm,i.ht,i.hp,i.hx,i.hF.proc,i.pc.1,i.il,i.kl,h.u,h.s⟩
  cases b
  ·exact(nN u s t f Q x w p q al).mono fun e ac ⟨v,h,_,he⟩=>⟨_,_,h,he⟩
  ·exact(kA u s t f Q x w p q al).mono fun e ac ⟨v,h,_,he⟩=>⟨_,_,h,he⟩
namespace A8
theorem mP(h:p:=by
 have ax:=bw aF bG aY (cn.on aF);obtain⟨a0,ap,ak⟩:=bG.two;obtain⟨a6,am,aI⟩:=aY.two;clear bg aF bG aY;go_wp2_with(fail)
 first
  | refine(b9.o false W ax.2.2.2).1.mono ?_
  | refine(b9.o true W ax.2.2.2).1.mono ?_
 rintro e aN ⟨x,⟨eo,en,es,EA,em,ec,QA,qm,qc,cN,j,cy,KA,cK,kc⟩,rfl,aG⟩;dsimp only[IV.val];generalize al:(dg u s t).isSome=i;obtain⟨g,br⟩:=aM al aG;clear a0 ap ak a6 am aI aG al;go_upto_region 2 with(fail);generalize hV:World.alloc _ _=V;have bf:Ext W V:=hV▸br.alloc _;have cc:=ai (ax.1.trans bf) (ax.2.2.2.on bf);obtain⟨a0,ap,ak⟩:=(ax.2.1.ak bf).two;obtain⟨a6,am,aI⟩:=(ax.2.2.1.ak bf).two;clear hV bf;go_wp2_with(fail)
 first
  | refine(b9.o false V cc.2).2.mono ?_
  | refine(b9.o true V cc.2).2.mono ?_
 rintro e aO ⟨rfl,aS⟩;have J:=ad (cc.1.trans aS);have f:xM u s t=(i && (dF u s t).isNone):=by rw[←g.o];rfl
 have ca:(dF u s t).isNone=!(dF u s t).isSome:=by cases dF u s t<;>rfl
 rw[ca] at f;generalize dF u s t=r at *;have l:=ad f;clear a0 ap ak a6 am aI aS f ca;cases i<;>cases r<;>(go_wp2_with(fail);go_ret;exact⟨by rw[l.o];rfl,J.o⟩)
 ):p:=h
theorem fM(h:p:=by
 have cn:=ad h;have b9:=ad fun (b:Bool) (w:World) (h:lv u s N w ⟨GA,gn,gc,MA,mn,mc,PA,pn,pc⟩ ⟨bp,bQ,a7,TA,tn,tc,HA,hn,hc⟩)=>And.intro (xY b u s t N w _ _ h) (gX b u s t N w _ _ h);clear h;dsimp only[UV.val,SV.val] at *;cases b
 all_goals
  simp only[cond_true,cond_false]
  first
   | go_enter func14,ntmps14
   | go_enter func15,ntmps15
  exact mO
 ):p:=h
end A8
open A8 in
theorem iI(b:Bool)(u:av)(s:ah)(t:Int)(N:Nat)(w:World)(p:UV)(q:SV)(h:lv u s N w p q) :
  Calls prog (bif b then 15 else 14) #[.agg (p.val u),.agg (q.val s),.int .i64 t] w fun e ac=>e=.returned (.bool (xM u s t))∧Ext w ac:=by
 exact fL
theorem lv.len{N:Nat}{p:UV}(h:lv u s N w p q):s.threads.length=q.hn∧1≤q.hn∧q.hn≤32:=by
 have ae:=h.s.at_.h.1;have aC:=h.hS.ys;simp only[JU] at ae;omega
theorem vP(h:∀j:Nat,j<s.threads.length→xM u s (j:Int)=false):m6 u s=true:=by
 unfold m6;rw[List.all_eq_true];intro j bc;rw[h j (List.mem_range.1 bc)];rfl
theorem tP{j:Nat}(bc:j<s.threads.length)(h:xM u s (j:Int)=true):m6 u s=false:=by
 unfold m6;rw[List.all_eq_false];exact⟨j,List.mem_range.2 bc,by simp[h]⟩
namespace A9
theorem mP(h:p:=by
 have ax:=bw aF bG aY (cn.1.on aF);have cA:=aY.lt;obtain⟨a0,ap,ak⟩:=bG.two;obtain⟨a6,am,aI⟩:=aY.two;clear bg aF bG aY;go_wp2_with(fail);clear a0 ap ak a6 am aI;go_loopw [9] (fun cg wr=>∃k:Nat,cg=.int .i64 k∧k≤hn∧Ext W wr∧∀j:Nat,j<k→xM u s (j:Int)=false) (fun cg _=>hn - (intOf cg).toNat)
 case atStart=>exact⟨0,rfl,ab,Kn,fun j bc=>ab⟩
 case round=>
  obtain⟨k,rfl,aj,aF,V⟩:=hrel;have a2:=ai aF V;obtain⟨a0,ap,ak⟩:=(ax.2.1.ak aF).two;obtain⟨a6,am,aI⟩:=(ax.2.2.1.ak aF).two;clear aF V;by_cases aw:k<hn
  ·have g:(k:Int)<(hn:Int):=ab;go_wp2_with(fail);refine(iI false u s k N wr ⟨GA,gn,gc,MA,mn,mc,PA,pn,pc⟩ ⟨bp,bQ,a7,TA,tn,tc,HA,hn,hc⟩ (ax.2.2.2.on a2.1)).mono ?_;rintro e aN ⟨rfl,aG⟩;have br:=ad (a2.1.trans aG);clear a0 ap ak a6 am aI aG
   cases f:xM u s (k:Int) with
   | true=>
    have bX:=ad (tP (aH cn.2) f);clear f;go_wp2_with(fail);go_ret
    exact⟨by rw[bX.o];rfl,ax.1.trans br.o⟩
   | false=>
    have l:=ad f;clear f;go_wp2_with(fail);go_roundw
    case rel=>exact⟨k+1,by go_num,ab,br.o,fun j bc=>by
     rcases Nat.lt_or_ge j k with ae|ae
     ·exact a2.2 j ae
     ·rw[show j=k by omega];exact l.o⟩
    case measure=>exact aB
  ·have g:¬(k:Int)<(hn:Int):=ab;have bX:=ad (vP (u:=u) (s:=s) fun j bc=>a2.2 j (aH cn.2));go_wp2_with(fail);go_ret;exact⟨by rw[bX.o];rfl,ax.1.trans a2.1⟩
 ):p:=h
theorem fM(h:p:=by
 obtain⟨hlen,cy,E⟩:=h.len;have cn:=ai h hlen;clear h hlen;simp only at cy E;dsimp only[UV.val,SV.val];go_enter func26,ntmps26;exact mO
 ):p:=h
end A9
open A9 in
theorem GC(u:av)(s:ah)(N:Nat)(w:World)(p:UV)(q:SV)(h:lv u s N w p q) :
  Calls prog 26 #[.agg (p.val u),.agg (q.val s)] w fun e ac=>e=.returned (.bool (m6 u s))∧Ext w ac:=by
 exact fL
theorem sk{k:Nat}(h:k<s.threads.length):((cL u s).take (k+1)).flatMap b2=((cL u s).take k).flatMap b2++[.int .i64 (kq (dF u s (k:Int)))]:=by
 have hx:(cL u s)[k]?=some (kq (dF u s (k:Int))):=by
  unfold cL;rw[List.getElem?_map,List.getElem?_range h];rfl
 rw[a9 hx,e6]
namespace Ba
theorem mP(h:p:=by
 have ax:=bw aF bG aY (cn.1.on aF);have cA:=aY.lt;obtain⟨a0,ap,ak⟩:=bG.two;obtain⟨a6,am,aI⟩:=aY.two;clear bg aF bG aY;go_wp2_with(fail);clear a0 ap ak a6 am aI;go_loopw [5,13] (fun v cg wr=>∃k:Nat,cg=.int .i64 k∧k≤hn∧wr.ownsRow W.heap.size 3 1 v k (((cL u s).take k).flatMap b2)∧Below W.heap.size W wr) (fun _ cg _=>hn - (intOf cg).toNat)
 case atStart=>exact⟨0,rfl,ab,World.ownsRow_nil _ _ _ _,Below.refl _ _⟩
 case round=>
  obtain⟨k,rfl,aj,S,O⟩:=hrel;have aF:Ext W wr:=Fr.of O;have bO:=O.size;obtain⟨a0,ap,ak⟩:=(ax.2.1.ak aF).two;obtain⟨a6,am,aI⟩:=(ax.2.2.1.ak aF).two;have a2:=aQ aF S O;clear aF S O;by_cases aw:k<hn
  ·have g:(k:Int)<(hn:Int):=ab;have bu:=ad (sk (u:=u) (s:=s) (k:=k) (aH cn.2));go_wp2_with(fail);refine(gX false u s k N wr ⟨GA,gn,gc,MA,mn,mc,PA,pn,pc⟩ ⟨bp,bQ,a7,TA,tn,tc,HA,hn,hc⟩ (ax.2.2.2.on a2.1)).mono ?_;rintro e aN ⟨rfl,aG⟩;have bF:Below wr.heap.size wr aN:=Fr.ext aG;have aL:=b5 a2.2.1 bF;have bx:Below W.heap.size W aN:=a2.2.2.trans (bF.mono bO);have f:=bx.size;generalize dF u s (k:Int)=r at *;clear a0 ap ak a6 am aI aG bF;cases r
   all_goals
    go_wp2_with(at_builtin;refine ch _ dm (by rfl) (.tmp 26) (.tmp 28) (by rfl) W.heap.size _ _ _ _ (by rfl) aL (by rfl) (by rfl) (js _ _) ab ab f ?_;intro v1 aO ag b7 cb);go_roundw
    case rel=>exact⟨k+1,by go_num,ab,by rw[bu.o];exact ag,dJ bx aL b7 (JQ _) f⟩
    case measure=>exact aB
  ·have g:¬(k:Int)<(hn:Int):=ab;obtain rfl:k=hn:=ab;have hl:=cn.2;skip
   have eN:(cL u s).take k=cL u s:=JY (by rw[iL];omega);obtain⟨ce,c1,rfl,bB,_,_,_⟩:=bs a2.2.1;have bX:=aQ eN bB hl;clear eN bB hl;go_wp2_with(fail);go_ret;refine⟨ce,c1,rfl,bX.2.1,?_,ax.1.trans a2.1⟩;have:=a2.2.1;rw[bX.1] at this;exact gS this (ib _) (by rw[iL,bX.2.2])
 ):p:=h
theorem fM(h:p:=by
 obtain⟨hlen,cy,E⟩:=h.len;have cn:=ai h hlen;clear h hlen;simp only at cy E;dsimp only[UV.val,SV.val];go_enter func43,ntmps43;exact mO
 ):p:=h
end Ba
open Ba in
theorem r6(u:av)(s:ah)(N:Nat)(w:World)(p:UV)(q:SV)(h:lv u s N w p q) :
  Calls prog 43 #[.agg (p.val u),.agg (q.val s)] w fun e ac=>∃A c,e=.returned (.slice A q.hn c)∧q.hn≤c∧cC (EF b2) 1 ac ac.heap.size A q.hn (cL u s)∧Ext w ac:=by
 exact fL
def g3(w:World)(L:List Int)(e:Ending)(ac:World):Prop:=∃A c,e=.returned (.slice A L.length c)∧L.length≤c∧cC (EF b2) 1 ac ac.heap.size A L.length L∧Ext w ac
theorem g3.own{L:List Int}{v:Value}{n:Nat}(hn:L.length=n)(h:ac.ownsRow B 3 1 v n (L.flatMap b2))(he:Ext w ac):g3 w L (.returned v) ac:=by
 subst hn;obtain⟨ce,c1,rfl,bB,_,_,_⟩:=bs h;exact⟨ce,c1,rfl,bB,gS h (ib _) rfl,he⟩
theorem g3.nil(he:Ext w ac):g3 w [] (.returned (.slice none 0 0)) ac:=g3.own (B:=0) rfl (World.ownsRow_nil _ _ _ _) he
def FX:Value→Nat
 | .slice _ n _=>n
 | _=>0
def o9(l:List Int)(k:Nat):List Int:=((List.range k).map Int.ofNat).filter fun t=>decide (0≤ef l (l.length+1) t)
def cX(l:List Int)(t:Int):List Int:=match iH l t with
 | none=>[]
 | some m=>(List.range (m+1)).map fun k=>ef l k t
section
variable {l:List Int} {t:Int} {k:Nat}
theorem D5(h:0≤ef l (l.length+1) (k:Int)):o9 l (k+1)=o9 l k++[(k:Int)]:=by
 exact y5
theorem D4(h:¬0≤ef l (l.length+1) (k:Int)):o9 l (k+1)=o9 l k:=by
 exact y5
theorem vg(h:∀i,i<l.length→ef l (i+1) t≠t):iH l t=none:=by
 unfold iH;rw[List.find?_eq_none];intro i al;simpa using h i (List.mem_range.1 al)
theorem tj(h:∀i,i<m→ef l (i+1) t≠t)(hm:m<l.length)(he:ef l (m+1) t=t):iH l t=some m:=by
 unfold iH;rw[List.find?_range_eq_some];exact⟨by simpa using he,List.mem_range.2 hm,fun j bc=>by simpa using h j bc⟩
theorem nv(h:∀i,i<l.length→ef l (i+1) t≠t):cX l t=[]:=by unfold cX;rw[vg h]
theorem td(h:∀i,i<m→ef l (i+1) t≠t)(hm:m<l.length)(he:ef l (m+1) t=t):cX l t=(List.range (m+1)).map fun k=>ef l k t:=by
 unfold cX;rw[tj h hm he]
theorem lF:(iH l t).isSome=true↔cX l t≠[]:=by
 unfold cX;cases iH l t<;>simp
theorem xH(h:∀j:Nat,j<l.length→cX l (j:Int)=[]):xG l=[]:=by
 unfold xG;have:((List.range l.length).map Int.ofNat).find? (fun t=>(iH l t).isSome)=none:=by
  rw[List.find?_eq_none];intro x hx;obtain⟨j,bc,rfl⟩:=Ke.1 hx;intro hc;exact lF.1 hc (h j (List.mem_range.1 bc))
 rw[this]
theorem vh(h:∀j:Nat,j<k→cX l (j:Int)=[])(aj:k<l.length)(hc:cX l (k:Int)≠[]):xG l=cX l (k:Int):=by
 have aD:((List.range l.length).map Int.ofNat).find? (fun t=>(iH l t).isSome)=some (k:Int):=by
  rw[List.find?_map];have:(List.range l.length).find? ((fun t=>(iH l t).isSome) ∘ Int.ofNat)=some k:=by
   rw[List.find?_range_eq_some];refine⟨lF.2 hc,List.mem_range.2 aj,fun j bc=>?_⟩;have ae:=h j bc;simp only[Function.comp,Bool.not_eq_true']
   cases hs:(iH l (Int.ofNat j)).isSome with
   | false=>rfl
   | true=>exact absurd ae (lF.1 hs)
  rw[this];rfl
 unfold xG;rw[aD];unfold cX at hc ⊢
 cases bm:iH l (k:Int) with
 | none=>rw[bm] at hc;exact absurd rfl hc
 | some m=>simp only[bm,Option.getD_some]
theorem CH:((List.range (k+1)).map fun i=>ef l i t).flatMap b2=((List.range k).map fun i=>ef l i t).flatMap b2++[.int .i64 (ef l k t)]:=by
 rw[List.range_succ,JX,List.map_singleton,e6]
end
theorem u9(A:Kr)(n c:Nat)(l:List Int)(t:Int)(w:World)(h:cC (EF b2) 1 w w.heap.size A n l)(hl:dp l)(cZ:0≤t)(bZ:t<n)(hn:n≤32) :
  Calls prog 46 #[.slice A n c,.int .i64 t] w (g3 w (cX l t)):=by
 have hlen:l.length=n:=by have:=h.1;omega
 have aU:=fun k=>q9 hl (t:=t) ab ab k;have cn:=bw hl aU hlen h;clear hl aU hlen h;go_enter func46,ntmps46;go_wp2_with(fail);go_loopw [5,6] (fun v W wr=>∃k:Nat,W=.int .i64 (ef l k t)∧k≤n+1∧(∀i,i+1<k→ef l (i+1) t≠t)∧wr.ownsRow w.heap.size 3 1 v k (((List.range k).map fun i=>ef l i t).flatMap b2)∧Below w.heap.size w wr) (fun v _ _=>n+2 - FX v)
 case atStart=>exact⟨0,rfl,ab,fun i al=>ab,World.ownsRow_nil _ _ _ _,Below.refl _ _⟩
 case round=>
  obtain⟨k,rfl,aj,V,S,O⟩:=hrel;have bO:=O.size;obtain⟨B,eL,rfl,cu,_,_,_⟩:=bs S;have K:=cn.2.1 k;rw[cn.2.2.1] at K;have a9:k=0→ef l k t=t:=fun h=>by subst h;rfl
  have s:0≤ef l k t→ef l (k+1) t=qH l (ef l k t):=fun h=>by rw[tx,Eg h]
  have H:ef l k t<0→cX l t=[]:=fun hx=>nv fun i al=>by
   rcases Nat.lt_or_ge (i+1) k with ae|ae
   ·exact V i ae
   ·intro he;have:=du (l:=l) (t:=t) (j:=k) (k:=i+1) ab ae;omega
  have r:¬k≤n→cX l t=[]:=fun hx=>nv fun i al=>V i (aH cn.2.2.1);have u:ef l k t=t→0<k→k≤n→cX l t=(List.range k).map fun i=>ef l i t:=fun he h0 ae=>by
   obtain⟨m,rfl⟩:∃m,k=m+1:=⟨k - 1,ab⟩
   exact td (fun i al=>V i ab) (aH cn.2.2.1) he
  have cf:=CH (l:=l) (t:=t) (k:=k);have T:ef l k t≠t→∀i,i+1<k+1→ef l (i+1) t≠t:=fun he i al=>by
   rcases Nat.lt_or_ge (i+1) k with ae|ae
   ·exact V i ae
   ·rw[show i+1=k by omega];exact he
  have cm:=iE a9 s H r u cf T;clear V a9 s H r u cf T;generalize b8:((List.range k).map fun i=>ef l i t)=R at *;generalize hX:ef l k t=x at *;generalize bE:ef l (k+1) t=y at *;generalize bR:cX l t=L at *;have aX:=aQ S O b8;have aP:=ai hX bE;clear S O b8 hX bE bR;by_cases hx:0≤x
  case neg=>
   have q1:decide (x≥0)=false:=by simpa using hx
   have bX:=ad (cm.2.2.1 ab);exact y4
  have q1:decide (x≥0)=true:=by simpa using hx
  have bP:x<(n:Int):=K.2;by_cases J:k≤n
  case neg=>
   have bX:=ad (cm.2.2.2.1 J);exact y4
  by_cases hv:x=t∧0<k
  ·have cv:(x == t)=true:=by simpa using hv.1
   have cF:0<k:=hv.2;have bX:=ad (cm.2.2.2.2.1 hv.1 hv.2 J);clear hv cm K;go_wp2_with(fail);go_ret;rw[bX.o];exact g3.own (by rw[←aX.2.2];simp) aX.1 (Fr.of aX.2.1)
  ·have T:∀i,i+1<k+1→ef l (i+1) t≠t:=by
    rcases Nat.eq_zero_or_pos k with h0|h0
    ·intro i al;omega
    ·exact cm.2.2.2.2.2.2 fun h=>hv ⟨h,h0⟩
   have a5:=cm.2.1 hx;have bW:=aQ T a5 cm.2.2.2.2.2.1;obtain⟨j,rfl⟩:=JV hx;have Y:j<n:=ab;obtain⟨b,o,z,rfl,an,bi,c0⟩:=cn.2.2.2.int Y;have P:z=y:=by
    rw[a5];unfold qH;rw[if_neg ab,Kb,List.getD_eq_getElem?_getD,bi];rfl
   subst P;have S:=aX.1;have bx:=aX.2.1;have ci:(0:Int)≤(j:Int):=ab;have Q:b<wr.heap.size:=ab;have bL:=ai an c0;clear T a5 bi hx K cm c0 an;by_cases N:(j:Int)=t
   case' pos=>
    have I:k=0:=by
     refine Classical.byContradiction fun h=>hv ⟨N,ab⟩
    subst I;have cv:((j:Int) == t)=true:=by simpa using N
   case' neg=>
    have cv:((j:Int) == t)=false:=by simpa using N
   all_goals
    clear hv N;go_wp2_with(at_builtin;refine ch _ dm (by rfl) (.tmp 36) (.tmp 38) (by rfl) w.heap.size _ _ _ _ (by rfl) S (by rfl) (by rfl) (js _ _) ab ab bO ?_;intro v1 aO ag b7 cb;have az:=dJ bx S b7 (JQ _) bO;have c2:=((Fr.of (M:=fun _=>False) az).cell (j:=o+j) bL.1 (fun h=>h)).trans bL.2;have bj:=ai ag az;obtain⟨X,U,rfl,dG,_,_,_⟩:=bs ag;clear S bx ag az b7 cb);go_roundw
    case rel=>exact⟨_,by rw[aP.2],ab,bW.1,by rw[bW.2.2];exact bj.1,bj.2⟩
    case measure=>simp[FX]<;>omega
namespace Bb
theorem zs(h:p:=by
 go_wp2_with(fail);go_loopw [13] (fun cg wr=>∃k:Nat,cg=.int .i64 k∧k≤hn∧Ext aN wr∧∀j:Nat,j<k→cX l (j:Int)=[]) (fun cg _=>hn - (intOf cg).toNat)
 case atStart=>exact⟨0,rfl,ab,Kn,fun j bc=>ab⟩
 case round=>
  obtain⟨k,rfl,aj,aF,V⟩:=hrel;have a2:=ai aF V;clear aF V;by_cases aw:k<hn
  ·have g:(k:Int)<(hn:Int):=ab;go_wp2_with(fail);refine(u9 A hn c l k wr (H1.1.cO (Fr.ext a2.1) a2.1.size) bK.2 ab g E).mono ?_;rintro e aO ⟨B,eL,rfl,_,bT,aS⟩;have bu:=ai bT (a2.1.trans aS);clear bT aS;by_cases bi:0<(cX l (k:Int)).length
   ·have hc:=vh (l:=l) (k:=k) a2.2 (by rw[bK.1];exact aw) (fun h=>by rw[h] at bi;simp at bi);have bL:=ad hc;clear hc;go_wp2_with(fail);go_ret;rw[bL.o];exact⟨B,eL,rfl,by assumption,bu.1,H1.2.trans bu.2⟩
   ·have h0:cX l (k:Int)=[]:=List.eq_nil_of_length_eq_zero ab;have ba:=ad h0;clear h0;go_wp2_with(fail);go_roundw
    case rel=>exact⟨k+1,by go_num,ab,bu.2,fun j bc=>by
     rcases Nat.lt_or_ge j k with ae|ae
     ·exact a2.2 j ae
     ·rw[show j=k by omega];exact ba.o⟩
    case measure=>exact aB
  ·have g:¬(k:Int)<(hn:Int):=ab;have bL:=ad (xH (l:=l) fun j bc=>a2.2 j (aH bK.1));go_wp2_with(fail);go_ret;rw[bL.o];exact g3.nil (H1.2.trans a2.1)
 ):p:=h
theorem mP(h:p:=by
 exact zr
 ):p:=h
theorem fM(h:p:=by
 obtain⟨hlen,cy,E⟩:=h.len;have cn:=ai h hlen;clear h hlen;simp only at cy E;dsimp only[UV.val,SV.val];go_enter func21,ntmps21;exact mO
 ):p:=h
end Bb
open Bb in
theorem Gz(u:av)(s:ah)(N:Nat)(w:World)(p:UV)(q:SV)(h:lv u s N w p q) :
  Calls prog 21 #[.agg (p.val u),.agg (q.val s)] w (g3 w (xG (cL u s))):=by
 exact fL
section
variable {U:g4} {G:Env} {l:List dz} {V T:Ks} {n nk:Int}
theorem Sc.fC(hS:Sc U G l V T n nk):∀(d:Nat) (x:VE),x.src V d→fC l x
 | d,.num k,h=>trivial
 | d,.gy s,h=>by
  have q:s∈V:=by cases d<;>exact h
  obtain⟨e,he,aj⟩:=hS.vars s q
  exact⟨e,he,aj.imp (fun h=>h.1) (fun h=>h.1)⟩
 | d,.loc _,h=>by cases d<;>exact h.elim
 | d,.ia _,h=>by cases d<;>exact h.elim
 | 0,.un _ _,h=>h.elim
 | 0,.bin _ _ _,h=>h.elim
 | d+1,.un op x,h=>⟨h.1,Sc.fC hS d x h.2⟩
 | d+1,.bin op x y,h=>⟨h.1,Sc.fC hS d x h.2.1,Sc.fC hS d y h.2.2⟩
theorem Sc.p2(hS:Sc U G l V T n nk)(r:eF)(h:rH G V r):p2 U.ae l r:=by
 rcases h with⟨m,hm,hn,ae,aC⟩|⟨hp,al⟩
 ·obtain⟨e,he,aj,h0,hu⟩:=hS.HJ m hm;rw[hn] at he;exact⟨e,he,.inr ⟨aj,m,h0,hu,fun hs=>by obtain⟨x,hx,av⟩:=ae hs;exact⟨x,hx,hS.fC 2 x av⟩,aC⟩⟩
 ·obtain⟨e,he,aj,_,_⟩:=hS.C8 _ hp;exact⟨e,he,.inl ⟨aj,al⟩⟩
end
def uE(F:List az)(G:Env)(l:List dz):Prop:=∀s ps,(s,ps)∈G.funcs→∃(e:dz) (f:az),dk l s=some e∧e.kind=3∧0≤e.n∧F[e.n.toNat]?=some f∧f.params=ps
theorem uE.app{F:List az}{G:Env}{l:List dz}(h:uE F G l)(x:dz):uE F G (l++[x]):=fun s ps hs=>by
 obtain⟨e,f,he,r⟩:=h s ps hs;exact⟨e,f,jn he,r⟩
theorem CF{p:bB}(hp:oE p){f:az}(aD:f∈p.funcs):uE p.funcs (gj p f) (ba p++dG f.params 0 0):=by
 intro s ps hs;have aR:((ba p++dG f.params 0 0).map (·.name)).Nodup:=by
  rw[JX,fA,fx];exact(hp.funcs f aD).fresh
 obtain⟨g,aJ,a4⟩:=Ke.1 hs;injection a4 with b7 an;subst b7 an;obtain⟨i,al⟩:=List.getElem?_of_mem aJ;have:=kS aR (JZ.2 (.inl (by unfold ba;exact JZ.2 (.inr (hL (·.name) 3 p.funcs 0 i g al)))));refine⟨_,g,this,rfl,by show (0:Int)≤((0+i:Nat):Int);omega,?_,rfl⟩;show p.funcs[(((0+i:Nat):Int)).toNat]?=some g
 rw[Kb,J8];exact al
def iW(M:List bA)(l:List dz):List (ByteArray×Bool)→List da→Prop
 | [],[]=>True
 | p::ps,.mx r::aS=>(p.2=true∧p2 M l r)∧iW M l ps aS
 | p::ps,.ex e::aS=>(p.2=false∧fC l e)∧iW M l ps aS
 | _,_=>False
theorem Sc.iW{U:g4}{G:Env}{l:List dz}{V T:Ks}{n nk:Int}(hS:Sc U G l V T n nk):∀(ps:List (ByteArray×Bool)) (aS:List da),iz G V ps aS→iW U.ae l ps aS
 | [],[],_=>trivial
 | p::ps,.mx r::aS,h=>⟨⟨h.1.1,hS.p2 r h.1.2⟩,Sc.iW hS ps aS h.2⟩
 | p::ps,.ex e::aS,h=>⟨⟨h.1.1,hS.fC 2 e h.1.2⟩,Sc.iW hS ps aS h.2⟩
 | [],_::_,h=>h.elim
 | _::_,[],h=>h.elim
theorem lE{M:List bA}{l:List dz}:∀{ps:List (ByteArray×Bool)} {aS:List da},iW M l ps aS→ps.length=aS.length
 | [],[],_=>rfl
 | _::ps,.mx _::aS,h=>by simp[lE h.2]
 | _::ps,.ex _::aS,h=>by simp[lE h.2]
 | [],_::_,h=>h.elim
 | _::_,[],h=>h.elim
theorem mR{M:List bA}{l:List dz}:∀{ps:List (ByteArray×Bool)} {aS:List da},iW M l ps aS→∀{k:Nat} {q:ByteArray×Bool} {a:da},ps[k]?=some q→aS[k]?=some a→
  (∃r,a=.mx r∧q.2=true∧p2 M l r)∨(∃e,a=.ex e∧q.2=false∧fC l e)
 | [],[],_,k,q,a,h,_=>by simp at h
 | p::ps,.mx r::aS,h,0,q,a,ae,aC=>by
  simp at ae aC;subst ae aC
  exact .inl ⟨r,rfl,h.1.1,h.1.2⟩
 | p::ps,.ex e::aS,h,0,q,a,ae,aC=>by
  simp at ae aC;subst ae aC
  exact .inr ⟨e,rfl,h.1.1,h.1.2⟩
 | p::ps,.mx r::aS,h,k+1,q,a,ae,aC=>mR h.2 (by simpa using ae) (by simpa using aC)
 | p::ps,.ex e::aS,h,k+1,q,a,ae,aC=>mR h.2 (by simpa using ae) (by simpa using aC)
 | [],_::_,h,_,_,_,_,_=>h.elim
 | _::_,[],h,_,_,_,_,_=>h.elim
theorem hr(l:List dz)(aS:List da)(a:da):bF l (aS++[a])=bF l aS++bF l [a]∧cm l (aS++[a])=cm l aS++cm l [a]:=by
 induction aS with
 | nil=>exact⟨rfl,rfl⟩
 | cons x aS ao=>cases x<;>simp[bF,cm,ao.1,ao.2]
end Go.Proofs.YtbkhhfajcgkpgaaGreat

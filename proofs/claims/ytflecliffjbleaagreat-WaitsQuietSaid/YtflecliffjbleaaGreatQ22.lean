/- Part 22 of the proof. No condition of its own. -/
import Derived.Test.YtflecliffjbleaaGreatQ21
namespace Go.Proofs.YtflecliffjbleaaGreat
open Go.RowKit Go.Proofs.Tryz
set_option maxRecDepth 1000000
set_option maxHeartbeats 25600000
set_option linter.unusedVariables false
variable{b:Bool}{B:Nat}{M P:Nat->Prop}{p:Prop}{q:SV}{Z w:World}{s:ag}
theorem e5{Y:World}{a7:ag}(h:q.Is Y (λk=>P k\/(B<=k/\k<Y.heap.size)) s)(J:Fr M Y Z)(hM:∀k,M k->¬P k/\k<B)(aY:∀k,P k->k<Y.heap.size)(aN:w.heap.size<=B)(aE:Ext w Z)(hs:s=a7):mF P w a7 b (.returned (.tuple #[.agg (q.val a7),.bool b])) Z:=by
 subst hs;exact⟨q,rfl,(h.ai λk ai=>J.block k (ai.elim (aY k) λh=>h.2) λhm=>ai.elim (hM k hm).1 λh=>by have:=(hM k hm).2;omega).mono λk ai=>ai.imp id λai=>⟨ab,by have:=J.size;omega⟩,aE⟩
theorem SV.Is.GR{V:World}(h:q.Is w P s)(aY:∀b,P b->b<w.heap.size)(aE:Ext w V):q.Is V P s:=h.ai λb O=>aE.block b (aY b O) λh=>h
theorem w1(h:q.Is w P s)(aY:∀b,P b->b<w.heap.size)(aE:Ext w Z):mF P w s b (.returned (.tuple #[.agg (q.val s),.bool b])) Z:=
 ⟨q,rfl,(h.GR aY aE).mono λ_ O=>.inl O,aE⟩
theorem RO.IP{k:Nat}{fs:List al}{f:al}{r:Nat}{O lb lc:Nat}{hx a2:List Value}{IA:LP}{ic:Nat}{S:LP}{y:Nat}{F1 F2 bs:List Nat}(h:RO P B w s k fs f r q O lb lc hx a2 IA ic S y F1 F2 bs):Sl w (au w) IA f.ints.length (f.ints.map .i):=
 h.i.sl (cF _) (by simp) λb O=>(h.lo b (by simp[O])).2
namespace CE
theorem AW(h:p:=by
 exact zW
 ):p:=h
theorem jg(h:p:=by
 have ch:=aL hu (ct.ok aY) ct;obtain⟨l,x⟩:=aM aY ht;clear hu ct aY ht;dsimp only[UV.val,SV.val];go_enter func20,ntmps20;go_upto_region 1 with(fail);generalize be:World.alloc _ _=W;have aE:=nt be;have bW:=lL be;have bK:=jv be;have cg:=lM be;have aH:=ej aE bW bK cg (ch.1.on aE) (ch.2.1.on aE);have cE:=aE.size;have dm:=cg.lt;obtain⟨a0,ap,aj⟩:=bW.two;obtain⟨a3,am,aJ⟩:=bK.two;clear be aE bW bK cg;go_wp2_with(fail);refine(kV u s t W ⟨GA,gn,gc,MA,mn,mc,PA,pn,pc⟩ ⟨bM,b2,bo,TA,tn,tc,HA,hn,hc⟩ aH.2.2.2.2.2 x.o).mono ?_;rintro e aP ⟨rfl,aF⟩;have bs:=ad aF;clear a0 ap aj a3 am aJ;go_upto_region 2 with(fail);generalize hV:World.alloc _ _=V;have bm:Ext W V:=hV▸aF.alloc _;have cW:=bm.size;have m:=aH.2.2.2.1.aj bm;obtain⟨a3,am,aJ⟩:=(aH.2.2.1.aj bm).two;obtain⟨bE,bg,bh⟩:=m.two;have b4:=ah bm m;clear hV bm aF m;go_wp2_with(fail);generalize hX:World.setCell _ _ _=Z;obtain⟨bH,bn,bC⟩:=cm (w:=w) [.slice bM b2 bo,.slice TA tn tc,.slice HA hn hc,.int .i64 s.fault] (by rfl) b4.2 (aH.1.trans b4.1) ab hX;exact AV
 ):p:=h
end CE
open CE in
theorem wV(u:av)(s:ag)(t:Int)(P:Nat->Prop)(w:World)(p:UV)(q:SV)(hu:p.Ok w u)(ct:q.Is w P s)(aY:∀b,P b->b<w.heap.size)(ht:da s t=none) :
  Calls prog 20 #[.agg (p.val u),.agg (q.val s),.int .i64 t] w (mF P w s false):=by
 exact jf
theorem RO.aj{P:Nat->Prop}{B:Nat}{w ac:World}{s:ag}{k:Nat}{fs:List al}{f:al}{r:Nat}{q:SV}{O lb lc:Nat}{hx a2:List Value}{IA:LP}{ic:Nat}{S:LP}{y:Nat}{F1 F2 bs:List Nat}(h:RO P B w s k fs f r q O lb lc hx a2 IA ic S y F1 F2 bs)(aE:Ext w ac):RO P B ac s k fs f r q O lb lc hx a2 IA ic S y F1 F2 bs:=by
 have ai:∀b,b<w.heap.size->ac.heap[b]?=w.heap[b]?:=λb O=>aE.block b O λh=>h;have aw:∀b∈r::O::lb::(F1++(F2++bs)),ac.heap[b]?=w.heap[b]?:=λb O=>ai b (h.lo b O).2;have aN:=(h.lo r (by simp))
 have az:∀b,P b->ac.heap[b]?=w.heap[b]?:=λb O=>ai b (aC (h.pb b O));refine {th:=h.th,gl:=h.gl,tl:=h.tl,hl:=h.hl,g:=h.g.ai λb O=>aw b (by simp[O]),t:=h.t.ai λb O=>aw b (by simp[O]),h:=h.h.ai λb O=>aw b (by simp[LF.1 O]),sY:=h.sY,rb:=λj c5 bd cw=>?_,s0:=h.s0,l:=h.l.ai λb O=>aw b (by simp[LF.1 O]),fr:=D.bP az _ _ h.fr,lk:=h.lk.ai az,GS:=h.GS,i:=h.i.ai λb O=>aw b (by simp[O]),o:=h.o.aj aE,nd:=h.nd,lo:=λb O=>⟨(h.lo b O).1,Lc (h.lo b O).2 aE.size⟩,pb:=h.pb};obtain⟨u,hu,aQ⟩:=h.rb j c5 bd cw;exact⟨u,hu,D.aP az _ _ aQ⟩
namespace CF
theorem vB(h:p:=by
 rw[b0.o];exact e5 (B:=V.heap.size) bP.1 bc.2.drew (λb O=>⟨λhl=>by have:=l.o b hl;omega,ab⟩) (λb O=>by have:=l.o b O;omega) ab bc.1.drew (by rw[lA bU.2.1,List.set_set];rfl)
 ):p:=h
theorem fW(h:p:=by
 generalize hX:World.setCell _ _ _=Y;have n:=cj.o;rw[hX] at n;have ar:=dj hX;have G:Ext V Y:=Fr.low (M:=λb=>b=H) (Fr.trans (Fr.mono m.2.1 λ_ h=>h.elim) ar) λb O=>ab;have bP:=aL n.is n.o (b4.trans G);have aN:=G.size;clear hX n ar G a3 am aJ d0 af aS e0 bk a5 c0 c1 c2 c3 J flb ac c6 cb;exact vA
 ):p:=h
theorem Aq(h:p:=by
 clear cc a4 a3 am aJ;exact Gh
 ):p:=h
theorem sC(h:p:=by
 clear cK cP cT;rcases dd.o with h|h
 all_goals
  first
   | have q1:(x.op == 1)=true:=by simpa using h
   | have q1:(x.op == 1)=false:=by simp;omega
  first
   | have cp:(x.op == 2)=true:=by simpa using h
   | have cp:(x.op == 2)=false:=by simp;omega
  first
   | have cw:(x.op == 3)=true:=by simpa using h
   | have cw:(x.op == 3)=false:=by simp;omega
  first
   | have cO:(x.op == 4)=true:=by simpa using h
   | have cO:(x.op == 4)=false:=by simp;omega
  first
   | have q5:(x.op == 5)=true:=by simpa using h
   | have q5:(x.op == 5)=false:=by simp;omega
  first
   | have c7:(x.op == 6)=true:=by simpa using h
   | have c7:(x.op == 6)=false:=by simp;omega
  first
   | have q7:(x.op == 7)=true:=by simpa using h
   | have q7:(x.op == 7)=false:=by simp;omega
  first
   | have dk:(x.op == 8)=true:=by simpa using h
   | have dk:(x.op == 8)=false:=by simp;omega
  have L:=ad h;clear h;go_upto_region 12 with(fail);refine eU (λ_=>False) [(0,3),(1,0),(2,3),(3,0),(4,3),(5,3),(6,3),(7,0),(8,2),(9,3),(10,3),(11,3),(12,3),(13,3)] ?_;refine pf ?_;refine ph ?_;refine pf ?_;refine ph ?_
  iterate 3 refine pf ?_
  refine ph ?_;refine aq rfl (λK hK=>?_);go_simp;have bV:Ext X X.drew:=(Fr.refl _ X).drew;have cR:=aR.2.2.trans bV;have bp:(bf ex).rep X.drew (au X.drew) [.int .i64 eo,.int .i64 en,.string es,.slice EA em ec]:=by
   have:=(dp.on (aR.2.1.trans bV)).expr;rw[S.2.1] at this;exact this
  obtain⟨bz,cA⟩:=i.IK S.1 (aH.2.2.2.2.2.on cR).at_.g (aR.1.IP.on (Fr.ext bV)) bp;refine(nN ex X.drew bM cZ b2 f.ints.length bo ci s.globals f.ints _ _ _ _ bz cA).mono ?_;rintro e cz ⟨rfl,aI⟩;have a8:Ext X cz:=Fr.aQ (Fr.of aI);have bw:=ad (aR.2.2.trans a8);have du:=bF.o;generalize ev s.globals f.ints ex=R at *;obtain⟨r,z⟩:=R;have I:=ad du;have aa:=RO.aj aR.1 a8;have m:=aL aa (aR.2.1.trans a8) (aR.2.2.trans a8);have dg:=a8.size;clear du bV cR bp bz cA aI a8 a0 ap aj a3 am aJ d0 af aS e0 bk a5 c0 c1 c2 c3 J flb ac;obtain⟨a3,am,aJ⟩:=(aH.2.2.1.aj bw.o).two;obtain⟨d0,af,aS⟩:=(b6.aj m.2.1).two;obtain⟨e0,bk,a5⟩:=aa.o.two;obtain⟨b9,bO,flb,ac,J,c0,c1,c2,c3,bZ⟩:=aa.top;clear aa;refine eL hK ?_;clear hK K
  iterate 5 refine pf ?_
  refine aB ?_;by_cases ba:z=0
  case neg=>
   have cx:(z != 0)=true:=by simpa using ba
   have b0:=ad (I.bad ba);exact Ap
  have cx:(z != 0)=false:=by simpa using ba
  have az:=ad ba;clear ba
 ·
  cases aK:x.dw with
  | true=>
   have b0:=ad (I.gl az.o L.o aK);rw[aK] at d0;have bA:=S.2.2.1 L.o aK;have bi:=S.2.2.2.2;have aC:=m.1.gl;simp only at aC;have cG:x.target<(cH:Int):=ab;obtain⟨bl,a6,c4,c6,⟨cQ,cb⟩,ce,cr,T⟩:=m.1.dw (j:=x.target.toNat) (by show x.target.toNat<cH;omega);simp only at a6;subst a6;have cj:=ad (T r);clear bA bi aC T aK;go_upto_region 45 with(fail);generalize hX:World.setCell _ _ _=Y;have n:=cj.o;rw[hX] at n;have ar:=dj hX;have G:Ext V Y:=Fr.low (M:=λb=>b=bl) (Fr.trans (Fr.mono m.2.1 λ_ h=>h.elim) ar) λb O=>ab;have bP:=aL n.is n.o (b4.trans G);have aN:=G.size;clear hX n ar G a3 am aJ d0 af aS e0 bk a5 c0 c1 c2 c3 J flb ac c6 cb;have aZ:=ah (aH.2.2.2.1.aj bP.2.2) (aH.1.trans bP.2.2);have cy:=bP.2.2.size;obtain⟨bE,bg,bh⟩:=aZ.1.two;obtain⟨e0,bk,a5⟩:=bP.2.1.two;go_wp2_with(fail);generalize hX:World.setCell _ _ _=Z;obtain⟨bH,bn,bC⟩:=cm (w:=w) [.slice (some ⟨bl,0,none⟩) cH bG,.slice cD ai aV,.slice (some ⟨O,0,none⟩) bT a9,.int .i64 s.fault] (by rfl) aZ.1 aZ.2 ab hX;have bc:=ah bn bC;clear hX bn bC bE bg bh e0 bk a5;obtain⟨bE,bg,bh⟩:=bH.two;refine LK (v:=.tuple #[.agg #[.slice (some ⟨bl,0,none⟩) cH bG,.slice cD ai aV,.slice (some ⟨O,0,none⟩) bT a9,.int .i64 s.fault],.bool true]) (by simp[results,Tryz.results20,go_sem,bE]) rfl ?_
   exact CQ
  | false=>
   have b0:=ad (I.lo az.o L.o aK);rw[aK] at d0;have aw:=S.2.2.2.1 L.o aK;have cI:x.target<((next f).ints.length:Int):=aw;obtain⟨H,bJ,c4,c6,⟨cQ,cb⟩,ce,cr,hints⟩:=m.1.ints (j:=x.target.toNat) (by show x.target.toNat<f.ints.length;omega);subst bJ;have cj:=ad (hints r);clear hints aK;go_upto_region 20 with(fail);refine eU (λ_=>False) [(0,3),(1,3),(2,3),(3,0),(4,3),(5,0),(6,3),(7,3),(8,2)] ?_
   iterate 3 refine pf ?_
   refine ph ?_;refine pf ?_;refine ph ?_
   iterate 2 refine pf ?_
   exact fV
 ·
  by_cases aQ:r=0
  .have EI:(r == 0)=true:=by simpa using aQ
   have b0:=ad (I.bz az.o L.o aQ);clear aQ;go_upto_region 45 with(fail);generalize hX:World.setCell _ _ _=Y;have n:=m.1.pc x.target;rw[hX] at n;have ar:=dj hX;have G:Ext V Y:=Fr.low (M:=λb=>b=lb) (Fr.trans (Fr.mono m.2.1 λ_ h=>h.elim) ar) λb O=>ab;have bP:=aL n.is n.o (b4.trans G);have aN:=G.size;clear hX n ar G a3 am aJ d0 af aS e0 bk a5 c0 c1 c2 c3 J flb ac;exact Ge
  .have EI:(r == 0)=false:=by simpa using aQ
   have b0:=ad (I.bn az.o L.o aQ);clear aQ;have bP:=aL m.1.is m.1.o m.2.2;clear e0 bk a5 c0 c1 c2 c3 J flb ac;have aZ:=ah (aH.2.2.2.1.aj bP.2.2) (aH.1.trans bP.2.2);have cy:=bP.2.2.size;obtain⟨bE,bg,bh⟩:=aZ.1.two;obtain⟨e0,bk,a5⟩:=bP.2.1.two;go_wp2_with(fail);generalize hX:World.setCell _ _ _=Z;obtain⟨bH,bn,bC⟩:=cm (w:=w) [.slice de cH bG,.slice cD ai aV,.slice (some ⟨O,0,none⟩) bT a9,.int .i64 s.fault] (by rfl) aZ.1 aZ.2 ab hX;have bc:=ah bn bC;clear hX bn bC bE bg bh e0 bk a5;obtain⟨bE,bg,bh⟩:=bH.two;refine LK (v:=.tuple #[.agg #[.slice de cH bG,.slice cD ai aV,.slice (some ⟨O,0,none⟩) bT a9,.int .i64 s.fault],.bool true]) (by simp[results,Tryz.results20,go_sem,bE]) rfl ?_;exact CQ
 ):p:=h
theorem sE(h:p:=by
 exact sy
 ):p:=h
theorem sG(h:p:=by
 obtain⟨len,hlen,ak⟩:=h.ok;have hx:(∃e,x.expr=some e/\fY (bj u) Q.locals e)/\0<=x.target/\(x.op=1->x.dw=true->x.target<u.globals.length)/\(x.op=1->x.dw=false->x.target<f.ints.length):=by
  obtain⟨cS,cq,_,ax,_⟩:=h.hF.ex;rw[h.hp] at cq;injection cq with cq;subst cq;rcases ak with⟨ae,aD,aU,a1,cd⟩|⟨ae,_⟩|⟨ae,_⟩|⟨ae,_,aD,aU,a1⟩|⟨ae,_⟩|⟨ae,_⟩
  .exact⟨aD,aU,λ_ aK=>by have:=a1 aK;simpa[bj] using this,λ_ aK=>by have:=cd aK;omega⟩
  .omega
  .omega
  .exact⟨aD,aU,λh=>ab,λh=>ab⟩
  .omega
  .omega
 obtain⟨⟨ex,hex,aA⟩,cf,cN,aX⟩:=hx;have bF:=ad (Ko (u:=u) (s:=s) (t:=t) (f:=f) hex aG);have aO:=h.hS.dw;have S:=dq aA hex cN aX aO;clear ak hlen aA hex cN aX aO;exact sD
 ):p:=h
end CF
open CF in
theorem qP(u:av)(s:ag)(t:Int)(f:al)(Q:di)(x:ay)(N:Nat)(P:Nat->Prop)(w:World)(p:UV)(q:SV)(h:lI u s t f Q x N)(hN:N<=100000)(aG:x.op=1\/x.op=6)(hu:p.Ok w u)(ct:q.Is w P s)(aY:∀b,P b->b<w.heap.size) :
  Calls prog 20 #[.agg (p.val u),.agg (q.val s),.int .i64 t] w (mF P w (cu u s t f x).1 (cu u s t f x).2):=by
 exact sF
theorem Fr.DN{M':Nat->Prop}{a b:World}(h:Fr M a b)(hM:∀k,k<a.heap.size->M k->M' k):Fr M' a b:=⟨h.os,h.tape,h.output,h.size,λk ai hn=>h.block k ai λhm=>hn (hM k ai hm)⟩
def xZ(g:Nat)(w:World):Nat:=match w.cell? ⟨g,2,none⟩ with|some (.slice _ n _)=>n|_=>0
def G3(w:World)(u:av)(x:ay)(a b:List Int×Int)(e:Ending)(ac:World):Prop:=∃(ce cq:Int) (IA:LP) (i ic:Nat) (S:LP) (l lc:Nat) (z:Int),e=.returned (.tuple #[.agg #[.int .i64 ce,.int .i64 cq,.slice IA i ic,.slice S l lc],.int .i64 z])/\Ext w ac/\
 (a.2≠0->z=a.2)/\(a.2=0->b.2≠0->z=b.2)/\(a.2=0->b.2=0->z=0/\(hz (ef u x.target a.1 b.1)).rep ac (fresh w ac) [.int .i64 ce,.int .i64 cq,.slice IA i ic,.slice S l lc])
namespace CG
theorem vJ(h:p:=by
 have bd:=ah a4 bS;obtain⟨d0,af,aS⟩:=(aH.2.2.2.1.aj J).two;obtain⟨a3,am,aJ⟩:=(aH.2.2.1.aj J).two;obtain⟨f0,cJ,dD⟩:=(cv.2.aj y).two;clear a4 bS cw Z bi O aE aN hG P J y;go_upto_region 6 with(fail);refine eU (λ_=>False) [(0,3),(1,0),(2,3),(3,3),(4,0),(5,3),(6,0),(7,3),(8,0),(9,2),(10,3),(11,3),(12,3),(13,3),(14,3)] ?_;refine pf ?_;refine ph ?_
 iterate 2 refine pf ?_
 refine ph ?_;refine pf ?_;refine ph ?_;refine pf ?_;refine ph ?_;refine aq rfl (λK hK=>?_);go_simp;have bV:Ext wr wr.drew:=(Fr.refl _ wr).drew;obtain⟨bz,cA⟩:=aR.1.IK (aR.2.1 ex (Le bd.1)) ((aH.2.2.2.2.2.1.on aZ.2.2.2.2.1).on bV).at_.g ((aH.2.2.2.2.2.2.2.1.on aZ.2.2.2.2.1).on bV).ints (D.on bd.2 (Fr.ext bV));refine(nN ex wr.drew bM IA b2 i bo ic s.globals f.ints _ _ _ _ bz cA).mono ?_;rintro e aV ⟨rfl,a9⟩;have a7:=ad (show Ext wr aV from Fr.aQ (Fr.of a9));have ar:=λba=>rY (k:=k) aZ.2.2.2.1 bd.1 ba;generalize au:ev s.globals f.ints ex=R at *;obtain⟨r,z⟩:=R;have bx:=ah ar au;clear ar au a9 bV d0 af aS a3 am aJ f0 cJ dD c0 c1 c2 c3 aX bz cA;refine eL hK ?_;clear hK K
 iterate 5 refine pf ?_
 refine aB ?_;have bF:=aZ.2.1.aj a7.o;have b8:=ad bF;obtain⟨e0,bk,a5⟩:=bF.two;have cC:=a7.size;by_cases ba:z=0
 .have q5:(z != 0)=false:=by simpa using ba
  have ak:=ad (aZ.2.2.1.aj a7.o);have bc:=ad ba;clear ba bF;go_wp2_with(at_builtin;refine bI de rfl (.tmp 53) (.tmp 55) rfl ak.o (d:=D.i r) (cs:=#[.int .i64 r]) (by simp only[D.rep]) rfl rfl rfl ab ab ab ?_;intro ck bv b3 b9 g2 cI cL;have bW:=b8.on g2 (λhm=>by have:=(ak.lt hm).1;omega);clear e0 bk a5;obtain⟨e0,bk,a5⟩:=bW.two;have bY:=aL b9 g2 bW;clear b9 g2 cI cL bW);generalize hX:World.setCell _ _ _=X;have bw:an X U.heap.size 99 #[.int .i64 x.target,.int .i64 0,.slice ck (k+1) bv,.slice none 0 0]:=hX▸bY.2.2.aD 2 _;have cl:Fr (λb=>b=U.heap.size) b3 X:=hX▸(Fr.refl (λb=>b=U.heap.size) _).setCell (.inl rfl) _;have bO:Fr (λb=>b=U.heap.size) Y X:=Fr.DN (M:=λb=>b=U.heap.size\/(Value.slice A k c).ownBlock=some b) (Fr.trans (Fr.trans (Fr.mono (Fr.trans aZ.1 (Fr.mono a7.o λ_ h=>h.elim)) λ_ h=>.inl h) (Fr.mono bY.2.1 λ_ h=>.inr h)) (Fr.mono cl λ_ h=>.inl h)) λb O hm=>hm.elim id λhm=>absurd (ak.lt hm).1 ab;have cH:=bY.1.cS cl λb O _=>⟨λh=>h,by rw[O];omega⟩
  have T:=aL bw bO cH;clear hX bw cl bO cH e0 bk a5;go_roundw
  case rel=>
   refine⟨k+1,ck,bv,by go_num,ab,T.2.1,T.1,?_,λe he=>?_⟩
   .rw[a1 bd.1,Li,Li];exact zU
   .rw[a1 bd.1] at he;rcases Lk.1 he with he|he
    .exact aZ.2.2.2.1 e he
    .rw[LF.1 he,bx.2];exact bc.o
  case measure=>exact az
 .have q5:(z != 0)=true:=by simpa using ba
  have b0:=ad (bx.1 ba);have bc:=ad ba;have V:=aZ.2.2.2.2.1.trans a7.o;have cg:=aH.2.2.2.2.2.2.2.2.aj V;have cV:=ah cg (aH.1.trans V);obtain⟨bE,bg,bh⟩:=cg.two;clear ba bF V cg;go_wp2_with(fail);generalize hX:World.setCell _ _ _=X;obtain⟨bw,bq,bO⟩:=cm (w:=w) [.int .i64 x.target,.int .i64 0,.slice A k c,.slice none 0 0] (by rfl) cV.1 cV.2 ab hX;have T:=ad bq;clear hX bq bO bE bg bh e0 bk a5;obtain⟨bE,bg,bh⟩:=bw.two;refine LK (v:=.tuple #[.agg #[.int .i64 x.target,.int .i64 0,.slice A k c,.slice none 0 0],.int .i64 z]) (by simp[results,Tryz.results45,go_sem,bE]) rfl ?_;refine⟨_,_,_,_,_,_,_,_,z,rfl,T.o,λ_=>by rw[b0.o],λh=>absurd h ?_,λh=>absurd h ?_⟩
  .rw[b0.o];exact bc.o
  .rw[b0.o];exact bc.o
 ):p:=h
theorem jg(h:p:=by
 obtain⟨eo,en,es,EA,em,ec,QA,qm,qc,c5,j,cU,KA,cB,kc⟩:=v;obtain⟨bj,bl,b5,cG,n,fc,IA,i,ic,S,l,lc,e,hT⟩:=hs.at_.top h.sm h.ht;simp only at e;subst e;obtain⟨cO,cP,cN,aU⟩:=h.args aG;have bR:x.ints.length=j:=by have:=bD.ints.1;simpa using this
 have a8:x.places.length=cB:=by have:=bD.places.1;simpa using this
 have cY:j<=200:=by have:=h.il;omega
 have c4:cB<=200:=by have:=h.kl;omega
 have aR:=ej h cO cP bR a8 aU;have ch:=bG hu hs bD hT;clear h cO cP bR a8 aU hu hs bD hT;dsimp only[UV.val,SV.val,IV.val];go_enter func45,ntmps45;go_upto_region 1 with(fail);generalize be:World.alloc _ _=W;have aE:=Jg be;have bK:=It be;have aY:=Iu be;have aQ:=Iv be;have cg:=Iw be;have aH:=xv aE bK aY aQ (ch.1.on aE) (ch.2.1.on aE) (ch.2.2.1.on aE) (ch.2.2.2.on aE) cg;obtain⟨a3,am,aJ⟩:=aY.two;clear be aE bK aY aQ ch cg;go_wp2_with(fail);refine(nO aH.2.2.2.2.2.2.2.1 _ _ _).mono ?_;rintro e aP ⟨rfl,aF⟩;have bs:=ad aF;clear a3 am aJ;go_upto_region 2 with(fail);generalize hU:World.alloc _ _=U;have ca:=bb hU;have cz:=aT hU;have b4:=aF.trans ca;obtain⟨d0,af,aS⟩:=(aH.2.2.2.1.aj b4).two;have c6:=cz.lt;have cv:=ah b4 cz;clear hU ca cz b4 aF;go_upto_region 3 with(fail);clear d0 af aS;generalize b7:World.alloc _ _=Y;have bA:=bb b7;have bX:=aT b7;have c8:=bX.lt;have bP:=ah bA bX;clear b7 bA bX;go_wp2_with(fail);go_loopw [13] (λce wr=>∃(k:Nat) (A:LP) (c:Nat),ce=.int .i64 k/\k<=j/\Fr (λb=>b=U.heap.size) Y wr/\an wr U.heap.size 99 #[.int .i64 x.target,.int .i64 0,.slice A k c,.slice none 0 0]/\Gr (λ_=>False) Y.heap.size 3 1 wr A k c (((x.ints.take k).map λe=>(ev s.globals f.ints e).1).map D.i)/\DB s.globals f.ints x.ints k) (λce _=>j - (intOf ce).toNat)
 case atStart=>exact⟨0,none,0,rfl,ab,LL,bP.2,Gr.nil _ _ _ _ _,λe he=>by simp at he⟩
 case round=>
  obtain⟨k,A,c,rfl,ai,aE,aN,hG,P⟩:=hrel;have y:Ext U wr:=Fr.low (M:=λb=>b=U.heap.size) (Fr.trans (Fr.mono bP.1 λ_ h=>h.elim) aE) λb O=>by rw[O];exact Lb _
  have J:=cv.1.trans y;have aZ:=ej aE aN hG P J y;have eT:=aE.size;by_cases aw:k<j
  .obtain⟨b,o,ex,cs,rfl,O,a4,bS,bi,Z⟩:=(aH.2.2.2.2.2.2.1.ints.on (Fr.ext J)).gZ dg aw;exact vI
  .obtain rfl:k=j:=ab;have aI:db s.globals f.ints x.ints=(x.ints.map λe=>(ev s.globals f.ints e).1,0):=rZ λe he=>P e (by rw[Lj (aC aR.2.2.2.1)];exact he);have b6:Gr (λ_=>False) Y.heap.size 3 1 wr A k c ((db s.globals f.ints x.ints).1.map D.i):=by
    have aK:=hG;rw[Lj (aC aR.2.2.2.1)] at aK;rw[aI];exact aK
   obtain⟨a6,rfl⟩:∃a6,a6=wr:=⟨wr,rfl⟩
   have HA:=ah b6 aI;obtain⟨d0,af,aS⟩:=(aH.2.2.2.1.aj J).two;clear aE aN hG P J y aI b6;go_wp2_with(fail);clear d0 af aS;go_loopw [16] (λce wr=>∃(m:Nat) (B:LP) (aA:Nat),ce=.int .i64 m/\m<=cB/\Fr (λb=>b=U.heap.size) a6 wr/\an wr U.heap.size 99 #[.int .i64 x.target,.int .i64 0,.slice A k c,.slice B m aA]/\Gr (λ_=>False) a6.heap.size 3 1 wr B m aA (((x.places.take m).map λp=>(bp u s f p).1).map D.i)/\∀p∈x.places.take m,(bp u s f p).2=0) (λce _=>cB - (intOf ce).toNat)
   case atStart=>exact⟨0,none,0,rfl,ab,LL,aZ.2.1,Gr.nil _ _ _ _ _,λe he=>by simp at he⟩
   case round=>
    obtain⟨m,B,aA,rfl,hm,aE,aN,hG,P⟩:=hrel;have y:Ext U wr:=Fr.low (M:=λb=>b=U.heap.size) (Fr.trans (Fr.mono aZ.2.2.2.2.2 λ_ h=>h.elim) aE) λb O=>by rw[O];exact Lb _
    have J:=cv.1.trans y;have bU:=ej aE aN hG P J y;have eJ:=aE.size;by_cases dp:m<cB
    .obtain⟨b,o,pl,cx,cp,zc,rfl,O,a4,cu,cr,br,bL,bB⟩:=(aH.2.2.2.2.2.2.1.places.on (Fr.ext J)).ti dp;have aX:b<wr.heap.size:=O;have bd:=aL a4 bL bB;obtain⟨a0,ap,aj⟩:=(aH.2.1.aj J).two;obtain⟨a3,am,aJ⟩:=(aH.2.2.1.aj J).two;obtain⟨d0,af,aS⟩:=(aH.2.2.2.1.aj J).two;clear a4 bL bB O aE aN hG P J y;go_upto_region 13 with(fail);refine eU (λ_=>False) [(0,0),(1,0),(2,3),(3,3),(4,0),(5,3),(6,3),(7,0),(8,2),(9,3),(10,3),(11,3),(12,3),(13,3)] ?_
     iterate 2 refine ph ?_
     iterate 2 refine pf ?_
     refine ph ?_
     iterate 2 refine pf ?_
     refine ph ?_;refine aq rfl (λK hK=>?_);go_simp;have bV:Ext wr wr.drew:=(Fr.refl _ wr).drew;have cR:=bU.2.2.2.2.1.trans bV;refine(mq u s t f pl N wr.drew ⟨GA,gn,gc,MA,mn,mc,PA,pn,pc⟩ ⟨bM,b2,bo,TA,tn,tc,some ⟨bj,bl,none⟩,hn,hc⟩ cx cp zc ⟨aR.1.hU.ok,aR.1.hS,aR.1.sm,aR.1.ht,⟨Q,aR.1.hp,aR.2.2.1 pl (Le bd.1)⟩,aH.2.2.2.2.1.on cR,aH.2.2.2.2.2.1.on cR,eu.2 ⟨cx,cp,zc,rfl,bd.2.1,bd.2.2.on (Fr.ext bV)⟩⟩).mono ?_;rintro e aV ⟨rfl,a9⟩;rw[jV aR.1.ht];have a7:=ad (show Ext wr aV from Fr.aQ (Fr.of a9));have ar:=λba=>qk (k:=m) bU.2.2.2.1 bd.1 ba;generalize au:bp u s f pl=R at *;obtain⟨r,z⟩:=R;have bx:=ah ar au;clear ar au a9 bV cR a0 ap aj a3 am aJ d0 af aS cu cr br aX;refine eL hK ?_;clear hK K
     iterate 5 refine pf ?_
     refine aB ?_;have bF:=bU.2.1.aj a7.o;have b8:=ad bF;obtain⟨e0,bk,a5⟩:=bF.two;have cC:=a7.size;by_cases ba:z=0
     .have q5:(z != 0)=false:=by simpa using ba
      have ak:=ad (bU.2.2.1.aj a7.o);have bc:=ad ba;clear ba bF;go_wp2_with(at_builtin;refine bI de rfl (.tmp 82) (.tmp 84) rfl ak.o (d:=D.i r) (cs:=#[.int .i64 r]) (by simp only[D.rep]) rfl rfl rfl ab ab ab ?_;intro ck bv b3 b9 g2 cI cL;have bW:=b8.on g2 (λhm=>by have:=(ak.lt hm).1;omega);clear e0 bk a5;obtain⟨e0,bk,a5⟩:=bW.two;have bY:=aL b9 g2 bW;clear b9 g2 cI cL bW);generalize hX:World.setCell _ _ _=X;have bw:an X U.heap.size 99 #[.int .i64 x.target,.int .i64 0,.slice A k c,.slice ck (m+1) bv]:=hX▸bY.2.2.aD 3 _;have cl:Fr (λb=>b=U.heap.size) b3 X:=hX▸(Fr.refl (λb=>b=U.heap.size) _).setCell (.inl rfl) _;have bO:Fr (λb=>b=U.heap.size) a6 X:=Fr.DN (M:=λb=>b=U.heap.size\/(Value.slice B m aA).ownBlock=some b) (Fr.trans (Fr.trans (Fr.mono (Fr.trans bU.1 (Fr.mono a7.o λ_ h=>h.elim)) λ_ h=>.inl h) (Fr.mono bY.2.1 λ_ h=>.inr h)) (Fr.mono cl λ_ h=>.inl h)) λb O hm=>hm.elim id λhm=>absurd (ak.lt hm).1 ab;have cH:=bY.1.cS cl λb O _=>⟨λh=>h,by rw[O];omega⟩
      have T:=aL bw bO cH;clear hX bw cl bO cH e0 bk a5;go_roundw
      case rel=>
       refine⟨m+1,ck,bv,by go_num,ab,T.2.1,T.1,?_,λe he=>?_⟩
       .rw[a1 bd.1,Li,Li];exact zU
       .rw[a1 bd.1] at he;rcases Lk.1 he with he|he
        .exact bU.2.2.2.1 e he
        .rw[LF.1 he,bx.2];exact bc.o
      case measure=>exact az
     .have q5:(z != 0)=true:=by simpa using ba
      have b0:=ad (bx.1 ba);have bc:=ad ba;have V:=bU.2.2.2.2.1.trans a7.o;have cg:=aH.2.2.2.2.2.2.2.2.aj V;have cV:=ah cg (aH.1.trans V);obtain⟨bE,bg,bh⟩:=cg.two;clear ba bF V cg;go_wp2_with(fail);generalize hX:World.setCell _ _ _=X;obtain⟨bw,bq,bO⟩:=cm (w:=w) [.int .i64 x.target,.int .i64 0,.slice A k c,.slice B m aA] (by rfl) cV.1 cV.2 ab hX;have T:=ad bq;clear hX bq bO bE bg bh e0 bk a5;obtain⟨bE,bg,bh⟩:=bw.two;refine LK (v:=.tuple #[.agg #[.int .i64 x.target,.int .i64 0,.slice A k c,.slice B m aA],.int .i64 z]) (by simp[results,Tryz.results45,go_sem,bE]) rfl ?_;refine⟨_,_,_,_,_,_,_,_,z,rfl,T.o,λh=>absurd ?_ h,λ_ _=>by rw[b0.o],λ_ h=>absurd h ?_⟩
      .rw[HA.2]
      .rw[b0.o];exact bc.o
    .obtain rfl:m=cB:=ab;have bt:cf u s f x.places=(x.places.map λp=>(bp u s f p).1,0):=ql λe he=>P e (by rw[Lj (aC aR.2.2.2.2.1)];exact he);have bZ:Sl wr (λb=>a6.heap.size<=b/\b<wr.heap.size) B m ((cf u s f x.places).1.map D.i):=by
      have aK:=hG;rw[Lj (aC aR.2.2.2.2.1)] at aK;rw[bt];exact aK.sl (λb _ h=>h.elim) λb aw O=>⟨O,aw⟩
     have cj:=hG.cap.1;have b6:=HA.1.cS aE λb O _=>⟨λh=>h,by rw[O];omega⟩
     obtain⟨bn,rfl⟩:∃bn,bn=wr:=⟨wr,rfl⟩
     have bN:=bG bZ cj bt b6;obtain⟨eq,cZ,cW,f2,cc⟩:=aR.2.2.2.2.2;have ci:=(List.getElem?_eq_some_iff.1 cZ).1;have bf:=aH.2.2.2.2.1.at_.p.1;rw[Lf] at bf;simp only at bf;obtain⟨pb,gN,cS,bQ,b1,bT,e,eM,cq,cu,cr,br,aa,cM,_,_⟩:=aH.2.2.2.2.1.at_.proc (k:=x.target.toNat) (by show x.target.toNat<pn;omega);simp only at e;subst e;rw[cZ] at cq;injection cq with cq;subst cq;have cd:=cc.ints;obtain⟨L,aO⟩:=Lg (a:=eq.locals) ab;rw[aO] at aa;have eL:k<=L:=by have:=aR.2.2.2.1;omega
     have cX:L<=200:=ab;have co:x.target<(pn:Int):=ab;have aM:gg u x.target=L:=by unfold gg;rw[cZ];simp[aO]
     have cb:=aL aM eM aa;obtain⟨d0,af,aS⟩:=(aH.2.2.2.1.aj J).two;clear aE aN hG P J y bt bZ b6 cZ cW f2 cc ci bf eM cu cr br aa cM cd aO aM;go_wp2_with(fail);clear d0 af aS;go_loopw [97] (λ_ wr=>∃(bJ:Nat) (A2:LP) (c2:Nat),k<=bJ/\bJ<=L/\Fr (λb=>b=U.heap.size\/(Y.heap.size<=b/\b<a6.heap.size)) bn wr/\an wr U.heap.size 99 #[.int .i64 x.target,.int .i64 0,.slice A2 bJ c2,.slice B m aA]/\Gr (λ_=>False) Y.heap.size 3 1 wr A2 bJ c2 (((db s.globals f.ints x.ints).1++List.replicate (bJ - k) 0).map D.i)/\∀b,(Value.slice A2 bJ c2).ownBlock=some b->(b<a6.heap.size\/bn.heap.size<=b)) (λ_ wr=>L - xZ U.heap.size wr)
     case atStart=>exact⟨k,A,c,ab,eL,LL,bU.2.1,by rw[Nat.sub_self,List.replicate_zero,LC];exact bN.2.2.2,λb O=>.inl (HA.1.lt O).2⟩
     case round=>
      obtain⟨bJ,A2,c2,cn,a8,aE,aN,hG,ax⟩:=hrel;have cy:=bP.1.size;have y:Ext U wr:=Fr.low (M:=λb=>b=U.heap.size\/(Y.heap.size<=b/\b<a6.heap.size)) (Fr.trans (Fr.mono bU.2.2.2.2.2 λ_ h=>h.elim) aE) λb O=>by rcases O with O|O<;>omega
      have J:=cv.1.trans y;have ao:=ej aE aN hG ax J y;have bB:=aE.size;obtain⟨a0,ap,aj⟩:=(aH.2.1.aj J).two;obtain⟨d0,af,aS⟩:=(aH.2.2.2.1.aj J).two;obtain⟨e0,bk,a5⟩:=aN.two;have aa:=(J.cell cb.2.1 λh=>h).trans cb.2.2;have bf:pb<wr.heap.size:=Lc cb.2.1 J.size;clear aE aN hG ax J y;by_cases bC:bJ<L
      .go_upto_region 17 with(fail);refine eU (λ_=>False) [(0,3),(1,0),(2,3),(3,3),(4,0),(5,3),(6,0),(7,3),(8,3),(9,0),(10,3)] ?_;refine pf ?_;refine ph ?_
       iterate 2 refine pf ?_
       refine ph ?_;refine pf ?_;refine ph ?_
       iterate 2 refine pf ?_
       refine ph ?_;refine pf ?_;refine aB ?_;generalize bH:World.drew wr=aV;have a2:Ext wr aV:=bH▸(Fr.refl _ wr).drew;clear bH a0 ap aj d0 af aS aa bf e0 bk a5;have a7:=ad a2;have bF:=ao.2.1.aj a2;have b8:=ad bF;have ak:=ad (ao.2.2.1.aj a2);have cC:=a2.size;obtain⟨e0,bk,a5⟩:=bF.two;clear a2 bF;have c7:(bJ:Int)<(L:Int):=ab;have q7:decide ((bJ:Int)<(L:Int))=true:=decide_eq_true c7;go_wp2_with(at_builtin;refine bI de rfl (.tmp 99) (.tmp 100) rfl ak.o (d:=D.i 0) (cs:=#[.int .i64 0]) (by simp only[D.rep]) rfl rfl rfl ab ab ab ?_;intro ck bv b3 b9 g2 cI cL;have bW:=b8.on g2 (λhm=>by have:=(ak.lt hm).1;omega);clear e0 bk a5;obtain⟨e0,bk,a5⟩:=bW.two;have bY:=bG b9 g2 bW cI;clear b9 g2 cI cL bW);generalize hX:World.setCell _ _ _=X;have bw:an X U.heap.size 99 #[.int .i64 x.target,.int .i64 0,.slice ck (bJ+1) bv,.slice B m aA]:=hX▸bY.2.2.1.aD 2 _;have cl:Fr (λb=>b=U.heap.size) b3 X:=hX▸(Fr.refl (λb=>b=U.heap.size) _).setCell (.inl rfl) _;have bO:Fr (λb=>b=U.heap.size\/(Y.heap.size<=b/\b<a6.heap.size)) bn X:=Fr.DN (M:=λb=>(b=U.heap.size\/(Y.heap.size<=b/\b<a6.heap.size))\/(Value.slice A2 bJ c2).ownBlock=some b) (Fr.trans (Fr.trans (Fr.mono (Fr.trans ao.1 (Fr.mono a7.o λ_ h=>h.elim)) λ_ h=>.inl h) (Fr.mono bY.2.1 λ_ h=>.inr h)) (Fr.mono cl λ_ h=>.inl (.inl h))) λb O hm=>hm.elim id λhm=>.inr ⟨(ak.lt hm).1,by rcases ao.2.2.2.1 b hm with h|h<;>omega⟩;have cH:=bY.1.cS cl λb O _=>⟨λh=>h,by rw[O];omega⟩
       have cE:∀b,(Value.slice ck (bJ+1) bv).ownBlock=some b->(b<a6.heap.size\/bn.heap.size<=b):=λb O=>(bY.2.2.2 b O).elim (λh=>ao.2.2.2.1 b h) λh=>.inr ab;have ct:L - xZ U.heap.size X<L - xZ U.heap.size wr:=by
        unfold xZ;rw[bw.cell 2,ao.2.1.cell 2];show L - (bJ+1)<L - bJ
        omega
       have T:=dq bw bO cH cE ct;clear hX bw cl bO cH cE ct e0 bk a5;go_roundw
       case rel=>
        refine⟨bJ+1,ck,bv,ab,ab,T.2.1,T.1,?_,T.2.2.2.1⟩;rw[show bJ+1 - k=(bJ - k)+1 by omega,List.replicate_succ',<-List.append_assoc,Li];exact T.2.2.1
       case measure=>exact T.2.2.2.2
      .have dk:bJ=L:=ab;have q7:decide ((bJ:Int)<(L:Int))=false:=decide_eq_false ab;have cQ:=ad dk;clear dk;go_upto_region 17 with(fail);refine eU (λ_=>False) [(0,3),(1,0),(2,3),(3,3),(4,0),(5,3),(6,0),(7,3),(8,3),(9,0),(10,3)] ?_;refine pf ?_;refine ph ?_
       iterate 2 refine pf ?_
       refine ph ?_;refine pf ?_;refine ph ?_
       iterate 2 refine pf ?_
       refine ph ?_;refine pf ?_;refine aB ?_;generalize bH:World.drew wr=aV;have a2:Ext wr aV:=bH▸(Fr.refl _ wr).drew;clear bH a0 ap aj d0 af aS aa bf e0 bk a5;have cC:=a2.size;have bF:=ao.2.1.aj a2;have bu:Fr (λb=>b=U.heap.size\/(Y.heap.size<=b/\b<a6.heap.size)) bn aV:=Fr.trans ao.1 (Fr.mono a2 λ_ h=>h.elim);have V:=ao.2.2.2.2.1.trans a2;have cg:=aH.2.2.2.2.2.2.2.2.aj V;have cV:=bG cg (aH.1.trans V) (ao.2.2.1.aj a2) bu;obtain⟨e0,bk,a5⟩:=bF.two;obtain⟨bE,bg,bh⟩:=cg.two;clear a2 bF V cg bu;go_wp2_with(fail);generalize hX:World.setCell _ _ _=X;obtain⟨bw,bq,bO⟩:=cm (w:=w) [.int .i64 x.target,.int .i64 0,.slice A2 bJ c2,.slice B m aA] (by rfl) cV.1 cV.2.1 ab hX;have T:=ah bq bO;clear hX bq bO bE bg bh e0 bk a5;obtain⟨bE,bg,bh⟩:=bw.two;refine LK (v:=.tuple #[.agg #[.int .i64 x.target,.int .i64 0,.slice A2 bJ c2,.slice B m aA],.int .i64 0]) (by simp[results,Tryz.results45,go_sem,bE]) rfl ?_;refine⟨_,_,_,_,_,_,_,_,0,rfl,T.1,λh=>absurd ?_ h,λ_ h=>absurd ?_ h,λ_ _=>⟨rfl,?_⟩⟩
       .rw[HA.2]
       .rw[bN.2.2.1]
       .have cD:=aH.2.2.2.2.2.2.2.2.lt;have dd:=cv.1.size;have dc:=bP.1.size;have df:=aZ.1.size;have dh:=bU.1.size;have bm:=cV.2.2.2.size;have da:=T.2.size;have gE:=cV.2.2.1.cS T.2 λb O _=>⟨λh=>h,by rw[O];omega⟩
        refine g0.2 ⟨A2,bJ,c2,B,m,aA,rfl,cV.2.2.1.cap.1,bN.2.1,?_,?_⟩
        .have hlen:(db s.globals f.ints x.ints).1.length=k:=by rw[HA.2];simp[aR.2.2.2.1]
         show Sl X _ A2 bJ (((db s.globals f.ints x.ints).1++List.replicate (gg u x.target - (db s.globals f.ints x.ints).1.length) 0).map D.i)
         rw[cb.1,hlen,<-cQ.o];exact gE.sl (λb _ h=>h.elim) λb aw O=>⟨ab,aw⟩
        .show Sl X _ B m ((cf u s f x.places).1.map D.i)
         refine(bN.1.ai (ac:=X) λb O=>?_).mono λb O=>⟨ab,ab⟩
         rw[T.2.block b ab ab,cV.2.2.2.block b O.2 ab]
 ):p:=h
end CG
open CG in
theorem uH(u:av)(s:ag)(t:Int)(f:al)(Q:di)(x:ay)(N:Nat)(w:World)(p:UV)(q:SV)(v:IV)(h:lI u s t f Q x N)(aG:x.op=2\/x.op=3)(hu:p.Ok w u)(hs:q.Ok w s)(bD:v.Ok w x) :
  Calls prog 45 #[.agg (p.val u),.agg (q.val s),.int .i64 t,.agg (v.val x)] w (G3 w u x (db s.globals f.ints x.ints) (cf u s f x.places)):=by
 exact jf
namespace CH
theorem vB(h:p:=by
 rw[b0.o];exact e5 (B:=V.heap.size) bP.1 bc.2 (λb O=>⟨λhl=>by have:=l.o b hl;omega,ab⟩) (λb O=>by have:=l.o b O;omega) ab bc.1 (by rw[D3 bU.2.1])
 ):p:=h
theorem fW(h:p:=by
 generalize aD:World.setCell _ _ _=dl;obtain⟨cd,bJ⟩:=m.1.push dL.1 (λb hm=>⟨(dL.2 b hm).1,(dL.2 b hm).2.1,(dL.2 b hm).2.2.1,(dL.2 b hm).2.2.2.1⟩) cj.1 cj.2.1 cj.2.2 aD;have cA:Fr (λb=>b=lb\/b=O) A dl:=by
  rw[<-aD];exact Fr.setCell (Fr.mono cj.2.1 λ_ h=>.inl h) (.inl (.inr rfl)) _
 have dz:=(aR.1.lo O (by simp)).1;have G:Ext V dl:=Fr.low (M:=λb=>b=lb\/b=O) (Fr.trans (Fr.mono m.2.1 λ_ h=>h.elim) cA) λb O=>by rcases O with O|O<;>omega
 have bP:=aL cd bJ (b4.trans G);have aN:=G.size;clear aD cd bJ cA G R bF aK dE;exact vA
 ):p:=h
theorem sC(h:p:=by
 clear cK cP cT;rcases dd.o with h|h
 all_goals
  first
   | have q1:(x.op == 1)=true:=by simpa using h
   | have q1:(x.op == 1)=false:=by simp;omega
  first
   | have cp:(x.op == 2)=true:=by simpa using h
   | have cp:(x.op == 2)=false:=by simp;omega
  first
   | have cw:(x.op == 3)=true:=by simpa using h
   | have cw:(x.op == 3)=false:=by simp;omega
  first
   | have cO:(x.op == 4)=true:=by simpa using h
   | have cO:(x.op == 4)=false:=by simp;omega
  first
   | have q5:(x.op == 5)=true:=by simpa using h
   | have q5:(x.op == 5)=false:=by simp;omega
  first
   | have c7:(x.op == 6)=true:=by simpa using h
   | have c7:(x.op == 6)=false:=by simp;omega
  first
   | have q7:(x.op == 7)=true:=by simpa using h
   | have q7:(x.op == 7)=false:=by simp;omega
  first
   | have dk:(x.op == 8)=true:=by simpa using h
   | have dk:(x.op == 8)=false:=by simp;omega
  have cr:=ad h;clear h;go_wp2_with(fail);refine(uH u s t f Q x N X ⟨GA,gn,gc,MA,mn,mc,PA,pn,pc⟩ ⟨bM,b2,bo,TA,tn,tc,HA,hn,hc⟩ ⟨eo,en,es,EA,em,ec,QA,qm,qc,c5,j,cU,KA,cB,kc⟩ i.o dd.o (aH.2.2.2.2.1.on aR.2.2) (aH.2.2.2.2.2.on aR.2.2) (dp.on aR.2.1)).mono ?_;rintro e cz ⟨ce,cq,FA,c6,aU,c4,fl,a1,z,rfl,a8,cN,cS,bf⟩;have T:=ad (Kn (u:=u) (s:=s) (t:=t) (f:=f) (x:=x) dd.o);have bw:=ad a8;clear a8;generalize db s.globals f.ints x.ints=aa at *;generalize cf u s f x.places=dc at *;obtain⟨dK,aI⟩:=aa;obtain⟨bi,bz⟩:=dc;clear a0 ap aj a3 am aJ d0 af aS e0 bk a5 c0 c1 c2 c3 J flb ac bt k aW;by_cases aA:aI=0
  case neg=>
   obtain rfl:=cN aA;have b0:=ad (T.Jj aA);have EI:(z == 0)=false:=by simpa using aA
   have I1:(z != 0)=true:=by simpa using aA
   clear aA cN cS bf T;exact Gb
  by_cases S:bz=0
  case neg=>
   obtain rfl:=cS aA S;have b0:=ad (T.Jk aA S);have EI:(z == 0)=false:=by simpa using S
   have I1:(z != 0)=true:=by simpa using S
   clear aA S cN cS bf T;exact Gb
  obtain⟨rfl,bO⟩:=bf aA S;generalize bj:ef u x.target dK bi=Y at *
 ·
  have b0:=ad (T.call aA S cr.o);rw[bj] at b0;have cQ:=ad bO;clear aA S cN cS bf T bj bO;go_upto_region 24 with(fail);generalize bp:World.alloc _ _=A;have n:=bb bp;have ak:=aT bp;have r:=bw.trans n;have m:=aL (RO.aj aR.1 r) (aR.2.1.trans r) (aR.2.2.trans r);have aQ:=ah ak n;have bZ:=n.size;have dg:=bw.size;have L:=ad m.2.2;clear bp n r;obtain⟨a3,am,aJ⟩:=(aH.2.2.1.aj m.2.2).two;obtain⟨d0,af,aS⟩:=(b6.aj m.2.1).two;obtain⟨e0,bk,a5⟩:=m.1.o.two;obtain⟨bt,k,flb,ac,J,c0,c1,c2,c3,aW⟩:=m.1.top;obtain⟨f0,cJ,dD⟩:=ak.two;clear ak;have ar:(hz Y).rep A (fresh X cz) [.int .i64 ce,.int .i64 cq,.slice FA c6 aU,.slice c4 fl a1]:=D.aP (λb O=>aQ.2.block b O.2 λh=>h) _ _ cQ.o;have H:=aR.1.lo;have ba:∀b,fresh X cz b->V.heap.size<=b/\b<A.heap.size/\b≠O/\b≠lb/\b≠b3.heap.size:=λb aX=>⟨by have:=aX.1;omega,by have:=aX.2;omega,λhe=>by have:=(H O (by simp)).2;have:=aX.1;omega,λhe=>by have:=(H lb (by simp)).2;have:=aX.1;omega,λhe=>by have:=(H b3.heap.size (by simp)).2;have:=aX.1;omega⟩
  have dL:=ah ar ba;clear ar ba H;have cb:=cn;obtain⟨dw,dx,dy,-,-⟩:=m.1.sep;have ae:=m.1.l;have bA:=ad ae;have dO:cz.heap.size≠lb:=by have:=(aR.1.lo lb (by simp)).2;omega
  have dA:b3.heap.size≠lb:=dx;have au:O≠lb:=dy;clear ae;go_upto_region 29 with(fail);refine eU (λb=>b=lb) [(0,3),(1,0),(2,3),(3,3),(4,0),(5,1),(6,1),(7,3),(8,3),(9,2)] ?_;refine pf ?_;refine qF ?_
  iterate 2 refine pf ?_
  refine qF ?_;refine r9 ?_;refine wL (λaz=>Ext A az/\an az A.heap.size 99 #[.int .i64 ce,.int .i64 cq,.slice FA c6 aU,.slice c4 fl a1]/\az.heap.size=A.heap.size+1) ⟨by first|exact((Fr.refl _ A).drew).alloc _|exact((Fr.refl _ A).alloc _).drew,by first|exact LM|exact an.new A.drew _ _,by simp⟩ (λdG dt=>?_);have bV:=ad dt;clear dt;refine aO rfl (λK hK=>?_);rw[if_pos (by rfl)];refine F4 GK (.tmp 161) (.tmp 163) rfl (bA.aj bV.1) bV.2.1 rfl rfl rfl (by simp[Value.oneCell']) ab ab ?_;intro A2 cG cx b9 g2 cI;have cA:Fr (λb=>b=lb) dG cx:=g2.mono λb O=>LF.1 O;refine ei hK (cA) ?_;clear hK K;have aw:Fr (λb=>b=lb) A cx:=Fr.trans (bV.1.mono λ_ h=>h.elim) cA;have cj:=aL b9 aw (λb O=>(cI b O).imp (λh=>LF.1 h) (λh=>(⟨by have:=bV.2.2;omega,h.2⟩:A.heap.size<=b/\b<cx.heap.size)));have R:=(aw.cell (j:=t.toNat) k au).trans J;have bF:∀j,cx.frozen? ⟨O,j,none⟩=false:=λj=>(aw.frozen k au).trans (ac j);have aK:=aw.size;clear b9 g2 cI cA aw e0 bk a5 f0 cJ dD d0 af aS a3 am aJ c0 c1 c2 c3 J flb ac;have dE:O<cx.heap.size:=ab
  iterate 2 refine pf ?_
  exact fV
 ·
  have ax:=ah (T.many aA S cr.o) (T.go aA S cr.o);rw[bj] at ax;have cQ:=ad bO;clear aA S cN cS bf T bj bO;by_cases I:32<=hn
  .have dC:decide ((hn:Int)>=32)=true:=by simpa using (by omega:(32:Int)<=(hn:Int))
   have b0:=ad (ax.1 (by rw[<-bU.2.2.2.2];exact I));clear I ax;go_upto_region 24 with(fail);generalize bp:World.alloc _ _=A;have n:=bb bp;have ak:=aT bp;have r:=bw.trans n;have m:=aL (RO.aj aR.1 r) (aR.2.1.trans r) (aR.2.2.trans r);have aQ:=ah ak n;have bZ:=n.size;have dg:=bw.size;have L:=ad m.2.2;clear bp n r;obtain⟨a3,am,aJ⟩:=(aH.2.2.1.aj m.2.2).two;obtain⟨d0,af,aS⟩:=(b6.aj m.2.1).two;obtain⟨e0,bk,a5⟩:=m.1.o.two;obtain⟨bt,k,flb,ac,J,c0,c1,c2,c3,aW⟩:=m.1.top;obtain⟨f0,cJ,dD⟩:=ak.two;clear ak;have cV:=L.size;go_wp2_with(fail);refine(pg P s ⟨bM,b2,bo,TA,tn,tc,HA,hn,hc⟩ 4 A (ch.2.2.GR l.o (aH.1.trans L.o)) (λb O=>Lc (l.o b O) (aH.1.trans L.o).size)).mono ?_;rintro e b5 ⟨⟨df,bI,bX,bY,bN,bB,bQ,cl,bR⟩,rfl,cc,a4⟩;have f2:=a4.size;have co:=ad cc;have aZ:=ah (aH.2.2.2.1.aj (L.trans a4)) ((aH.1.trans L.o).trans a4);clear cc a4 f0 cJ dD d0 af aS e0 bk a5 c0 c1 c2 c3 J flb ac bt k aW a3 am aJ;obtain⟨bE,bg,bh⟩:=aZ.1.two;go_wp2_with(fail);generalize hX:World.setCell _ _ _=Z;obtain⟨bH,bn,bC⟩:=cm (w:=w) [.slice df bI bX,.slice bY bN bB,.slice bQ cl bR,.int .i64 4] (by rfl) aZ.1 aZ.2 ab hX;have bc:=ah bn bC;clear hX bn bC bE bg bh;obtain⟨bE,bg,bh⟩:=bH.two;refine LK (v:=.tuple #[.agg #[.slice df bI bX,.slice bY bN bB,.slice bQ cl bR,.int .i64 4],.bool true]) (by simp[results,Tryz.results20,go_sem,bE]) rfl ?_;rw[b0.o];exact e5 (B:=A.heap.size) (a7:={s with fault:=4}) co.o bc.2 (λb O=>⟨λhl=>by have:=l.o b hl;omega,ab⟩) (λb O=>by have:=l.o b O;omega) ab bc.1 rfl
  .have dC:decide ((hn:Int)>=32)=false:=by simp;omega
   have b0:=ad (ax.2 (by rw[<-bU.2.2.2.2];exact I));have du:=bU.2.2.2.2;clear I ax;go_upto_region 24 with(fail);generalize bp:World.alloc _ _=A;have n:=bb bp;have ak:=aT bp;have r:=bw.trans n;have m:=aL (RO.aj aR.1 r) (aR.2.1.trans r) (aR.2.2.trans r);have aQ:=ah ak n;have bZ:=n.size;have dg:=bw.size;have L:=ad m.2.2;clear bp n r;obtain⟨a3,am,aJ⟩:=(aH.2.2.1.aj m.2.2).two;obtain⟨d0,af,aS⟩:=(b6.aj m.2.1).two;obtain⟨e0,bk,a5⟩:=m.1.o.two;obtain⟨bt,k,flb,ac,J,c0,c1,c2,c3,aW⟩:=m.1.top;obtain⟨f0,cJ,dD⟩:=ak.two;clear ak;have ar:(hz Y).rep A (fresh X cz) [.int .i64 ce,.int .i64 cq,.slice FA c6 aU,.slice c4 fl a1]:=D.aP (λb O=>aQ.2.block b O.2 λh=>h) _ _ cQ.o;have H:=aR.1.lo;have ba:∀b,fresh X cz b->V.heap.size<=b/\b<A.heap.size/\b≠O/\b≠lb/\b≠b3.heap.size:=λb aX=>⟨by have:=aX.1;omega,by have:=aX.2;omega,λhe=>by have:=(H O (by simp)).2;have:=aX.1;omega,λhe=>by have:=(H lb (by simp)).2;have:=aX.1;omega,λhe=>by have:=(H b3.heap.size (by simp)).2;have:=aX.1;omega⟩
   have dL:=ah ar ba;clear ar ba H;have aC:=m.1.hl;simp only[List.length_set] at aC;have dB:bT<=1000:=ab;clear aC du;obtain⟨dw,dx,dy,-,-⟩:=m.1.sep;have ae:=m.1.h.aj ((Fr.refl _ A).alloc (.cells #[.int .i64 ce,.int .i64 cq,.slice FA c6 aU,.slice c4 fl a1] 99));have cR:=m.1.o.aj ((Fr.refl _ A).alloc (.cells #[.int .i64 ce,.int .i64 cq,.slice FA c6 aU,.slice c4 fl a1] 99));have bA:=ah ae cR;clear ae cR;go_upto_region 45 with(at_builtin;refine tE C0 rfl (.tmp 168) (.tmp 172) rfl bA.1 (cs:=#[.slice (some ⟨A.heap.size,0,none⟩) 1 1]) rfl rfl (by simp) rfl (by simp[Value.oneCell']) (by simp only;omega) (by simp only;omega) ?_;intro A2 cG cx b9 g2 cI;have cL:=g2.mono (M':=λb=>b=O) (λb hm=>LF.1 hm);have a6:=bA.2.on cL dw;have cj:=aL b9 cL cI;clear b9 g2 cI cL e0 bk a5 f0 cJ dD d0 af aS a3 am aJ;obtain⟨e0,bk,a5⟩:=a6.two;clear a6);generalize aD:World.setCell _ _ _=dl;obtain⟨cd,bJ⟩:=m.1.start dL.1 (λb hm=>⟨(dL.2 b hm).1,(dL.2 b hm).2.1,(dL.2 b hm).2.2.1,(dL.2 b hm).2.2.2.2⟩) rfl cj.1 cj.2.1 (λb hm=>(cj.2.2 b hm).imp (λh=>LF.1 h) id) aD;have cA:Fr (λb=>b=O\/b=b3.heap.size) A dl:=by
    rw[<-aD];exact Fr.setCell (Fr.trans ((Fr.refl _ A).alloc _) (Fr.mono cj.2.1 λ_ h=>.inl h)) (.inl (.inr rfl)) _
   have dz:=(aR.1.lo O (by simp)).1;have bl:=(aR.1.lo b3.heap.size (by simp)).1;have G:Ext V dl:=Fr.low (M:=λb=>b=O\/b=b3.heap.size) (Fr.trans (Fr.mono m.2.1 λ_ h=>h.elim) cA) λb O=>by rcases O with O|O<;>omega
   have bP:=aL cd bJ (b4.trans G);have aN:=G.size;clear aD cd bJ cA G e0 bk a5 c0 c1 c2 c3 J flb ac;have aZ:=ah (aH.2.2.2.1.aj bP.2.2) (aH.1.trans bP.2.2);have cy:=bP.2.2.size;obtain⟨bE,bg,bh⟩:=aZ.1.two;obtain⟨e0,bk,a5⟩:=bP.2.1.two;go_wp2_with(fail);generalize hX:World.setCell _ _ _=Z;obtain⟨bH,bn,bC⟩:=cm (w:=w) [.slice de cH bG,.slice cD ai aV,.slice A2 (bT+1) cG,.int .i64 s.fault] (by rfl) aZ.1 aZ.2 ab hX;have bc:=ah bn bC;clear hX bn bC bE bg bh e0 bk a5;obtain⟨bE,bg,bh⟩:=bH.two;refine LK (v:=.tuple #[.agg #[.slice de cH bG,.slice cD ai aV,.slice A2 (bT+1) cG,.int .i64 s.fault],.bool true]) (by simp[results,Tryz.results20,go_sem,bE]) rfl ?_;exact CQ
 ):p:=h
theorem sE(h:p:=by
 exact sy
 ):p:=h
theorem sG(h:p:=by
 exact sD
 ):p:=h
end CH
open CH in
theorem qO(u:av)(s:ag)(t:Int)(f:al)(Q:di)(x:ay)(N:Nat)(P:Nat->Prop)(w:World)(p:UV)(q:SV)(h:lI u s t f Q x N)(hN:N<=100000)(aG:x.op=2\/x.op=3)(hu:p.Ok w u)(ct:q.Is w P s)(aY:∀b,P b->b<w.heap.size) :
  Calls prog 20 #[.agg (p.val u),.agg (q.val s),.int .i64 t] w (mF P w (cu u s t f x).1 (cu u s t f x).2):=by
 exact sF
end Go.Proofs.YtflecliffjbleaaGreat

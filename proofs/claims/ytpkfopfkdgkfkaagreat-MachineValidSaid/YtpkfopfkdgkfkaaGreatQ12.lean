/- Part 12 of the proof. No condition of its own. -/
import Derived.Test.YtpkfopfkdgkfkaaGreatQ11
namespace Go.Proofs.YtpkfopfkdgkfkaaGreat
open Go.RowKit Go.Proofs.Tryz
set_option maxRecDepth 1000000
set_option maxHeartbeats 25600000
set_option linter.unusedVariables false
variable{nl t:Int}{O bn fc hn l lc n tn:Nat}{HA TA:Mt}{p:Prop}{x:aC}
def zw(w:World)(op num:Int)(hg:ByteArray)(l:List VE)(e:Ending)(ab:World):Prop:=∃A n c,e=.returned (.agg #[.int .i64 op,.int .i64 num,.string hg,.slice A n c])/\n<=c/\Sl ab (fresh w ab) A n (l.map bm)/\Ext w ab
def xD(x:VE):Prop:=∀(w:World) (A:Mt) (n c:Nat),Sl w (aq w) A n (x.args.map bm)->Calls prog 94 #[.agg #[.int .i64 x.bf,.int .i64 x.numOf,.string x.bu,.slice A n c]] w (zw w x.bf x.numOf x.bu x.args)
namespace Cq
theorem dC(h:p:=by
 generalize hX:World.setCell aT _ _=Y;have bx:=cp hX;have N:=ae (show Ext w Y/\au Y w 117 #[op,num,hg,.slice cC (k+1) c3]/\au Y (w.heap.size+1) 117 #[(0:Int),(0:Int),Mq,()]/\Gr (λb=>w.heap.size+2<=b) (w.heap.size+2) 117 4 Y cC (k+1) c3 ((l.take (k+1)).map bm) from
  ⟨Fr.low (M:=λb=>b=w.heap.size) (Fr.trans (Fr.mono bc.1 λ_ h=>h.elim) bx) λb O=>ad,by rw[<-hX];exact bc.2.1.aN 3 _,bc.2.2.1.on bx ad,by
   rw[aY bC.1,LR];exact bc.2.2.2.cZ bx λb O _=>⟨ad,ad⟩⟩)
 clear hX bx a0 ai af bI;go_wp2;go_roundw
 case rel=>exact⟨k+1,cC,c3,by go_num,ad,N.o⟩
 case measure=>exact aH
 ):p:=h
theorem sH(h:p:=by
 have bC:=ag bb c4;have bU:=ae (b5.o y (LN bb));clear bb bR c4 a4 bh O aw aQ cv hG;go_upto_region 6 with(fail);generalize hU:World.alloc _ _=U;have cr:=aU hU;have c8:=aI hU;have cV:=cr.size;have bM:=aN.2.1.aj cr;have cB:=cL (aN.1.trans cr) bM (aN.2.2.1.aj cr) (aN.2.2.2.aj cr) (bC.2.on (Fr.ext cr));obtain⟨d0,aK,aM⟩:=c8.two;obtain⟨a0,ai,af⟩:=bM.two;clear hU cr c8 bM c0 c1 c2 c3 a1;refine eJ (λ_=>False) [(0,3),(1,0),(2,0),(3,1),(4,1),(5,2),(6,3),(7,2)] ?_;refine pf ?_
 iterate 2 refine ph ?_
 refine aB rfl (λK hK=>?_);go_simp;refine(bU.o _ _ _ _ (cB.2.2.2.2.on (Fr.ext (Fr.refl _ U).drew))).mono ?_;rintro e aS ⟨b4,ci,zc,rfl,bO,cU,ar⟩;have H1:=az cU bO ar;refine dq hK (ar) ?_;clear hK K;have aO:Ext U aS:=Fr.aG ar;have b3:=cB.2.2.2.1.aj aO;have cq:=aO.size;have ao:∀b,(Value.slice I k aE).ownBlock=some b->b<U.heap.size:=λb O=>(cB.2.2.2.1.lt O).2;have hd:(bm y).rep aS (lh (λb=>w.heap.size+2<=b) aS (.slice I k aE)) (#[.int .i64 y.bf,.int .i64 y.numOf,.string y.bu,.slice b4 ci zc]:Array Value).toList:=
  aZ.2 ⟨b4,ci,zc,rfl,bO,cU.mono λb O=>⟨by have:=O.1;have:U.drew.heap.size=U:=rfl;omega,O.2,λh=>by have:=ao b h;have:=O.1;have:U.drew.heap.size=U:=rfl;omega⟩⟩
 have aV:=ag b3 hd;clear cU bO ar b3 hd ao;refine rb ?_;refine ax rfl (λK hK=>?_);rw[if_pos (by rfl)];refine qS pD (.tmp 16) (.tmp 19) rfl aV.1 aV.2 rfl rfl rfl ad ad ad ?_;intro cC c3 aT bT g2 cP db;have bv:∀b,(Value.slice I k aE).ownBlock=some b->w.heap.size+2<=b:=λb O=>(aV.1.lt O).1;have bI:=(cB.2.1.aj aO).on g2 (λh=>by have:=bv _ h;omega);have cE:=(cB.2.2.1.aj aO).on g2 (λh=>by have:=bv _ h;omega);have a7:Ext w aT:=Fr.low (M:=λb=>(Value.slice I k aE).ownBlock=some b) (Fr.trans (Fr.mono (cB.1.trans aO) λ_ h=>h.elim) g2) λb O=>by have:=bv b O;omega
 have bc:=bF a7 bI cE bT;clear bT g2 cP db bv cE a7 a0 ai af d0 aK aM;obtain⟨a0,ai,af⟩:=bI.two;exact sL
 ):p:=h
end Cq
open Cq in
theorem fY(op num:Int)(hg:ByteArray)(l:List VE)(Z:∀y∈l,xD y)(hl:l.length<=2)(w:World)(A:Mt)(n c:Nat)(h:Sl w (aq w) A n (l.map bm)) :
  Calls prog 94 #[.agg #[op,num,hg,.slice A n c]] w (zw w op num hg l):=by
 have hn:n<=2:=by have:=h.1;simp at this;omega
 have i:=ae (show l.length=n by have:=h.1;simpa using this);obtain⟨H,b5⟩:=aJ h Z;clear h Z hl;go_enter func94,ntmps94;go_upto_region 1 with(fail);generalize ba:World.alloc _ _=W;have a2:=h9 ba;have bN:=gb ba;have f:=fG ba;obtain⟨a0,ai,af⟩:=bN.two;clear ba;go_upto_region 3 with(fail);generalize hX:World.setCell _ _ _=X;have J:=cp hX;have aw:Ext w X:=Fr.low (M:=λb=>b=w.heap.size) (Fr.trans (Fr.mono a2 λ_ h=>h.elim) J) λb O=>ad;have aQ:au X w 117 #[op,num,hg,()]:=hX▸bN.aN 3 _;have cv:au X (w.heap.size+1) 117 #[(0:Int),(0:Int),Mq,()]:=f.on J ad;clear J a2 bN f a0 ai af;have aN:=az aw aQ cv;clear hX aw aQ cv;go_wp2_with(fail);go_loopw [11] (λcA wr=>∃(k:Nat) (I:Mt) (aE:Nat),cA=.int .i64 k/\k<=n/\Ext w wr/\au wr w 117 #[op,num,hg,.slice I k aE]/\au wr (w.heap.size+1) 117 #[(0:Int),(0:Int),Mq,()]/\Gr (λb=>w.heap.size+2<=b) (w.heap.size+2) 117 4 wr I k aE ((l.take k).map bm)) (λcA _=>n - (intOf cA).toNat)
 case atStart=>exact⟨0,none,0,rfl,ad,aN.1,aN.2.1,aN.2.2,Gr.nil _ _ _ _ _⟩
 case round=>
  obtain⟨k,I,aE,rfl,aj,aw,aQ,cv,hG⟩:=hrel;clear aN;have aN:=bF aw aQ cv hG;have cd:=cv.lt;by_cases an:k<n
  .obtain⟨b,o,y,cs,rfl,O,bb,bR,bh,a4⟩:=(H.on (Fr.ext aw)).hf df an;exact sG
  .obtain rfl:k=n:=ad;obtain⟨a0,ai,af⟩:=aQ.two;obtain⟨bl,aD,aP⟩:=cv.two;clear aw aQ cv hG;go_wp2_with(fail);generalize hX:World.setCell _ _ _=Y;obtain⟨bH,bG,bx⟩:=bA (w:=w) [op,num,hg,.slice I k aE] (by rfl) aN.2.2.1 aN.1 ad hX;have bC:=ag bG bx;clear hX bG bx a0 ai af bl aD aP;obtain⟨bl,aD,aP⟩:=bH.two;refine Mn (v:=.agg #[op,num,hg,.slice I k aE]) (by simp[results,Tryz.results94,go_sem,bl]) rfl ?_;have aR:=aN.2.2.2.cZ bC.2 λb O _=>⟨ad,ad⟩
   rw[LS (ay i.o)] at aR;exact⟨I,k,aE,rfl,aR.cap.1,aR.sl (λb an O=>⟨ad,an⟩) (λb an O=>⟨ad,an⟩),bC.1⟩
theorem jJ:∀x:VE,xD x
 | .num n=>λw A m c h=>fY 1 n ⟨#[]⟩ [] (by simp) (by simp) w A m c h
 | .hg s=>λw A m c h=>fY 2 0 s [] (by simp) (by simp) w A m c h
 | .loc k=>λw A m c h=>fY 18 k ⟨#[]⟩ [] (by simp) (by simp) w A m c h
 | .iI k=>λw A m c h=>fY 19 k ⟨#[]⟩ [] (by simp) (by simp) w A m c h
 | .un op x=>λw A m c h=>fY op 0 ⟨#[]⟩ [x] (λy bb=>by rw[Mi.1 bb];exact jJ x) (by simp) w A m c h
 | .bin op x y=>λw A m c h=>fY op 0 ⟨#[]⟩ [x,y] (λz aL=>by
   simp only[L5,List.not_mem_nil,or_false] at aL;rcases aL with aL|aL
   .rw[aL];exact jJ x
   .rw[aL];exact jJ y) (by simp) w A m c h
theorem y0(o:Option VE)(w:World)(eo en:Int)(es:ByteArray)(A:Mt)(n c:Nat)(h:(oD o).rep w (aq w) [eo,en,es,.slice A n c]) :
  Calls prog 94 #[.agg #[eo,en,es,.slice A n c]] w λe ab=>∃I a6 aE,e=.returned (.agg #[eo,en,es,.slice I a6 aE])/\(oD o).rep ab (fresh w ab) [eo,en,es,.slice I a6 aE]/\Ext w ab:=by
 cases o with
 | none=>
  obtain⟨A2,c2,e⟩:=fw.1 h;simp only[List.cons.injEq,and_true] at e;obtain⟨e1,e2,e3,be⟩:=e;injection e1 with _ e1;injection e2 with _ e2;injection e3 with e3;injection be with be co bD;subst e1 e2 e3 be co bD;refine(fY 0 0 ⟨#[]⟩ [] (by simp) (by simp) w _ 0 c (Sl.bS _)).mono ?_;rintro e ab ⟨I,a6,aE,rfl,ac,ap,aV⟩;obtain rfl:a6=0:=ap.1.symm
  exact⟨I,0,aE,rfl,fw.2 ⟨I,aE,rfl⟩,aV⟩
 | some x=>
  obtain⟨A2,n2,c2,e,hc,hs⟩:=aZ.1 h;simp only[List.cons.injEq,and_true] at e;obtain⟨e1,e2,e3,be⟩:=e;injection e1 with _ e1;injection e2 with _ e2;injection e3 with e3;injection be with be co bD;subst e1 e2 e3 be co bD;refine(jJ x w _ _ _ hs).mono ?_;rintro e ab ⟨I,a6,aE,rfl,ac,ap,aV⟩;exact⟨I,a6,aE,rfl,aZ.2 ⟨I,a6,aE,rfl,ac,ap⟩,aV⟩
def H4(w:World)(l:List VE)(e:Ending)(ab:World):Prop:=∃A n c,e=.returned (.slice A n c)/\n<=c/\Sl ab (fresh w ab) A n (l.map bm)/\Ext w ab
namespace Cr
theorem sH(h:p:=by
 have bC:=ag bb c4;clear bb bR c4 a4 bh O aw hG;go_upto_region 5 with(fail);generalize hU:World.alloc _ _=U;have cr:=aU hU;have c8:=aI hU;have cV:=cr.size;have cB:=az (aN.1.trans cr) (aN.2.aj cr) (bC.2.on (Fr.ext cr));obtain⟨d0,aK,aM⟩:=c8.two;clear hU cr c8 c0 c1 c2 c3 a1;go_wp2_with(fail);refine(jJ y _ _ _ _ cB.2.2).mono ?_;rintro e aS ⟨b4,ci,zc,rfl,bO,cU,aO⟩;have b3:=cB.2.1.aj aO;have cq:=aO.size;have ao:∀b,(Value.slice I k aE).ownBlock=some b->b<U.heap.size:=λb O=>(cB.2.1.lt O).2;have hd:(bm y).rep aS (lh (λb=>w.heap.size<=b) aS (.slice I k aE)) (#[.int .i64 y.bf,.int .i64 y.numOf,.string y.bu,.slice b4 ci zc]:Array Value).toList:=
  aZ.2 ⟨b4,ci,zc,rfl,bO,cU.mono λb O=>⟨by have:=O.1;omega,O.2,λh=>by have:=ao b h;have:=O.1;omega⟩⟩
 have H1:=az (cB.1.trans aO) b3 hd;clear cU bO aO b3 hd ao d0 aK aM;go_wp2_with(at_builtin;refine bL pD rfl (.tmp 12) (.tmp 15) rfl H1.2.1 H1.2.2 rfl rfl rfl ad ad ad ?_;intro cC c3 aT bT g2 cP db;have bX:=ag bT g2;clear bT g2 cP db);have bv:∀b,(Value.slice I k aE).ownBlock=some b->w.heap.size<=b:=λb O=>(H1.2.1.lt O).1;have aW:Ext w aT:=Fr.low (M:=λb=>(Value.slice I k aE).ownBlock=some b) (Fr.trans (Fr.mono H1.1 λ_ h=>h.elim) bX.2) λb O=>bv b O;have a8:=ae aW;clear bv aW;go_roundw
 case rel=>exact⟨k+1,cC,c3,rfl,by go_num,ad,a8.o,by rw[aY bC.1,LR];exact bX.1⟩
 case measure=>exact aH
 ):p:=h
end Cr
open Cr in
theorem qf(l:List VE)(hl:l.length<=100000)(w:World)(A:Mt)(n c:Nat)(h:Sl w (aq w) A n (l.map bm)) :
  Calls prog 96 #[.slice A n c] w (H4 w l):=by
 have cg:l.length=n:=by have:=h.1;simpa using this
 have hn:n<=100000:=ad;obtain⟨i,H⟩:=aJ cg h;clear h hl cg;go_enter func96,ntmps96;go_wp2_with(fail);go_loopw [3,8] (λsv cA wr=>∃(k:Nat) (I:Mt) (aE:Nat),sv=.slice I k aE/\cA=.int .i64 k/\k<=n/\Ext w wr/\Gr (λb=>w.heap.size<=b) w.heap.size 117 4 wr I k aE ((l.take k).map bm)) (λ_ cA _=>n - (intOf cA).toNat)
 case atStart=>exact⟨0,none,0,rfl,rfl,ad,Mo,Gr.nil _ _ _ _ _⟩
 case round=>
  obtain⟨k,I,aE,rfl,rfl,aj,aw,hG⟩:=hrel;have aN:=ag aw hG;have od:=aw.size;by_cases an:k<n
  .obtain⟨b,o,y,cs,rfl,O,bb,bR,bh,a4⟩:=(H.on (Fr.ext aw)).hf df an;exact sG
  .obtain rfl:k=n:=ad;clear aw hG;go_wp2_with(fail);go_ret;have aR:=aN.2;rw[LS (ay i.o)] at aR;exact⟨I,k,aE,rfl,aR.cap.1,aR.sl (λb an O=>⟨O,an⟩) (λb an O=>⟨O,an⟩),aN.1⟩
theorem qh(p:bU)(w:World)(A:Mt)(n c:Nat)(h:(dy p).rep w (aq w) [.bool p.param,.int .i64 p.index,.slice A n c]) :
  Calls prog 95 #[.agg #[.bool p.param,.int .i64 p.index,.slice A n c]] w λe ab=>∃I a6 aE,e=.returned (.agg #[.bool p.param,.int .i64 p.index,.slice I a6 aE])/\(dy p).rep ab (fresh w ab) [.bool p.param,.int .i64 p.index,.slice I a6 aE]/\Ext w ab:=by
 obtain⟨A2,n2,c2,e,hc,hs⟩:=eh.1 h;simp only[List.cons.injEq,and_true,true_and] at e;injection e with be co bD;subst be co bD;have H:=ae hs;have hl:p.at_.toList.length<=100000:=by cases p.at_<;>simp
 clear h hs hc;generalize i:p.param=pb;generalize j:p.index=pi;have ct:=ag i j;clear i j;go_enter func95,ntmps95;go_upto_region 1 with(fail);generalize ba:World.alloc _ _=W;have a2:=h9 ba;have bN:=gb ba;have f:=fG ba;have ah:=bF a2 bN f (H.on (Fr.ext a2));have cN:=f.lt;obtain⟨a0,ai,af⟩:=bN.two;clear ba a2 bN f;go_wp2_with(fail);refine(qf _ hl W _ _ _ ah.2.2.2).mono ?_;rintro e aS ⟨b4,ci,zc,rfl,bO,cU,aO⟩;have cq:=aO.size;have cK:=ah.2.1.aj aO;have aj:=ah.2.2.1.aj aO;have H1:=cL (ah.1.trans aO) bO cU cK aj;clear a0 ai af;obtain⟨a0,ai,af⟩:=cK.two;clear cK aj aO bO cU;go_upto_region 2 with(fail);generalize hX:World.setCell _ _ _=X;have J:=cp hX;have aw:Ext w X:=Fr.low (M:=λb=>b=w.heap.size) (Fr.trans (Fr.mono H1.1 λ_ h=>h.elim) J) λb O=>ad;have aQ:au X w 119 #[pb,pi,.slice b4 ci zc]:=hX▸H1.2.2.2.1.aN 2 _;have cv:au X (w.heap.size+1) 119 #[false,(0:Int),()]:=H1.2.2.2.2.on J ad;have aN:=az aw J cv;clear hX a0 ai af;obtain⟨a0,ai,af⟩:=aQ.two;obtain⟨bl,aD,aP⟩:=cv.two;clear J aw aQ cv;go_wp2_with(fail);generalize hX:World.setCell _ _ _=Y;obtain⟨bH,bG,bx⟩:=bA (w:=w) [pb,pi,.slice b4 ci zc] (by rfl) aN.2.2 aN.1 ad hX;have bC:=ag bG bx;clear hX bG bx a0 ai af bl aD aP;obtain⟨bl,aD,aP⟩:=bH.two;refine Mn (v:=.agg #[pb,pi,.slice b4 ci zc]) (by simp[results,Tryz.results95,go_sem,bl]) rfl ?_;have av:w+1<aS.heap.size:=ad;refine⟨b4,ci,zc,rfl,?_,bC.1⟩;rw[<-ct.1,<-ct.2]
 refine eh.2 ⟨b4,ci,zc,rfl,H1.2.1,(H1.2.2.1.ai λb O=>(bC.2.block b (lV O.2 aN.2.1.size) (ay O.1)).trans (aN.2.1.block b O.2 (ay O.1))).mono λb O=>⟨by have:=O.1;omega,by have:=O.2;have:=aN.2.1.size;have:=bC.2.size;omega⟩⟩
structure rj(w:World)(s:ak)(t:Int)(f:al)(O bn hn cm da n fc:Nat)(IA:Mt)(i ic:Nat)(bw:Mt)(l lc:Nat):Prop where
 fault:s.fault=0
 t0:0<=t
 tn:t<hn
 lb:O<w.heap.size
 lf:cm<w.heap.size
 cell:w.cell? ⟨O,bn+t.toNat,none⟩=some (.slice (some ⟨cm,da,none⟩) (n+1) fc)
 c0:w.cell? ⟨cm,da+n*4,none⟩=some (.int .i64 f.proc)
 c1:w.cell? ⟨cm,da+n*4+1,none⟩=some (.int .i64 f.pc)
 c2:w.cell? ⟨cm,da+n*4+2,none⟩=some (.slice IA i ic)
 c3:w.cell? ⟨cm,da+n*4+3,none⟩=some (.slice bw l lc)
 K9:i<=ic
 lcs:l<=lc
 ints:Sl w (aq w) IA i (f.ints.map D.i)
 an:Sl w (aq w) bw l (f.an.map D.i)
 th:∃fs,s.threads[t.toNat]?=some (fs++[f])/\fs.length=n
 n1:n+1<=fc
 nb:n<=1000000
theorem rj.on{w ab:World}{s:ak}{t:Int}{f:al}{O bn hn cm da n fc:Nat}{IA:Mt}{i ic:Nat}{bw:Mt}{l lc:Nat}(h:rj w s t f O bn hn cm da n fc IA i ic bw l lc)(he:Ext w ab):rj ab s t f O bn hn cm da n fc IA i ic bw l lc:=
 ⟨h.fault,h.t0,h.tn,LL h.lb he.size,LL h.lf he.size,(he.cell h.lb λh=>h).trans h.cell,(he.cell h.lf λh=>h).trans h.c0,(he.cell h.lf λh=>h).trans h.c1,(he.cell h.lf λh=>h).trans h.c2,(he.cell h.lf λh=>h).trans h.c3,h.K9,h.lcs,h.ints.on (Fr.ext he),h.an.on (Fr.ext he),h.th,h.n1,h.nb⟩
theorem lP.top{w:World}{s:ak}{GA:Mt}{gn:Nat}(h:lP w (aq w) s GA gn TA tn HA hn)(b1:Small s){f:al}(ht:ey s t=some f):
  ∃O bn cm da n fc IA i ic bw l lc,HA=some ⟨O,bn,none⟩/\rj w s t f O bn hn cm da n fc IA i ic bw l lc:=by
 obtain⟨h0,ac,fs,bK⟩:=jR ht;have hl:=h.h.1;rw[LO] at hl;have aj:=(List.getElem?_eq_some_iff.1 bK).1;obtain⟨O,bn,cY,FA,m,fc,rfl,T,r,hc,hm,J⟩:=h.h.m4 (k:=t.toNat) ad;rw[bK] at r;injection r with r;subst r;have cj:=J.1;simp at cj;obtain⟨cm,da,S,IA,i,ic,bw,l,lc,rfl,cy,H,c0,c1,c2,c3,ap,aV,bz,cI⟩:=J.rL (k:=fs.length) ad;simp at H;subst H;subst cj;exact⟨O,bn,cm,da,fs.length,fc,IA,i,ic,bw,l,lc,rfl,h0,ac,ad,T,cy,hc,c0,c1,c2,c3,ap,aV,bz,cI,⟨fs,bK,rfl⟩,hm,by have:=(b1.f _ (LN bK)).1;simp at this;omega⟩
theorem ya(g c:Value)(O bn hn hc cm da n fc:Nat)(t:Int)(w:World)(h0:0<=t)(an:t<hn)(dw:O<w.heap.size)(aZ:w.cell? ⟨O,bn+t.toNat,none⟩=some (.slice (some ⟨cm,da,none⟩) (n+1) fc))(aq:n<=1000000) :
  Calls prog 54 #[.agg #[g,c,.slice (some ⟨O,bn,none⟩) hn hc,(0:Int)],t] w λe ab=>e=.returned (.pointer (some ⟨cm,da+n*4,none⟩))/\Ext w ab:=by
 have q1:decide (t<0)=false:=by simp;omega
 have cJ:decide (t>=hn)=false:=by simp;omega
 have c9:(((n+1:Nat):Int) == 0)=false:=by simp;omega
 exact tL
theorem sa{w:World}{s:ak}{GA:Mt}{gn:Nat}(h:lP w (aq w) s GA gn TA tn HA hn)(ht:ey s t=none):
  s.fault≠0\/t<0\/(hn:Int)<=t\/(0<=t/\t<hn/\∃O bn FA fc,HA=some ⟨O,bn,none⟩/\O<w.heap.size/\w.cell? ⟨O,bn+t.toNat,none⟩=some (.slice FA 0 fc)):=by
 by_cases h0:s.fault≠0
 .exact .inl h0
 by_cases ac:t<0
 .exact .inr (.inl ac)
 by_cases ap:(hn:Int)<=t
 .exact .inr (.inr (.inl ap))
 refine .inr (.inr (.inr ⟨ad,ad,?_⟩));obtain⟨O,bn,fs,FA,m,fc,rfl,T,bK,hc,hm,J⟩:=h.h.m4 (k:=t.toNat) ad;unfold ey at ht;rw[if_neg ad,bK] at ht;have cI:fs=[]:=by simpa using ht
 have cj:=J.1;rw[cI] at cj;simp at cj;subst cj;exact⟨O,bn,FA,fc,rfl,T,hc⟩
theorem y1(s:ak)(GA TA HA:Mt)(gn gc tn tc hn hc:Nat)(t:Int)(w:World)(h:lP w (aq w) s GA gn TA tn HA hn)(ht:ey s t=none) :
  Calls prog 54 #[.agg #[.slice GA gn gc,.slice TA tn tc,.slice HA hn hc,.int .i64 s.fault],t] w λe ab=>e=.returned (.pointer none)/\Ext w ab:=by
 have f:=sa h ht;clear h ht;generalize aL:s.fault=z at *;clear aL;by_cases h0:z=0
 case neg=>
  have b8:(z != 0)=true:=by simpa using h0
  clear f h0;exact tL
 subst h0;rcases f with h|h|h|⟨ac,ap,O,bn,FA,fc,rfl,T,aZ⟩
 .exact absurd rfl h
 .have q1:decide (t<0)=true:=by simpa using h
  clear h;exact tL
 .have q1:decide (t<0)=false:=by simp;omega
  have cJ:decide (t>=hn)=true:=by simpa using h
  clear h;exact tL
 .have q1:decide (t<0)=false:=by simp;omega
  have cJ:decide (t>=hn)=false:=by simp;omega
  exact tL
theorem lq{w:World}{s:ak}{f:al}{cm da:Nat}{IA:Mt}{i ic:Nat}{bw:Mt}(h:rj w s t f O bn hn cm da n fc IA i ic bw l lc)(g c:Value)(hc:Nat):
  Calls prog 54 #[.agg #[g,c,.slice (some ⟨O,bn,none⟩) hn hc,.int .i64 s.fault],t] w λe ab=>e=.returned (.pointer (some ⟨cm,da+n*4,none⟩))/\Ext w ab:=by
 rw[h.fault];exact ya g c O bn hn hc cm da n fc t w h.t0 h.tn h.lb h.cell h.nb
namespace Cs
theorem lU(h:p:=by
 obtain⟨a0,ai,af⟩:=aQ.two;obtain⟨bl,aD,aP⟩:=cv.two;replace aZ:=(aw.cell (j:=bn+t.toNat) dw λh=>h).trans aZ
 replace c0:=(aw.cell (j:=da+n*4) cy λh=>h).trans c0
 replace c1:=(aw.cell (j:=da+n*4+1) cy λh=>h).trans c1
 replace c2:=(aw.cell (j:=da+n*4+2) cy λh=>h).trans c2
 replace c3:=(aw.cell (j:=da+n*4+3) cy λh=>h).trans c3
 obtain⟨br,a3⟩:=aJ aw cv;clear ba aw aQ cv dw cy;go_wp2_with(fail);generalize hX:World.setCell _ _ _=X;obtain⟨bp,bu,cE⟩:=bA (w:=w) [.int .i64 f.proc,.int .i64 f.pc,.slice IA i ic,.slice bw l lc] (by rfl) a3.o br.o ad hX;have aN:=ae bu;clear hX bu cE a0 ai af bl aD aP c0 c1 c2 c3 aZ;obtain⟨bl,aD,aP⟩:=bp.two;refine Mn (v:=.tuple #[.agg #[.int .i64 f.proc,.int .i64 f.pc,.slice IA i ic,.slice bw l lc],true]) (by simp[results,Tryz.results123,go_sem,bl]) rfl ?_;exact⟨rfl,aN.o⟩
 ):p:=h
end Cs
open Cs in
theorem nJ{w:World}{s:ak}{f:al}{cm da:Nat}{IA:Mt}{i ic:Nat}{bw:Mt}(h:rj w s t f O bn hn cm da n fc IA i ic bw l lc)(g c:Value)(hc:Nat):
  Calls prog 123 #[.agg #[g,c,.slice (some ⟨O,bn,none⟩) hn hc,.int .i64 s.fault],t] w λe ab=>e=.returned (.tuple #[.agg #[.int .i64 f.proc,.int .i64 f.pc,.slice IA i ic,.slice bw l lc],true])/\Ext w ab:=by
 obtain⟨ac,h0,an,dw,cy,aZ,c0,c1,c2,c3,_,_,_,_,_,_,aq⟩:=h;rw[ac];have q1:decide (t<0)=false:=by simp;omega
 have cJ:decide (t>=hn)=false:=by simp;omega
 have c9:(((n+1:Nat):Int) == 0)=false:=by simp;omega
 clear ac;go_enter func123,ntmps123;exact lT
namespace Ct
theorem lU(h:p:=by
 obtain⟨a0,ai,af⟩:=aQ.two;obtain⟨bl,aD,aP⟩:=cv.two;replace aZ:=(aw.cell (j:=bn+t.toNat) T λh=>h).trans aZ
 have br:=ag aw cv;clear ba aw aQ cv;by_cases hm:m=0
 .subst hm;clear l;exact BQ
 .have c9:((m:Int) == 0)=false:=by simp;omega
  have dk:(z != 0)=true:=by simpa using l.resolve_left hm
  clear l hm;exact BQ
 ):p:=h
end Ct
open Ct in
theorem ze(s:ak)(GA TA HA:Mt)(gn gc tn tc hn hc:Nat)(t:Int)(w:World)(h:lP w (aq w) s GA gn TA tn HA hn)(ht:ey s t=none) :
  Calls prog 123 #[.agg #[.slice GA gn gc,.slice TA tn tc,.slice HA hn hc,.int .i64 s.fault],t] w λe ab=>e=.returned (.tuple #[.agg #[(0:Int),(0:Int),(),()],false])/\Ext w ab:=by
 have f:t<0\/(hn:Int)<=t\/(0<=t/\t<hn/\∃O bn FA m fc,HA=some ⟨O,bn,none⟩/\O<w.heap.size/\w.cell? ⟨O,bn+t.toNat,none⟩=some (.slice FA m fc)/\(m=0\/s.fault≠0)):=by
  by_cases ac:t<0
  .exact .inl ac
  by_cases ap:(hn:Int)<=t
  .exact .inr (.inl ap)
  refine .inr (.inr ⟨ad,ad,?_⟩);obtain⟨O,bn,fs,FA,m,fc,rfl,T,bK,hc,hm,J⟩:=h.h.m4 (k:=t.toNat) ad;refine⟨O,bn,FA,m,fc,rfl,T,hc,?_⟩;rcases sa h ht with aV|aV|aV|⟨_,_,a1,b1,cD,ck,he,_,S⟩
  .exact .inr aV
  .omega
  .omega
  .injection he with he;injection he with ar bJ;subst ar bJ;rw[hc] at S;injection S with S;injection S with _ S _;exact .inl S
 clear h ht;generalize aL:s.fault=z at *;clear aL;rcases f with h|h|⟨ac,ap,O,bn,FA,m,fc,rfl,T,aZ,l⟩
 .have q1:decide (t<0)=true:=by simpa using h
  exact Hk
 .have q1:decide (t<0)=false:=by simp;omega
  have cJ:decide (t>=hn)=true:=by simpa using h
  exact Hk
 .have q1:decide (t<0)=false:=by simp;omega
  have cJ:decide (t>=hn)=false:=by simp;omega
  go_enter func123,ntmps123;exact lT
structure UV where
 GA:Option Addr
 gn:Nat
 gc:Nat
 MA:Option Addr
 mn:Nat
 mc:Nat
 PA:Option Addr
 pn:Nat
 pc:Nat
structure SV where
 GA:Option Addr
 gn:Nat
 gc:Nat
 TA:Option Addr
 tn:Nat
 tc:Nat
 HA:Option Addr
 hn:Nat
 hc:Nat
abbrev UV.val(p:UV)(u:aA):Array Value:=#[.slice p.GA p.gn p.gc,.slice p.MA p.mn p.mc,.slice p.PA p.pn p.pc,.int .i64 u.main]
abbrev SV.val(q:SV)(s:ak):Array Value:=#[.slice q.GA q.gn q.gc,.slice q.TA q.tn q.tc,.slice q.HA q.hn q.hc,.int .i64 s.fault]
structure UV.Ok(p:UV)(w:World)(u:aA):Prop where
 at_:hP w (aq w) u p.GA p.gn p.MA p.mn p.PA p.pn
 gc:p.gn<=p.gc
 mc:p.mn<=p.mc
 pc:p.pn<=p.pc
structure SV.Ok(q:SV)(w:World)(s:ak):Prop where
 at_:lP w (aq w) s q.GA q.gn q.TA q.tn q.HA q.hn
 gc:q.gn<=q.gc
 tc:q.tn<=q.tc
 hc:q.hn<=q.hc
theorem UV.Ok.on{p:UV}{w ab:World}{u:aA}(h:p.Ok w u)(he:Ext w ab):p.Ok ab u:=⟨h.at_.on he,h.gc,h.mc,h.pc⟩
theorem SV.Ok.on{q:SV}{w ab:World}{s:ak}(h:q.Ok w s)(he:Ext w ab):q.Ok ab s:=⟨h.at_.on he,h.gc,h.tc,h.hc⟩
theorem l2{u:aA}(hU:da u):elems u.af<=5000:=by
 have ac:=dU u.af;have ap:=cm hU.wK;omega
theorem aW.small{u:aA}{N:Nat}{s:ak}(hU:da u)(h:aW u N s)(hD:N<=100000):Small s:=by
 refine⟨by have:=h.dv;have:=hU.oj;omega,by have:=h.table;have:=cm hU.wK;omega,by have:=h.vk;omega,λt ht=>⟨by have:=(h.fB t ht).1;omega,λf J=>?_⟩⟩;obtain⟨p,hp,_,ac,ap⟩:=((h.fB t ht).2 f J).ex;have:=hU.procs p (LN hp);have:=this.ints;have:=(hU.procs p (LN hp)).an;omega
section
variable {u:aA} {N:Nat} {s:ak} {f:al} {cn:cM} {pl:bU} {w:World} {GA MA IA QA:Mt} {gn gc mn mc i ic qm qc:Nat}
theorem EE(hU:da u)(hS:aW u N s)(hF:cf u f)(hp:u.procs[f.proc.toNat]?=some cn)(hx:c4 (bx u) cn.locals cn.an pl)(j:pl.param=false)
  (hm:Sl w (aq w) MA mn (u.af.map eK)) (aR:Sl w (aq w) GA gn (s.globals.map D.i)) (aX:Sl w (aq w) IA i (f.ints.map D.i)) (bK:(dy pl).rep w (aq w) [.bool pl.param,.int .i64 pl.index,.slice QA qm qc]) :
  (qm=0/\cV u s f pl=(0,0))\/∃(e:VE) (k:Nat) (m:bM) (b o:Nat) (c0 c1 c2 c3:Value),QA=some ⟨b,o,none⟩/\qm=1/\pl.index=(k:Nat)/\zt w MA mn u.af GA IA gn i s.globals f.ints e k m b o c0 c1 c2 c3/\nV s.globals f.ints e/\cV u s f pl=idx m.size (ev s.globals f.ints e):=by
 rcases hx with⟨ac,_⟩|⟨_,m,ap,aV,bz,cI⟩
 .rw[j] at ac;cases ac
 obtain⟨A2,n2,c2,e,_,hs⟩:=eh.1 bK;simp only[List.cons.injEq,and_true,true_and] at e;injection e with be co bD;subst be co bD;have aN:u.af[pl.index.toNat]?=some m:=aV;by_cases aL:0<m.size
 .obtain⟨x,hx,oE⟩:=bz aL;right;rw[hx] at hs;simp only[Option.toList_some,LQ,Me] at hs;obtain rfl:qm=1:=hs.1.symm;obtain⟨b,o,ci,aK,a4,E,rfl,O,a5,c0,c1,c2,c3⟩:=hs.E2 (df x);obtain⟨bn,aZ,_⟩:=x2 hS hF hp oE;have sZ:=aR.1;have a6:=aX.1;have cz:=hm.1;rw[LO] at sZ a6 cz;have aj:=(List.getElem?_eq_some_iff.1 aN).1;refine⟨x,pl.index.toNat,m,b,o,ci,aK,a4,E,rfl,rfl,ad,⟨⟨aR.ints,aX.ints,by rw[<-sZ,<-a6];exact bn,kI x _ a5⟩,hm.mM,ad,aN,O,c0,c1,c2,c3⟩,aZ,?_⟩;unfold cV;rw[hx,aN];rfl
 .left;rw[cI aL] at hs;refine⟨hs.1.symm,?_⟩;unfold cV;rw[cI aL]
theorem IC(hU:da u)(hS:aW u N s)(hF:cf u f)(hp:u.procs[f.proc.toNat]?=some cn)(hx:c4 (bx u) cn.locals cn.an pl)(j:pl.param=false)
  (hm:Sl w (aq w) MA mn (u.af.map eK)) (aR:Sl w (aq w) GA gn (s.globals.map D.i)) (aX:Sl w (aq w) IA i (f.ints.map D.i)) (bK:(dy pl).rep w (aq w) [.bool pl.param,.int .i64 pl.index,.slice QA qm qc]) :
  Calls prog 131 #[.agg #[false,.int .i64 pl.index,.slice QA qm qc],.slice MA mn mc,.slice GA gn gc,.slice IA i ic] w (gp w (cV u s f pl)):=by
 rcases EE hU hS hF hp hx j hm aR aX bK with⟨rfl,h⟩|⟨e,k,m,b,o,c0,c1,c2,c3,rfl,rfl,aj,hI,_,h⟩
 .rw[h];exact vn _ _ _ _ _ _ _ _
 .rw[h,aj];exact yw _ _ _ _ _ _ _ _ _ _ _ _ _ _ _ _ _ _ _ _ _ _ _ hI
theorem IK(hU:da u)(hS:aW u N s)(hF:cf u f)(hp:u.procs[f.proc.toNat]?=some cn)(hx:c4 (bx u) cn.locals cn.an pl)(j:pl.param=false)
  (hm:Sl w (aq w) MA mn (u.af.map eK)) (aR:Sl w (aq w) GA gn (s.globals.map D.i)) (aX:Sl w (aq w) IA i (f.ints.map D.i)) (bK:(dy pl).rep w (aq w) [.bool pl.param,.int .i64 pl.index,.slice QA qm qc]) :
  Calls prog 126 #[.agg #[false,.int .i64 pl.index,.slice QA qm qc],.slice MA mn mc,.slice GA gn gc,.slice IA i ic] w (gp w (cV u s f pl)):=by
 rcases EE hU hS hF hp hx j hm aR aX bK with⟨rfl,h⟩|⟨e,k,m,b,o,c0,c1,c2,c3,rfl,rfl,aj,hI,aZ,h⟩
 .rw[h];exact rf _ _ _ _ _ _ _ _
 .rw[h,aj];exact tg _ _ _ _ _ _ _ _ _ _ _ _ _ _ _ _ _ _ _ _ _ _ _ hI aZ
end
theorem iD{u:aA}{s:ak}{f:al}{pl:bU}(h:ey s t=some f):x0 u s t pl=bH u s f pl:=by unfold x0;rw[h]
theorem rC{u:aA}{s:ak}{f:al}{pl:bU}(h:pl.param=true):bH u s f pl=(f.an.getD pl.index.toNat 0,0):=by unfold bH;rw[if_pos h]
theorem yI{u:aA}{s:ak}{f:al}{pl:bU}(h:pl.param=false)(J:(cV u s f pl).2≠0):bH u s f pl=(0,(cV u s f pl).2):=by unfold bH;rw[if_neg (by simp[h]),if_pos J]
theorem pQ{u:aA}{s:ak}{f:al}{pl:bU}(h:pl.param=false)(J:(cV u s f pl).2=0):bH u s f pl=(e5 u.af pl.index+(cV u s f pl).1,0):=by unfold bH;rw[if_neg (by simp[h]),if_neg ad]
theorem Ej{u:aA}{s:ak}{f:al}{pl:bU}{nk:Int}(hU:da u)(hF:cf u f)(aj:nk<=f.an.length)(hx:c4 (bx u) nl nk pl)(h:pl.param=false)(J:(cV u s f pl).2=0):
  0<=e5 u.af pl.index+(cV u s f pl).1/\e5 u.af pl.index+(cV u s f pl).1<=5000:=by
 have ac:=(jB (s:=s) hU hF aj hx).2;rw[pQ h J] at ac;have:=l2 hU;have:=ac rfl;simp only at this;omega
theorem E6{u:aA}{f:al}{pl:bU}{w:World}{bw:Mt}(hx:c4 (bx u) nl f.an.length pl)(h:pl.param=true)(hl:Sl w (aq w) bw l (f.an.map D.i)):
  0<=pl.index/\pl.index<l/\∃b o,bw=some ⟨b,o,none⟩/\b<w.heap.size/\w.cell? ⟨b,o+pl.index.toNat,none⟩=some (.int .i64 (f.an.getD pl.index.toNat 0)):=by
 rcases hx with⟨_,ac,ap,_⟩|⟨ac,_⟩
 .have hn:=hl.1;rw[LO] at hn;obtain⟨b,o,x,bG,O,hx,hc⟩:=hl.ints.int (k:=pl.index.toNat) ad;refine⟨ac,ad,b,o,bG,O,?_⟩;rw[List.getD_eq_getElem?_getD,hx];exact hc
 .rw[h] at ac;cases ac
structure Jc(u:aA)(s:ak)(t:Int)(f:al)(pl:bU)(N:Nat)(w:World)(p:UV)(q:SV)(QA:Mt)(qm qc:Nat):Prop where
 hU:da u
 hS:aW u N s
 sm:Small s
 ht:ey s t=some f
 hx:∃cn,u.procs[f.proc.toNat]?=some cn/\c4 (bx u) cn.locals cn.an pl
 u:p.Ok w u
 s:q.Ok w s
 pl:(dy pl).rep w (aq w) [.bool pl.param,.int .i64 pl.index,.slice QA qm qc]
theorem cf.s6{u:aA}{f:al}{cn:cM}(hF:cf u f)(hp:u.procs[f.proc.toNat]?=some cn):(f.an.length:Int)=cn.an:=by
 obtain⟨p,h,_,_,ap⟩:=hF.ex;rw[hp] at h;injection h with h;rw[h];exact ap
namespace Cu
theorem A8(h:p:=by
 clear k Q m aW bj a0 ai af bq am aG d0 aK aM c2 c3;obtain⟨a0,ai,af⟩:=((ah.2.1.aj a8.1).aj a8.2).two;obtain⟨d0,aK,aM⟩:=((ah.2.2.2.1.aj a8.1).aj a8.2).two;refine dX hK ?_;clear hK K
 iterate 5 refine pf ?_
 refine aF ?_;by_cases aL:z=0
 .have q5:(z != 0)=false:=by simpa using aL
  have b1:=bt.1 aL;have I:=ae (bt.2.2 aL);subst aL;generalize aQ:e5 u.af pl.index=B at *;have b9:=ae aQ;clear aQ bt;go_wp2_with(fail);refine(D9 MA mn mc u.af pl.index aT ((ah.2.2.2.2.1.on a8.1).on a8.2).at_.m.mM aN.1.wK aC).mono ?_;rintro e b7 ⟨rfl,aE⟩;rw[b9.o];have cd:=ae (((ah.1.trans a8.1).trans a8.2).trans (Fr.of aE));clear aE a0 ai af d0 aK aM;go_wp2
  go_ret2
  exact gp.mk' I.o (Fr.ext cd.o)
 .have q5:(z != 0)=true:=by simpa using aL
  have I:=ae (bt.2.1 aL);clear aL bt;go_wp2_with(fail)
  go_ret2
  exact gp.mk' I.o (Fr.ext ((ah.1.trans a8.1).trans a8.2))
 ):p:=h
theorem AG(h:p:=by
 refine(lq aa.o _ _ _).mono ?_;rintro e aS ⟨rfl,aO⟩;have ab:=ae (aa.on aO);have bB:=ae aO;clear a0 ai af bq am aG d0 aK aM;obtain⟨a0,ai,af⟩:=(ah.2.1.aj aO).two;obtain⟨bq,am,aG⟩:=(ah.2.2.1.aj aO).two;obtain⟨d0,aK,aM⟩:=(ah.2.2.2.1.aj aO).two;have cy:=ab.lf;have c2:=ab.c2;have c3:=ab.c3;clear aO aa
 cases j:pl.param with
 | true=>
  rw[j] at d0;obtain⟨cS,cQ,lb,lo,rfl,cq,cx⟩:=E6 aN.2.2.2.2.2 j ab.an;have aj:=rC (u:=u) (s:=s) (f:=f) j;generalize hV:f.an.getD pl.index.toNat 0=V at *;have a3:=ae aj;have q1:decide (pl.index<0)=false:=by simp;omega
  have cJ:decide (pl.index>=l)=false:=by simp;omega
  clear aj hV;go_upto_region 5 with(fail);refine eJ (λ_=>False) [(0,3),(1,0),(2,3),(3,3),(4,3),(5,0),(6,3),(7,3),(8,3),(9,0),(10,3),(11,3),(12,3)] ?_;refine pf ?_;refine ph ?_
  iterate 3 refine pf ?_
  refine ph ?_
  iterate 3 refine pf ?_
  refine ph ?_
  iterate 3 refine pf ?_
  refine aF ?_;go_upto_region 7 with(fail);refine eJ (λ_=>False) [(0,3),(1,3),(2,3),(3,0),(4,3),(5,0),(6,3),(7,0),(8,3),(9,3)] ?_
  iterate 3 refine pf ?_
  refine bJ (v:=?_) rfl (by rfl) (λV hV=>?_) ?_;rotate_left
  .obtain⟨hVc,hVf⟩:=Fr.jt hV
   (go_simp<;>with_reducible rfl)
  try simp only[PU]
  refine pf ?_;refine bJ (v:=?_) rfl (by rfl) (λV hV=>?_) ?_;rotate_left
  .obtain⟨hVc,hVf⟩:=Fr.jt hV
   (go_simp<;>with_reducible rfl)
  try simp only[PU]
  refine pf ?_;refine bJ (v:=?_) rfl (by rfl) (λV hV=>?_) ?_;rotate_left
  .obtain⟨hVc,hVf⟩:=Fr.jt hV
   (go_simp<;>with_reducible rfl)
  try simp only[PU]
  iterate 2 refine pf ?_
  refine aF ?_;go_wp2_with(fail)
  go_ret2
  exact gp.mk' a3.o (Fr.ext ((ah.1.trans bB.o).drew.drew))
 | false=>
  rw[j] at d0;go_upto_region 8 with(fail);refine eJ (λ_=>False) [(0,0),(1,3),(2,0),(3,3),(4,0),(5,3),(6,3),(7,3),(8,0),(9,2),(10,3),(11,3),(12,3),(13,3),(14,3)] ?_;refine ph ?_;refine pf ?_;refine ph ?_;refine pf ?_;refine ph ?_
  iterate 3 refine pf ?_
  refine ph ?_;refine ax rfl (λK hK=>?_);go_simp;have aW:Ext W aS.drew:=bB.drew;refine(IC (u:=u) (s:=s) (f:=f) (pl:=pl) aN.1 aN.2.1 aN.2.2.1 aN.2.2.2.1 aN.2.2.2.2.1 j (ah.2.2.2.2.1.on aW).at_.m (ah.2.2.2.2.2.1.on aW).at_.g (ab.on Mo.drew).ints (D.on ah.2.2.2.2.2.2 (Fr.ext aW))).mono ?_;rintro e aT ⟨rfl,bj⟩;have a8:=ag aW (Fr.of (M:=λ_=>False) bj);exact A7
 ):p:=h
theorem BE(h:p:=by
 have aC:=hu.mc;simp only at aC;have aN:=dm hU hS hF hp hx o;dsimp only[UV.val,SV.val];go_enter func100,ntmps100;exact AF
 ):p:=h
theorem gS(h:p:=by
 exact BD
 ):p:=h
end Cu
open Cu in
theorem qe(u:aA)(s:ak)(t:Int)(f:al)(pl:bU)(N:Nat)(w:World)(p:UV)(q:SV)(QA:Mt)(qm qc:Nat)(h:Jc u s t f pl N w p q QA qm qc) :
  Calls prog 100 #[.agg (p.val u),.agg (q.val s),t,.agg #[.bool pl.param,.int .i64 pl.index,.slice QA qm qc]] w (gp w (x0 u s t pl)):=by
 obtain⟨hU,hS,b1,ht,⟨cn,hp,hx⟩,hu,hs,bK⟩:=h;exact gR
namespace Cv
theorem A8(h:p:=by
 clear k Q m bj a0 ai af bq am aG d0 aK aM e0 be a6;obtain⟨a0,ai,af⟩:=((ah.2.1.aj a8.1).aj a8.2).two;obtain⟨d0,aK,aM⟩:=((ah.2.2.2.1.aj a8.1).aj a8.2).two;by_cases aL:z=0
 .have q5:(z != 0)=false:=by simpa using aL
  have b1:=bt.1 aL;have I:=ae (bt.2.2 aL);subst aL;generalize aQ:e5 u.af pl.index=B at *;have b9:=ae aQ;clear aQ bt;go_wp2_with(fail);refine(uG MA mn mc u.af pl.index aT ((ah.2.2.2.2.1.on a8.1).on a8.2).at_.m.mM aN.1.wK).mono ?_;rintro e b7 ⟨rfl,aE⟩;rw[b9.o];have cd:=ae (((ah.1.trans a8.1).trans a8.2).trans (Fr.of aE));clear aE a0 ai af d0 aK aM;go_wp2
  go_ret2
  exact gp.mk' I.o (Fr.ext cd.o)
 .have q5:(z != 0)=true:=by simpa using aL
  have I:=ae (bt.2.1 aL);clear aL bt;go_wp2_with(fail)
  go_ret2
  exact gp.mk' I.o (Fr.ext ((ah.1.trans a8.1).trans a8.2))
 ):p:=h
theorem AG(h:p:=by
 refine(nJ aa.o _ _ _).mono ?_;rintro e aS ⟨rfl,aO⟩;have ab:=ae (aa.on aO);have bB:=ae aO;clear a0 ai af bq am aG d0 aK aM aO aa;obtain⟨a0,ai,af⟩:=(ah.2.1.aj bB.o).two;obtain⟨bq,am,aG⟩:=(ah.2.2.1.aj bB.o).two;obtain⟨d0,aK,aM⟩:=(ah.2.2.2.1.aj bB.o).two
 cases j:pl.param with
 | true=>
  rw[j] at d0;obtain⟨cS,cQ,lb,lo,rfl,cq,cx⟩:=E6 aN.2.2.2.2.2 j ab.an;have aj:=rC (u:=u) (s:=s) (f:=f) j;generalize hV:f.an.getD pl.index.toNat 0=V at *;have a3:=ae aj;clear aj hV;go_wp2_with(fail)
  go_ret2
  exact gp.mk' a3.o (Fr.ext ((ah.1.trans bB.o).alloc _))
 | false=>
  rw[j] at d0;go_upto_region 4 with(fail);generalize hV:World.alloc _ _=V;have bo:=aU hV;have aX:=aI hV;have aW:Ext W V:=bB.trans bo;have cc:=ag aW bo;clear hV aW a0 ai af bq am aG d0 aK aM;obtain⟨a0,ai,af⟩:=(ah.2.1.aj cc.1).two;obtain⟨bq,am,aG⟩:=(ah.2.2.1.aj cc.1).two;obtain⟨d0,aK,aM⟩:=(ah.2.2.2.1.aj cc.1).two;obtain⟨e0,be,a6⟩:=aX.two;rw[j] at d0;clear bo aX;go_wp2_with(fail);refine(IK (u:=u) (s:=s) (f:=f) (pl:=pl) aN.1 aN.2.1 aN.2.2.1 aN.2.2.2.1 aN.2.2.2.2.1 j (ah.2.2.2.2.1.on cc.1).at_.m (ah.2.2.2.2.2.1.on cc.1).at_.g (ab.on cc.2).ints (D.on ah.2.2.2.2.2.2 (Fr.ext cc.1))).mono ?_;rintro e aT ⟨rfl,bj⟩;have a8:=ag cc.1 (Fr.of (M:=λ_=>False) bj);exact A7
 ):p:=h
theorem BE(h:p:=by
 have aN:=dm hU hS hF hp hx o;dsimp only[UV.val,SV.val];go_enter func81,ntmps81;exact AF
 ):p:=h
theorem gS(h:p:=by
 exact BD
 ):p:=h
end Cv
open Cv in
theorem qz(u:aA)(s:ak)(t:Int)(f:al)(pl:bU)(N:Nat)(w:World)(p:UV)(q:SV)(QA:Mt)(qm qc:Nat)(h:Jc u s t f pl N w p q QA qm qc) :
  Calls prog 81 #[.agg (p.val u),.agg (q.val s),t,.agg #[.bool pl.param,.int .i64 pl.index,.slice QA qm qc]] w (gp w (x0 u s t pl)):=by
 obtain⟨hU,hS,b1,ht,⟨cn,hp,hx⟩,hu,hs,bK⟩:=h;exact gR
structure IV where
 eo:Int
 en:Int
 es:ByteArray
 EA:Option Addr
 em:Nat
 ec:Nat
 QA:Option Addr
 qm:Nat
 qc:Nat
 IA:Option Addr
 i:Nat
 ic:Nat
 KA:Option Addr
 k:Nat
 kc:Nat
abbrev IV.val(v:IV)(x:aC):Array Value:=#[.int .i64 x.op,.int .i64 x.target,.bool x.dv,.int .i64 v.eo,.int .i64 v.en,.string v.es,.slice v.EA v.em v.ec,.bool x.place.param,.int .i64 x.place.index,.slice v.QA v.qm v.qc,.slice v.IA v.i v.ic,.slice v.KA v.k v.kc]
structure IV.Ok(v:IV)(w:World)(x:aC):Prop where
 expr:(oD x.expr).rep w (aq w) [.int .i64 v.eo,.int .i64 v.en,.string v.es,.slice v.EA v.em v.ec]
 place:(dy x.place).rep w (aq w) [.bool x.place.param,.int .i64 x.place.index,.slice v.QA v.qm v.qc]
 ints:Sl w (aq w) v.IA v.i (x.ints.map bm)
 Iy:v.i<=v.ic
 places:Sl w (aq w) v.KA v.k (x.places.map dy)
 IB:v.k<=v.kc
theorem IV.Ok.on{v:IV}{w ab:World}{x:aC}(h:v.Ok w x)(he:Ext w ab):v.Ok ab x:=
 ⟨D.on h.expr (Fr.ext he),D.on h.place (Fr.ext he),h.ints.on (Fr.ext he),h.Iy,h.places.on (Fr.ext he),h.IB⟩
def G2(w:World)(x:aC)(e:Ending)(ab:World):Prop:=∃v:IV,e=.returned (.tuple #[.agg (v.val x),.bool true])/\v.Ok ab x/\Ext w ab
theorem ug{u:aA}{s:ak}{f:al}{cn:cM}(h:ey s t=some f)(hp:u.procs[f.proc.toNat]?=some cn)(hx:cn.code[f.pc.toNat]?=some x):ek u s t=some x:=by
 unfold ek;rw[h];simp only[Option.bind_some,hp,hx]
structure H2(u:aA)(s:ak)(t:Int)(f:al)(cn:cM)(x:aC)(w:World)(p:UV)(q:SV):Prop where
 sm:Small s
 ht:ey s t=some f
 hp:u.procs[f.proc.toNat]?=some cn
 hx:cn.code[f.pc.toNat]?=some x
 p0:0<=f.proc
 c0:0<=f.pc
 il:x.ints.length<=200
 kl:x.places.length<=200
 u:p.Ok w u
 s:q.Ok w s
theorem hP.code{w:World}{u:aA}{GA MA PA:Mt}{gn mn pn:Nat}(h:hP w (aq w) u GA gn MA mn PA pn){f:al}{cn:cM}(hp:u.procs[f.proc.toNat]?=some cn)(hx:cn.code[f.pc.toNat]?=some x)(p0:0<=f.proc)(c0:0<=f.pc):
  ∃b o Q co n c,∃v:IV,PA=some ⟨b,o,none⟩/\b<w.heap.size/\f.proc<pn/\w.cell? ⟨b,o+f.proc.toNat*5+4,none⟩=some (.slice (some ⟨Q,co,none⟩) n c)/\Q<w.heap.size/\f.pc<n/\v.Ok w x/\∀j u,(v.val x)[j]?=some u->w.cell? ⟨Q,co+f.pc.toNat*12+j,none⟩=some u:=by
 have ac:=(List.getElem?_eq_some_iff.1 hp).1;have ap:=(List.getElem?_eq_some_iff.1 hx).1;have bi:=h.p.1;rw[LO] at bi;obtain⟨b,o,cV,S,n,c,rfl,O,cD,_,_,_,_,hc,aY,hs⟩:=h.proc (k:=f.proc.toNat) ad;rw[hp] at cD;injection cD with cD;subst cD;have cg:=hs.1;rw[LO] at cg;obtain⟨Q,co,d,cs,eo,en,es,EA,em,ec,QA,qm,qc,IA,i,ic,KA,m,mc,rfl,r,g,aX,bd⟩:=hs.EH (k:=f.pc.toNat) ad;rw[hx] at g;injection g with g;subst g;refine⟨b,o,Q,co,n,c,⟨eo,en,es,EA,em,ec,QA,qm,qc,IA,i,ic,KA,m,mc⟩,rfl,O,ad,hc,r,ad,⟨aX.expr,aX.place,aX.ints,aX.Iy,aX.places,aX.IB⟩,λj u hu=>bd j u ?_⟩;rw[aX.cells];simpa using hu
namespace Cw
theorem Bq(h:p:=by
 clear hV bo aX aW bm bL bh cZ r T;go_upto_region 4 with(fail);refine eJ (λ_=>False) [(0,3),(1,0),(2,3),(3,0),(4,3),(5,3),(6,0),(7,3),(8,0),(9,3),(10,0),(11,2),(12,3)] ?_;refine pf ?_;refine ph ?_;refine pf ?_;refine ph ?_
 iterate 2 refine pf ?_
 refine ph ?_;refine pf ?_;refine ph ?_;refine pf ?_;refine ph ?_;refine ax rfl (λK hK=>?_);go_simp;refine dX hK ?_;clear hK K;refine pf ?_;refine aF ?_;generalize hX:World.setCell _ _ _=X;obtain⟨bp,bu,cE⟩:=bA (w:=w) [.int .i64 x.op,.int .i64 x.target,.bool x.dv,eo,en,es,.slice EA em ec,.bool x.place.param,.int .i64 x.place.index,.slice QA qm qc,.slice dn j dj,.slice KA k kc] (by rfl) cc.2.1 cc.1 ad hX;have aN:=ae bu;clear hX bu cE a0 ai af d0 aK aM bl aD aP dg cx bY b9 H cf cR dO ce cg b5 ca be;obtain⟨bl,aD,aP⟩:=bp.two;clear bp;go_wp2_with(fail);refine Mn (v:=.tuple #[.agg #[.int .i64 x.op,.int .i64 x.target,.bool x.dv,eo,en,es,.slice EA em ec,.bool x.place.param,.int .i64 x.place.index,.slice QA qm qc,.slice dn j dj,.slice KA k kc],true]) (by simp[results,Tryz.results76,go_sem,bl]) rfl ?_;exact⟨⟨eo,en,es,EA,em,ec,QA,qm,qc,dn,j,dj,KA,k,kc⟩,rfl,ah.2.2.2.2.1,aN.drew⟩
 ):p:=h
theorem gS(h:p:=by
 obtain⟨O,bn,cm,da,n,fc,IA,i,ic,bw,l,lc,e,hT⟩:=hs.at_.top b1 ht;simp only at e;subst e;obtain⟨pb,gU,Q,co,cT,b2,v,e,cZ,dW,dc,r,a6,bE,aZ⟩:=h0.at_.code hp hx p0 bz;replace dc:=(a2.cell cZ λh=>h).trans dc
 replace aZ:=λj u bd=>(a2.cell (j:=co+f.pc.toNat*12+j) r λh=>h).trans (aZ j u bd)
 replace cZ:=LL cZ a2.size
 replace r:=LL r a2.size
 clear h0 a2;simp only at e;subst e;simp only at dW;obtain⟨eo,en,es,EA,em,ec,QA,qm,qc,dn,j,dj,KA,k,kc⟩:=v;dsimp only[UV.val,SV.val,IV.val] at aZ ⊢;go_enter func76,ntmps76;go_upto_region 1 with(fail);generalize ba:World.alloc _ _=W;have aw:=lD ba;have bZ:=jx ba;have ck:=h6 ba;have cv:=jy ba;have ah:=gr aw bZ ck cv bE dc aZ;have aa:=ae (hT.on aw);obtain⟨bq,am,aG⟩:=ck.two;clear ba aw bZ ck cv hT hu hs b1 ht hp hx bE dc aZ;go_wp2_with(fail);refine(nJ aa.o _ _ _).mono ?_;rintro e aS ⟨rfl,aO⟩;have bB:=ae aO;clear bq am aG aO aa;go_upto_region 2 with(fail);generalize hV:World.alloc _ _=V;have bo:=aU hV;have aX:=aI hV;have aW:Ext W V:=bB.trans bo;have bm:Ext w V:=ah.1.trans aW;have bL:=ah.2.2.2.1.aj aW;have cc:=bF bm bL aW bo;obtain⟨a0,ai,af⟩:=(ah.2.1.aj aW).two;obtain⟨d0,aK,aM⟩:=aX.two;obtain⟨bl,aD,aP⟩:=bL.two;have T:=bm.size;have bg:pb<V:=ad;have bX:Q<V:=ad;have be:=(bm.cell (j:=gU+f.proc.toNat*5+4) cZ λh=>h).trans ah.2.2.2.2.2.1;have bh:∀j u,_->V.cell? ⟨Q,co+f.pc.toNat*12+j,none⟩=some u:=λj u bd=>(bm.cell (j:=co+f.pc.toNat*12+j) r λh=>h).trans (ah.2.2.2.2.2.2 j u bd);exact Bp
 ):p:=h
end Cw
open Cw in
theorem w5(u:aA)(s:ak)(t:Int)(f:al)(cn:cM)(x:aC)(S w:World)(p:UV)(q:SV)(h:H2 u s t f cn x w p q)(h0:p.Ok S u)(a2:Ext S w) :
  Calls prog 76 #[.agg (p.val u),.agg (q.val s),t] w λe ab=>∃v:IV,e=.returned (.tuple #[.agg (v.val x),true])/\v.Ok S x/\Ext w ab:=by
 obtain⟨b1,ht,hp,hx,p0,bz,c9,bP,hu,hs⟩:=h;exact gR
theorem uM(u:aA)(s:ak)(t:Int)(f:al)(cn:cM)(x:aC)(w:World)(p:UV)(q:SV)(h:H2 u s t f cn x w p q) :
  Calls prog 76 #[.agg (p.val u),.agg (q.val s),t] w (G2 w x):=
 (w5 u s t f cn x w w p q h h.u Mo).mono λ_ _ ⟨v,ac,ap,aV⟩=>⟨v,ac,ap.on aV,aV⟩
theorem Il:cn prog 120 119 (.agg #[false,(0:Int),()]) 3 40:=cn.mk' Tryz.underlying120 (by kernel_rfl) rfl ad
theorem jG{X V:World}{g:Nat}{t:TypeId}{cs:Array Value}(i:Nat)(vs:List Value)(aQ:au V g t cs)(hX:rJ g V i vs=X):au X g t (jg cs i vs)/\Fr (λb=>b=g) V X:=by
 subst hX;exact⟨la vs i V cs aQ,mI vs i V⟩
namespace Cx
theorem sF(h:p:=by
 refine pf ?_;refine ax rfl (λK hK=>?_);go_simp;refine dX hK ?_;clear hK K;refine aF ?_;generalize hX:World.setCell _ _ _=X;have a5:Ext w cS:=((cc.1.trans bc.1).trans bQ.1).trans P.2.2.1;obtain⟨bN,J⟩:=jG 3 [eo,en,es,.slice m ac S,.bool x.place.param,.int .i64 x.place.index,.slice R aJ ap,.slice L aX aL] P.2.2.2 hX;have aQ:au X aS 122 #[.int .i64 x.op,.int .i64 x.target,.bool x.dv,eo,en,es,.slice m ac S,.bool x.place.param,.int .i64 x.place.index,.slice R aJ ap,.slice L aX aL,.slice KA cO kc]:=by
  simpa[jg] using bN
 clear bN;have bS:=bc.1.size;have cQ:=bQ.1.size;have du:=P.2.2.1.size;have cb:V.drew.heap.size=V:=rfl;have dr:=J.size;have ch:D.rep X (λb=>aS.heap.size<b/\b<X.heap.size) (oD x.expr) [eo,en,es,.slice m ac S]:=
  D.aK (λb O=>(⟨by have:=O.1;omega,by have:=O.2;omega⟩:aS.heap.size<b/\b<X.heap.size)) _ _ (D.aS (λb O=>(J.block b (ay O.2) (ay O.1)).trans ((P.2.2.1.block b (ay O.2) λh=>h).trans (bQ.1.block b O.2 λh=>h))) _ _ bc.2)
 have cu:D.rep X (λb=>aS.heap.size<b/\b<X.heap.size) (dy x.place) [.bool x.place.param,.int .i64 x.place.index,.slice R aJ ap]:=
  D.aK (λb O=>(⟨by have:=O.1;omega,by have:=O.2;omega⟩:aS.heap.size<b/\b<X.heap.size)) _ _ (D.aS (λb O=>(J.block b (ay O.2) (ay O.1)).trans (P.2.2.1.block b O.2 λh=>h)) _ _ bQ.2)
 have cj:Sl X (λb=>aS.heap.size<b/\b<X.heap.size) L aX (x.ints.map bm):=
  (P.2.1.ai λb O=>J.block b O.2 (ay O.1)).mono λb O=>⟨by have:=O.1;omega,by have:=O.2;omega⟩
 have bu:Ext w X:=Fr.low (M:=λb=>b=aS.heap.size) (Fr.trans (Fr.mono a5 λ_ h=>h.elim) J) λb O=>ad;have br:=(((cc.2.2.1.aj bc.1).aj bQ.1).aj P.2.2.1).on J ad;have aN:=dm bu br ch cu cj P.1;have bp:=aQ;clear hX a5 J aQ bS cQ du dr cb ch cu cj bu br a0 ai af;obtain⟨a0,ai,af⟩:=bp.two;go_upto_region 8 with(fail);generalize hX:World.setCell _ _ _=Y;obtain⟨bN,J⟩:=jG 11 [()] bp hX;have bH:au Y aS 122 #[.int .i64 x.op,.int .i64 x.target,.bool x.dv,eo,en,es,.slice m ac S,.bool x.place.param,.int .i64 x.place.index,.slice R aJ ap,.slice L aX aL,()]:=by
  simpa[jg] using bN
 have bG:Ext w Y:=Fr.low (M:=λb=>b=aS.heap.size) (Fr.trans (Fr.mono aN.1 λ_ h=>h.elim) J) λb O=>by have:=bB.1.size;omega
 have cd:=J.size;have bC:=bF bG (aN.2.1.on J (ay bB.2.lt)) J bH;have av:=bB.2.lt;have b0:aS<X.heap.size:=by have:=bp.lt;omega
 clear hX bN J bH bG bp a0 ai af;go_wp2_with(fail);go_loopw [51] (λcA wr=>∃(k:Nat) (I:Mt) (aE:Nat),cA=.int .i64 k/\k<=cO/\Ext w wr/\Fr (λb=>b=aS.heap.size) Y wr/\au wr (w.heap.size+2) 122 #[(0:Int),(0:Int),false,(0:Int),(0:Int),Mq,(),false,(0:Int),(),(),()]/\
   au wr aS 122 #[.int .i64 x.op,.int .i64 x.target,.bool x.dv,eo,en,es,.slice m ac S,.bool x.place.param,.int .i64 x.place.index,.slice R aJ ap,.slice L aX aL,.slice I k aE]/\Gr (λb=>Y.heap.size<=b) Y.heap.size 119 3 wr I k aE ((x.places.take k).map dy)) (λcA _=>cO - (intOf cA).toNat)
 case atStart=>exact⟨0,none,0,rfl,ad,bC.1,Mo,bC.2.1,bC.2.2.2,Gr.nil _ _ _ _ _⟩
 case round=>
  obtain⟨k,I,aE,rfl,aj,aw,a3,cv,aQ,hG⟩:=hrel;have bU:=cL aw a3 cv aQ hG;have cl:=a3.size;by_cases an:k<cO
  .obtain⟨b,o,y,b4,ci,zc,rfl,O,bb,cK,cp,cX,bO,cU⟩:=(ah.2.2.2.2.1.places.on (Fr.ext aw)).o5 an;have a1:b<wr:=O;have ct:=az bb bO cU;clear aw a3 cv aQ hG bb bO cU O;go_upto_region 11 with(fail);generalize hU:World.alloc _ _=U;have cr:=aU hU;have c8:=aI hU;have cV:=cr.size;have bM:=bU.2.2.2.1.aj cr;have cB:=dm (bU.1.trans cr) (Fr.trans bU.2.1 (cr.mono λ_ h=>h.elim)) (bU.2.2.1.aj cr) bM (bU.2.2.2.2.aj cr) (eh.2 ⟨b4,ci,zc,rfl,ct.2.1,ct.2.2.on (Fr.ext cr)⟩:(dy y).rep U (aq U) [.bool y.param,.int .i64 y.index,.slice b4 ci zc]);obtain⟨d0,aK,aM⟩:=c8.two;obtain⟨a0,ai,af⟩:=bM.two;clear hU cr c8 bM cK cp cX a1;refine eJ (λ_=>False) [(0,3),(1,0),(2,0),(3,1),(4,1),(5,2),(6,3),(7,2)] ?_;refine pf ?_
   iterate 2 refine ph ?_
   refine aB rfl (λK hK=>?_);go_simp;refine(qh y _ b4 ci zc (D.on cB.2.2.2.2.2 (Fr.ext (Fr.refl _ U).drew))).mono ?_;rintro e v1 ⟨c5,dd,de,rfl,bR,ar⟩;have H1:=ag bR ar;refine dq hK (ar) ?_;clear hK K;have aO:Ext U v1:=Fr.aG ar;have b3:=cB.2.2.2.2.1.aj aO;have cq:=aO.size;have ao:∀b,(Value.slice I k aE).ownBlock=some b->b<U.heap.size:=λb O=>(cB.2.2.2.2.1.lt O).2;have hd:(dy y).rep v1 (lh (λb=>Y.heap.size<=b) v1 (.slice I k aE)) (#[.bool y.param,.int .i64 y.index,.slice c5 dd de]:Array Value).toList:=
    D.aK (λb O=>⟨by have:=O.1;have:U.drew.heap.size=U:=rfl;omega,O.2,λh=>by have:=ao b h;have:=O.1;have:U.drew.heap.size=U:=rfl;omega⟩) _ _ bR
   have aV:=ag b3 hd;clear bR ar b3 hd ao;refine rb ?_;refine ax rfl (λK hK=>?_);rw[if_pos (by rfl)];refine qS Il (.tmp 56) (.tmp 59) rfl aV.1 aV.2 rfl rfl rfl ad ad ad ?_;intro cC c3 v2 bT g2 cP db;have bv:∀b,(Value.slice I k aE).ownBlock=some b->Y.heap.size<=b:=λb O=>(aV.1.lt O).1;have bI:=(cB.2.2.2.1.aj aO).on g2 (λh=>by have:=bv _ h;omega);have cE:=(cB.2.2.1.aj aO).on g2 (λh=>by have:=bv _ h;omega);have a7:Ext w v2:=Fr.low (M:=λb=>(Value.slice I k aE).ownBlock=some b) (Fr.trans (Fr.mono (cB.1.trans aO) λ_ h=>h.elim) g2) λb O=>by have:=bv b O;omega
   have a2:Fr (λb=>b=aS.heap.size) Y v2:=(Fr.trans cB.2.1 (aO.mono λ_ h=>h.elim)).eZ (g2.below ad λb O hm=>by have:=bv b hm;omega);have bc:=cL a7 a2 cE bI bT;clear bT g2 cP db bv cE a7 a2 a0 ai af d0 aK aM;obtain⟨a0,ai,af⟩:=bI.two;refine dX hK ?_;clear hK K;refine pf ?_;refine ax rfl (λK hK=>?_);go_simp;refine dX hK ?_;clear hK K;refine aF ?_;generalize hX:World.setCell v2 _ _=Z;obtain⟨bN,bx⟩:=jG 11 [.slice cC (k+1) c3] bc.2.2.2.1 hX;have bs:au Z aS 122 #[.int .i64 x.op,.int .i64 x.target,.bool x.dv,eo,en,es,.slice m ac S,.bool x.place.param,.int .i64 x.place.index,.slice R aJ ap,.slice L aX aL,.slice cC (k+1) c3]:=by
    simpa[jg] using bN
   have N:=cL (Fr.low (M:=λb=>b=aS.heap.size) (Fr.trans (Fr.mono bc.1 λ_ h=>h.elim) bx) (λb O=>ad):Ext w Z) (Fr.trans bc.2.1 bx) (bc.2.2.1.on bx ad) bs (bc.2.2.2.2.cZ bx λb O _=>⟨ad,ad⟩);clear hX bx bN bs a0 ai af bI;go_wp2;go_roundw
   case rel=>exact⟨k+1,cC,c3,by go_num,ad,N.1,N.2.1,N.2.2.1,N.2.2.2.1,by rw[aY ct.1,LR];exact N.2.2.2.2⟩
   case measure=>exact aH
  .obtain rfl:k=cO:=ad;obtain⟨a0,ai,af⟩:=aQ.two;obtain⟨bl,aD,aP⟩:=cv.two;clear aw a3 cv aQ hG;go_wp2_with(fail);generalize hX:World.setCell _ _ _=Z;obtain⟨bs,a9,bf⟩:=bA (w:=w) [.int .i64 x.op,.int .i64 x.target,.bool x.dv,eo,en,es,.slice m ac S,.bool x.place.param,.int .i64 x.place.index,.slice R aJ ap,.slice L aX aL,.slice I k aE] (by rfl) bU.2.2.1 bU.1 ad hX;have bk:=ag a9 bf;clear hX a9 bf a0 ai af bl aD aP;obtain⟨bl,aD,aP⟩:=bs.two;clear bs;refine Mn (v:=.tuple #[.agg #[.int .i64 x.op,.int .i64 x.target,.bool x.dv,eo,en,es,.slice m ac S,.bool x.place.param,.int .i64 x.place.index,.slice R aJ ap,.slice L aX aL,.slice I k aE],true]) (by simp[results,Tryz.results49,go_sem,bl]) rfl ?_;have aR:=bU.2.2.2.2.cZ bk.2 λb O _=>⟨ad,ad⟩
   rw[LS (ay b6.2)] at aR;have cU:=bk.2.size;have gX:∀b,(aS.heap.size<b/\b<X.heap.size)->Z.heap[b]?=X.heap[b]?:=λb O=>(bk.2.block b ad ad).trans ((bU.2.1.block b ad ad).trans (bC.2.2.1.block b O.2 ad));have eL:∀b,(aS.heap.size<b/\b<X.heap.size)->aq Z b:=λb O=>by show b<Z.heap.size;omega
   exact⟨⟨eo,en,es,m,ac,S,R,aJ,ap,L,aX,aL,I,k,aE⟩,rfl,⟨D.aK eL _ _ (D.aS gX _ _ aN.2.2.1),D.aK eL _ _ (D.aS gX _ _ aN.2.2.2.1),(aN.2.2.2.2.1.ai gX).mono eL,aN.2.2.2.2.2,aR.sl (λb an O=>an) (λb an O=>an),aR.cap.1⟩,bk.1⟩
 ):p:=h
theorem dC(h:p:=by
 go_upto_region 5 with(fail);generalize hV:World.drew (World.alloc _ _)=V;have bo:Ext w V:=hV▸(bB.1.alloc _).drew;have b8:au V aS 122 #[.int .i64 x.op,.int .i64 x.target,.bool x.dv,eo,en,es,.slice EA em ec,.bool x.place.param,.int .i64 x.place.index,.slice QA qm qc,.slice dn j dj,.slice KA cO kc]:=hV▸Mp;have bL:au V (w.heap.size+2) 122 #[(0:Int),(0:Int),false,(0:Int),(0:Int),Mq,(),false,(0:Int),(),(),()]:=hV▸bB.2.aj ((Fr.refl _ aS).alloc _).drew;have ds:=b8.lt;have cc:=bF bo b8 bL (ah.2.2.2.2.1.on bo);clear hV bo bL a0 ai af dg cx bY b9 H cf cR dO ce cg b5 ca c0 c1 be;obtain⟨a0,ai,af⟩:=b8.two;clear b8;refine eJ (λ_=>False) [(0,3),(1,0),(3,3),(4,0),(6,3),(7,0),(2,1),(9,3),(5,1),(8,2),(10,2),(11,3),(12,2),(13,3),(14,2)] ?_;refine pf ?_;refine ph ?_;refine pf ?_;refine ph ?_;refine pf ?_;refine ph ?_;refine aB rfl (λK hK=>?_);go_simp;refine(y0 x.expr _ eo en es EA em ec (D.on cc.2.2.2.expr (Fr.ext (Fr.refl _ V).drew))).mono ?_;rintro e aT ⟨m,ac,S,rfl,z,bJ⟩;have bc:=ag (Fr.aG bJ) z;refine dq hK (bJ) ?_;clear hK K;refine pf ?_;clear z bJ;refine aB rfl (λK hK=>?_);go_simp;refine(qh x.place aT QA qm qc (D.on cc.2.2.2.place (Fr.ext bc.1))).mono ?_;rintro e b7 ⟨R,aJ,ap,rfl,bi,bK⟩;have bQ:=ag bK bi;refine dq hK (bK) ?_;clear hK K;clear bi bK;refine ax rfl (λK hK=>?_);go_simp
 refine(qf x.ints (ay b6.1) b7 dn j dj ((cc.2.2.2.ints.on (Fr.ext bc.1)).on (Fr.ext bQ.1))).mono ?_;rintro e cS ⟨L,aX,aL,rfl,a4,bj,dv⟩;obtain rfl:aX=j:=by have:=bj.1;simp at this;have:=b6.1;omega
 have bZ:=((cc.2.1.aj bc.1).aj bQ.1).aj dv;have P:=bF a4 bj dv bZ;clear a4 bj dv a0 ai af;obtain⟨a0,ai,af⟩:=bZ.two;clear bZ;refine dX hK ?_;clear hK K;exact sE
 ):p:=h
theorem Bq(h:p:=by
 have cy:=ab.lf;have c0:=ab.c0;have c1:=ab.c1;clear aO aW bh cZ r T;go_upto_region 4 with(fail);refine eJ (λ_=>False) [(0,3),(1,0),(2,3),(3,3),(4,3),(5,0),(6,3),(7,3),(8,0),(9,3),(10,3),(11,3),(12,0),(13,3),(14,0),(15,1),(16,2)] ?_;refine pf ?_;refine ph ?_
 iterate 3 refine pf ?_
 refine ph ?_
 iterate 2 refine pf ?_
 refine ph ?_
 iterate 3 refine pf ?_
 refine ph ?_;refine pf ?_;refine ph ?_;refine rb ?_;exact eS
 ):p:=h
theorem gS(h:p:=by
 obtain⟨O,bn,cm,da,n,fc,IA,i,ic,bw,l,lc,e,hT⟩:=hs.at_.top b1 ht;simp only at e;subst e;obtain⟨pb,gU,Q,co,cT,b2,v,e,cZ,dW,dc,r,a6,bE,aZ⟩:=hu.at_.code hp hx p0 bz;simp only at e;subst e;simp only at dW;obtain⟨eo,en,es,EA,em,ec,QA,qm,qc,dn,j,dj,KA,cO,kc⟩:=v;have bt:x.ints.length=j:=by have:=bE.ints.1;simpa using this
 have a8:x.places.length=cO:=by have:=bE.places.1;simpa using this
 have cz:j<=200:=ad;have cI:cO<=200:=ad;dsimp only[UV.val,SV.val,IV.val] at aZ ⊢;go_enter func49,ntmps49;go_upto_region 1 with(fail);generalize ba:World.alloc _ _=W;have aw:=lD ba;have bZ:=jx ba;have ck:=h6 ba;have cv:=jy ba;have ah:=gr aw bZ ck cv bE dc aZ;have aa:=ae (hT.on aw);have b6:=ag bt a8;obtain⟨bq,am,aG⟩:=ck.two;clear ba aw bZ ck cv hT hu hs b1 ht hp hx bE dc aZ bt a8 c9 bP;go_wp2_with(fail);refine(lq aa.o _ _ _).mono ?_;rintro e aS ⟨rfl,aO⟩;have ab:=ae (aa.on aO);have aW:Ext w aS:=ah.1.trans aO;have bB:=ag aW (ah.2.2.2.1.aj aO);clear bq am aG aa;obtain⟨a0,ai,af⟩:=(ah.2.1.aj aO).two;have T:=aW.size;have df:=bB.2.lt;have bg:pb<aS:=ad;have bX:Q<aS:=ad;have be:=(aW.cell (j:=gU+f.proc.toNat*5+4) cZ λh=>h).trans ah.2.2.2.2.2.1;have bh:∀j u,_->aS.cell? ⟨Q,co+f.pc.toNat*12+j,none⟩=some u:=λj u bd=>(aW.cell (j:=co+f.pc.toNat*12+j) r λh=>h).trans (ah.2.2.2.2.2.2 j u bd);exact Bp
 ):p:=h
end Cx
open Cx in
theorem um(u:aA)(s:ak)(t:Int)(f:al)(cn:cM)(x:aC)(w:World)(p:UV)(q:SV)(h:H2 u s t f cn x w p q) :
  Calls prog 49 #[.agg (p.val u),.agg (q.val s),t] w (G2 w x):=by
 obtain⟨b1,ht,hp,hx,p0,bz,c9,bP,hu,hs⟩:=h;exact gR
end Go.Proofs.YtpkfopfkdgkfkaaGreat

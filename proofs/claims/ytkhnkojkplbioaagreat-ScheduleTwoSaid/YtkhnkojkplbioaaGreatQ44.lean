/- Part 44 of the proof. No condition of its own. -/
import Derived.Test.YtkhnkojkplbioaaGreatQ33
import Derived.Test.YtkhnkojkplbioaaGreatQ41
import Derived.Test.YtkhnkojkplbioaaGreatQ43
namespace Go.Proofs.YtkhnkojkplbioaaGreat
open Go.RowKit Go.Proofs.Tryz
set_option maxRecDepth 1000000
set_option maxHeartbeats 25600000
set_option linter.unusedVariables false
theorem ER(A:L3)(n c:Nat)(l:List Int)(w:World)(h:cp (EF cP) 1 w w.heap.size A n l)(hc:n<=c):Calls prog 44 #[.slice A n c] w (kj w):=
 KO A n c l w h hc λK hK=>J2 w (.slice A n c) (λe6 a=>J3 w (.slice A n c) _ (λ_ _ d _ _ h=>by cases d<;>exact h) (λbE aJ ac au=>J4 w (.slice A n c) bE aJ ac au) e6 a) K hK
def IY(w:World)(e:Ending)(ab:World):Prop:=∃(u:ay) (a7 ar cg v b4 cX:L3) (hr de cC bz cq cZ d0 d1 d2 d3 d4 d5:Nat) (GA:L3) (gn gc:Nat) (MA:L3) (mn mc:Nat) (PA:L3) (pn pc:Nat),e=.returned (.tuple #[.agg #[.slice a7 hr d0,.slice ar de d1,.slice cg cC d2],.agg #[.slice GA gn gc,.slice MA mn mc,.slice PA pn pc,.int .i64 u.main],.agg #[.slice v bz d3,.slice b4 cq d4,.slice cX cZ d5]])/\tV u/\gn<=gc/\mn<=mc/\pn<=pc/\(uw u).rep ab (fresh w ab) [.slice GA gn gc,.slice MA mn mc,.slice PA pn pc,.int .i64 u.main]/\Ext w ab
namespace Dn
theorem dE{p:Prop}(h:p:=by
 go_wp2_with(fail);generalize T:World.setCell _ _ _=hO;obtain⟨ai,co,aa⟩:=dY (M:=λ_=>False) (w:=w) [.slice eF n0 c0,.slice bZ n1 c1,.slice A2 n2 c2] (by rfl) f ao.1 ad T;have an:=ao.2.2.1.on aa ad;have aH:=ao.2.2.2.on aa ad;have bg:Fr (λb=>b<w.heap.size+3) Z hO:=ao.2.1.trans (aa.mono λb O=>ad);have bh:=ag co bg;clear T co aa f bg ao bl aA aO;obtain⟨bl,aA,aO⟩:=an.two;obtain⟨am,ay,az⟩:=aH.two;obtain⟨t0,aF,aJ⟩:=ai.two;refine LU (v:=.tuple #[.agg #[.slice GA gn gc,.slice MA mn mc,.slice FA fn fc],.agg #[.slice g bT bY,.slice j dh cT,.slice i m o,.int .i64 (gq p).main],.agg #[.slice eF n0 c0,.slice bZ n1 c1,.slice A2 n2 c2]]) (by simp[results,Tryz.results14,go_sem,bl,am,t0]) rfl ?_;refine⟨gq p,?_⟩
 iterate 18 apply Exists.intro
 refine⟨g,bT,bY,j,dh,cT,i,m,o,rfl,⟨aP.o,ye p⟩,?_,?_,?_,?_,bh.1.drew⟩
 iterate 3
  .obtain⟨_,_,_,_,_,_,_,_,_,he,ac,au,aY,_⟩:=l6 b5.1;injection he with e1 he;injection he with e2 he;injection he with e3 he;injection e1 with _ ea eb;injection e2 with _ ec ed;injection e3 with _ ee s;omega
 have bI:=bh.2.size;have bA:(uw (gq p)).rep hO.drew (fresh X aU) [.slice g bT bY,.slice j dh cT,.slice i m o,.int .i64 (gq p).main]:=D.aS (λb O=>bh.2.drew.block b (aD O.2) (aD O.1)) _ _ b5.1;exact D.aL (λb O=>⟨by have:=O.1;omega,by have:=O.2;show b<hO.heap.size;omega⟩) _ _ bA
 ):p:=h
end Dn
open Dn in
theorem Fi(A:L3)(n c:Nat)(l:List Int)(w:World)(h:cp (EF cP) 1 w w.heap.size A n l)(hc:n<=c):Calls prog 14 #[.slice A n c] w (IY w):=by
 have H:=ae h;clear h;go_enter func14,ntmps14;go_upto_region 1 with(fail);generalize be:World.alloc _ _=W;have aw:=lC be;have bC:=jw be;have bD:=h1 be;have b4:=HI be;have c5:W.heap.size=w.heap.size+3:=by rw[<-be];simp
 have y:=H.c8 (Fr.ext aw) aw.size;have ah:=bJ aw bC bD b4;have b8:=ae y;clear be aw bC bD b4 y H;go_wp2_with(fail);refine(ER A n c l W b8.o hc).mono ?_;rintro e aS ⟨p,GA,gn,gc,MA,mn,mc,FA,fn,fc,rfl,a1,ar,cb,aB,a9,hm,J,aN⟩;have H1:=cJ a1 a9 hm J aN;have cr:=aN.size;clear a1 a9 hm J aN b8;go_upto_region 2 with(fail);generalize hX:World.alloc _ _=X;have cf:=aI hX;have b0:=aW hX;have f2:=b0.size;have al:=cf.lt;obtain⟨d0,aL,aM⟩:=cf.two;have G:hy X (av X) p GA gn MA mn FA fn:=⟨(Sl.al H1.2.1 λb O=>b0.block b O.2 (λh=>h)).mono λb O=>Ll O.2 f2,(Sl.al H1.2.2.1 λb O=>b0.block b O.2 (λh=>h)).mono λb O=>Ll O.2 f2,(Sl.al H1.2.2.2.1 λb O=>b0.block b O.2 (λh=>h)).mono λb O=>Ll O.2 f2⟩
 have z:=aE G cf (H1.2.2.2.2.trans b0);clear hX cf b0 G;go_wp2_with(fail);refine(Ey p H1.1 GA gn gc MA mn mc FA fn fc X z.1).mono ?_;rintro e aU ⟨g,bT,bY,j,dh,cT,i,m,o,rfl,b1,aZ⟩;have bN:=aZ.size;have I:=z.2.1.aj aZ;have bc:=aE b1 I (z.2.2.trans aZ);clear b1 aZ I d0 aL aM;go_upto_region 3 with(fail);generalize cu:World.alloc _ _=Y;have cF:=aI cu;have af:=aW cu;have bv:=af.size;have ap:=cF.lt;obtain⟨d0,aL,aM⟩:=cF.two;have b1:(uw (gq p)).rep Y (fresh X aU) [.slice g bT bY,.slice j dh cT,.slice i m o,.int .i64 (gq p).main]:=D.aS (λb O=>af.block b O.2 (λh=>h)) _ _ bc.1;have ab:hA Y (av Y) (gq p) g bT j dh i m:=by
  obtain⟨_,_,_,_,_,_,_,_,_,he,_,_,_,hu⟩:=l6 (D.aL (c9:=av Y) (λb O=>Ll O.2 bv) _ _ b1);injection he with ac he;injection he with au he;injection he with aY he;injection ac with bz O hc;injection au with u bj ca;injection aY with R aV U;subst bz O u bj R aV;exact hu
 have aj:=cJ b1 ab cF (bc.2.1.aj af) (bc.2.2.trans af);have aP:=ae (yd H1.1);clear cu cF af b1 ab bc;go_wp2_with(fail);refine(yJ (gq p) aP.o g bT bY j dh cT i m o Y aj.2.1).mono ?_;rintro e b6 ⟨eF,n0,c0,bZ,n1,c1,A2,n2,c2,k,rfl,a4⟩;have cQ:=a4.size;have bP:=bJ (D.aS (λb O=>a4.block b (Ll O.2 bv) (λh=>h)) _ _ aj.1) (aj.2.2.1.aj a4) (aj.2.2.2.1.aj a4) (aj.2.2.2.2.trans a4);clear a4 d0 aL aM aj;go_upto_region 4 with(fail);generalize bF:World.alloc _ _=Z;have bf:=aI bF;have L:=aW bF;have eQ:=L.size;have eQ:=L.size;have b1:=D.aS (λb O=>L.block b (Ll O.2 (LD bv cQ)) (λh=>h)) _ _ bP.1;have cF:=bP.2.1.aj L;have cf:=bP.2.2.1.aj L;have F:Ext W Z:=bP.2.2.2.trans L;have Q:=ah.2.1.aj F;have cz:=ah.2.2.1.aj F;have f:=ah.2.2.2.aj F;have b5:=ag b1 (ah.1.trans F);have bO:=aE cf cF bf;have a3:=ag cz f;obtain⟨bl,aA,aO⟩:=Q.two;have ak:=bf.lt;clear bF L b1 bP F cz f cf cF bf;refine eC (λb=>b<w.heap.size+3) [(0,0),(1,0),(2,0),(3,1),(4,1),(5,2)] ?_;refine bS (v:=?_) rfl (by rfl) (λV hV=>?_) ?_;rotate_left
 .obtain⟨d0,aL,aM⟩:=(bO.1.on (Fr.aF hV) ad).two
  (go_simp<;>with_reducible rfl)
 try simp only[PU]
 refine bS (v:=?_) rfl (by rfl) (λV hV=>?_) ?_;rotate_left
 .obtain⟨d0,aL,aM⟩:=(bO.2.1.on (Fr.aF hV) ad).two
  (go_simp<;>with_reducible rfl)
 try simp only[PU]
 refine bS (v:=?_) rfl (by rfl) (λV hV=>?_) ?_;rotate_left
 .obtain⟨d0,aL,aM⟩:=(bO.2.2.on (Fr.aF hV) ad).two
  (go_simp<;>with_reducible rfl)
 try simp only[PU]
 refine aG rfl (λK hK=>?_);go_simp;refine dq hK (((LW.setCell (.inl (by show w.heap.size<w.heap.size+3;omega)) _).setCell (.inl (by show w.heap.size<w.heap.size+3;omega)) _).setCell (.inl (by show w.heap.size<w.heap.size+3;omega)) _) ?_;clear hK K;generalize N:World.setCell _ _ _=da;obtain⟨an,aZ,P⟩:=dY (M:=λ_=>False) (w:=w) [.slice GA gn gc,.slice MA mn mc,.slice FA fn fc] (by rfl) Q b5.2 (Lk _) N;have cz:=a3.1.on P ad;have f:=a3.2.on P ad;have r:=bJ aZ (Fr.mono (M':=λb=>b<w.heap.size+3) P λb O=>ad) an f;clear N aZ P an f Q bl aA aO;obtain⟨bl,aA,aO⟩:=cz.two;refine aG rfl (λK hK=>?_);go_simp;refine dq hK (((LW.setCell (.inl (by show w.heap.size+1<w.heap.size+3;omega)) _).setCell (.inl (by show w.heap.size+1<w.heap.size+3;omega)) _).setCell (.inl (by show w.heap.size+1<w.heap.size+3;omega)) _ |>.setCell (.inl (by show w.heap.size+1<w.heap.size+3;omega)) _) ?_;clear hK K;generalize S:World.setCell _ _ _=hl;obtain⟨aH,a4,a2⟩:=dY (M:=λ_=>False) (w:=w) [.slice g bT bY,.slice j dh cT,.slice i m o,.int .i64 (gq p).main] (by rfl) cz r.1 ad S;have f:=r.2.2.2.on a2 ad;have ao:=bJ a4 (r.2.1.trans (a2.mono λb O=>ad)) (r.2.2.1.on a2 ad) aH;clear S a4 a2 aH cz r bl aA aO;obtain⟨bl,aA,aO⟩:=f.two;exact eT
end Go.Proofs.YtkhnkojkplbioaaGreat

/- Part 27 of the proof. No condition of its own. -/
import Derived.Test.YtkhnkojkplbioaaGreatQ24
namespace Go.Proofs.YtkhnkojkplbioaaGreat
open Go.RowKit Go.Proofs.Tryz
set_option maxRecDepth 1000000
set_option maxHeartbeats 25600000
set_option linter.unusedVariables false
variable{p:Prop}
namespace C8
theorem sV(h:p:=by
 go_enter func111,ntmps111;exact sH
 ):p:=h
end C8
open C8 in
theorem wx(A A2:L3)(n c n2 c2:Nat)(S T:List Int)(w:World)(hs:cp (EF cP) 1 w w.heap.size A n S)(ht:cp (EF cP) 1 w w.heap.size A2 n2 T)(hn:n<=140737488355328) :
  Calls prog 111 #[.slice A n c,.slice A2 n2 c2] w λr ab=>r=.returned (.bool (decide (S=T)))/\Below w.heap.size w ab:=by
 have hl:=hs.1;have bc:=ht.1;by_cases bf:n=n2
 case neg=>
  exact sU
 subst bf;obtain⟨b8,J⟩:=aJ hl bc;clear hl bc;have bq:((n:Int) != (n:Int))=false:=by simp
 go_enter func111,ntmps111;go_wp2;go_loopw [13] (λi wr=>∃k:Nat,k<=n/\i=.int .i64 k/\(∀j,j<k->S[j]?=T[j]?)/\Below w.heap.size w wr) (λi _=>n - (intOf i).toNat)
 case atStart=>exact⟨0,LJ _,rfl,λj bi=>absurd bi ad,Below.refl _ _⟩
 case round=>
  obtain⟨k,ap,rfl,cE,O⟩:=hrel;have aA:=ae cE;clear cE;by_cases al:k<n
  .obtain⟨b,o,x,rfl,U,hx,c0⟩:=(hs.c8 O O.size).int al;obtain⟨K,M,d,rfl,l,g,d0⟩:=(ht.c8 O O.size).int al;exact GU
  .obtain rfl:k=n:=ad;exact xM
namespace C9
theorem sV(h:p:=by
 go_enter func112,ntmps112;exact sH
 ):p:=h
end C9
open C9 in
theorem FR(A A2:L3)(n c n2 c2:Nat)(S T:List bV)(w:World)(hs:cp (EF bK) 2 w w.heap.size A n S)(ht:cp (EF bK) 2 w w.heap.size A2 n2 T)(hn:n<=140737488355328) :
  Calls prog 112 #[.slice A n c,.slice A2 n2 c2] w λr ab=>r=.returned (.bool (decide (S=T)))/\Below w.heap.size w ab:=by
 have hl:=hs.1;have bc:=ht.1;by_cases bf:n=n2
 case neg=>
  exact sU
 subst bf;obtain⟨b8,J⟩:=aJ hl bc;clear hl bc;have bq:((n:Int) != (n:Int))=false:=by simp
 go_enter func112,ntmps112;go_wp2;go_loopw [13] (λi wr=>∃k:Nat,k<=n/\i=.int .i64 k/\(∀j,j<k->S[j]?=T[j]?)/\Below w.heap.size w wr) (λi _=>n - (intOf i).toNat)
 case atStart=>exact⟨0,LJ _,rfl,λj bi=>absurd bi ad,Below.refl _ _⟩
 case round=>
  obtain⟨k,ap,rfl,cE,O⟩:=hrel;have aA:=ae cE;clear cE;by_cases al:k<n
  .obtain⟨b,o,x,rfl,U,hx,c0,c1⟩:=(hs.c8 O O.size).hold al;obtain⟨K,M,d,rfl,l,g,d0,d1⟩:=(ht.c8 O O.size).hold al;have br:(0:Int)<=(k:Int):=ad;have cd:(k:Int)<(n:Int):=ad;have e:=yh x.owner x.depth d.owner d.depth;by_cases hd:x=d
   .have aQ:=ae (show S[k]?=T[k]? by rw[hx,g,hd]);have u:decide (x.owner≠d.owner\/x.depth≠d.depth)=false:=by subst hd;simp
    exact GV
   .have a3:=ae (show decide (S=T)=false from decide_eq_false (λh=>by
     subst h;rw[hx] at g;injection g with g;exact hd g))
    have u:decide (x.owner≠d.owner\/x.depth≠d.depth)=true:=decide_eq_true (by cases x;cases d;simp at hd ⊢;omega);exact Ha
  .obtain rfl:k=n:=ad;exact xM
namespace Da
theorem pN(h:p:=by
 have ah:=aE aw bC bD;obtain⟨a0,aj,af⟩:=bC.two;obtain⟨a7,am,aF⟩:=bD.two;clear be aw bC bD;by_cases e1:bf=dS
 case neg=>
  exact zK
 have q1:(bf == dS)=true:=by simpa using e1
 have n:=ae e1;clear e1;by_cases e2:p3=p4
 case neg=>
  have cN:(p3 == p4)=false:=by simpa using e2
  have bY:=ae e2;clear e2;go_wp2_with(fail);go_ret;exact⟨false,rfl,⟨λh=>(by cases h),λh=>absurd (cb.1 h).2.1 bY.o⟩,ah.1⟩
 have cN:(p3 == p4)=true:=by simpa using e2
 have y:=ae e2;clear e2;go_wp2_with(fail);refine(wx IA dg i ic j dc dr m W ((bq.1.on (Fr.ext ah.1)).ints) ((bq.2.2.1.on (Fr.ext ah.1)).ints) ad).mono ?_;rintro e aS ⟨rfl,b1⟩;have aN:Ext W aS:=Fr.of b1;have H1:=ae (ah.1.trans aN);clear a0 aj af a7 am aF b1;obtain⟨a0,aj,af⟩:=(ah.2.1.aj aN).two;obtain⟨a7,am,aF⟩:=(ah.2.2.aj aN).two;clear aN;by_cases e3:dr=m
 case neg=>
  have df:decide (dr=m)=false:=decide_eq_false e3;have bY:=ae e3;clear e3;go_wp2_with(fail);go_ret;exact⟨false,rfl,⟨λh=>(by cases h),λh=>absurd (cb.1 h).2.2.1 bY.o⟩,H1.o⟩
 have df:decide (dr=m)=true:=decide_eq_true e3;have r:=ae e3;clear e3;go_wp2_with(fail);refine(wx S KA l lc k kc x dj aS ((bq.2.1.on (Fr.ext H1.o)).ints) ((bq.2.2.2.on (Fr.ext H1.o)).ints) ad).mono ?_;rintro e aU ⟨rfl,bj⟩;have bc:=ae (H1.trans (Fr.of bj));clear a0 aj af a7 am aF bj;go_wp2_with(fail);go_ret;refine⟨decide (x=dj),rfl,⟨λh=>cb.2 ⟨n.o,y.o,r.o,of_decide_eq_true h⟩,λh=>decide_eq_true (cb.1 h).2.2.2⟩,bc.o⟩
 ):p:=h
end Da
open Da in
theorem wS(f g:ak)(IA S dg KA:L3)(i ic l lc j dc k kc:Nat)(w:World)(ac:Sl w (av w) IA i (f.ints.map D.i))(au:Sl w (av w) S l (f.au.map D.i))(aY:Sl w (av w) dg j (g.ints.map D.i))(bR:Sl w (av w) KA k (g.au.map D.i))(an:i<=100000)(hl:l<=100000) :
  Calls prog 116 #[.agg #[.int .i64 f.proc,.int .i64 f.pc,.slice IA i ic,.slice S l lc],.agg #[.int .i64 g.proc,.int .i64 g.pc,.slice dg j dc,.slice KA k kc]] w (ix w (f=g)):=by
 have bq:=bJ ac au aY bR;have cb:L5 (f=g↔f.proc=g.proc/\f.pc=g.pc/\f.ints=g.ints/\f.au=g.au):=ae uD;clear ac au aY bR;generalize J:f.ints=dr at *;generalize cg:f.au=x at *;generalize u:g.ints=m at *;generalize ci:g.au=dj at *;generalize o:f.proc=bf at *;generalize s:g.proc=dS at *;generalize q:f.pc=p3 at *;generalize v:g.pc=p4 at *;clear J cg u ci o s q v;go_enter func116,ntmps116;exact pM
namespace Db
theorem A5(h:p:=by
 refine(wS f g IA S dg KA x ic y lc z dc v kc Y (cR.1.on (Fr.ext bu.o)) (cR.2.1.on (Fr.ext bu.o)) (cR.2.2.1.on (Fr.ext bu.o)) (cR.2.2.2.1.on (Fr.ext bu.o)) (aD cR.2.2.2.2) (aD cR.2.2.2.2)).mono ?_;exact G0
 ):p:=h
theorem Bv(h:p:=by
 have cR:=cJ J cg u ci (show x<=100000/\y<=100000 by omega);have bZ:=ag G o;clear bI cn Z J cg u ci G o cx dR b0 a9 ba aN;clear aw T;go_upto_region 6 with(fail);generalize hX:World.alloc _ _=X;have bs:=aW hX;have br:=aI hX;have H:=br.lt;have aQ:=ag bs br;replace d0:=(bs.cell aO λh=>h).trans d0
 replace d1:=(bs.cell aO λh=>h).trans d1
 replace d2:=(bs.cell aO λh=>h).trans d2
 replace d3:=(bs.cell aO λh=>h).trans d3
 exact A4
 ):p:=h
theorem vW(h:p:=by
 go_enter func115,ntmps115;by_cases I:n=m
 case neg=>
  exact Hf
 subst I;have q1:((n:Int) != (n:Int))=false:=by simp
 go_wp2_with(fail);go_loopw [17] (λcy wr=>∃i:Nat,cy=.int .i64 i/\i<=n/\Ext w wr/\∀j,j<i->l[j]?=k[j]?) (λcy _=>n - (intOf cy).toNat)
 case atStart=>exact⟨0,rfl,ad,LW,λj bi=>ad⟩
 case round=>
  obtain⟨i,rfl,an,aw,T⟩:=hrel;have bo:=ag aw T;by_cases al:i<n
  .obtain⟨cj,cY,f,IA,x,ic,S,y,lc,rfl,cx,G,c0,c1,c2,c3,b0,a9,J,cg⟩:=(bq.1.on (Fr.ext aw)).qi al;obtain⟨bL,go,g,dg,z,dc,KA,v,kc,rfl,dR,o,d0,d1,d2,d3,ba,aN,u,ci⟩:=(bq.2.on (Fr.ext aw)).qi al;exact Bu
  .obtain rfl:i=n:=ad;exact He
 ):p:=h
end Db
open Db in
theorem Ec(A B:L3)(n c m aK:Nat)(l k:List ak)(w:World)(hl:Sl w (av w) A n (l.map ew))(ap:Sl w (av w) B m (k.map ew))(hn:n<=1000000)(bI:∀f∈l,f.ints.length<=100000/\f.au.length<=100000) :
  Calls prog 115 #[.slice A n c,.slice B m aK,.func (.func 116) #[] #[]] w (ix w (l=k)):=by
 exact vV
namespace Dc
theorem pN(h:p:=by
 have ah:=ae aw;obtain⟨a0,aj,af⟩:=bC.two;obtain⟨a7,am,aF⟩:=bD.two;clear be aw bC bD;go_wp2_with(fail);refine(Ec A B n c m aK l k W (bq.1.on (Fr.ext ah.o)) (bq.2.1.on (Fr.ext ah.o)) hn bq.2.2).mono ?_;rintro e aU ⟨bb,rfl,U,aZ⟩;clear a0 aj af a7 am aF;go_wp2_with(fail);go_ret;exact⟨bb,rfl,U,ah.trans aZ⟩
 ):p:=h
end Dc
open Dc in
theorem uO(A B:L3)(n c m aK:Nat)(l k:List ak)(w:World)(hl:Sl w (av w) A n (l.map ew))(ap:Sl w (av w) B m (k.map ew))(hn:n<=1000000)(bI:∀f∈l,f.ints.length<=100000/\f.au.length<=100000) :
  Calls prog 114 #[.agg #[.slice A n c],.agg #[.slice B m aK]] w (ix w (l=k)):=by
 have bq:=aE hl ap bI;clear hl ap bI;go_enter func114,ntmps114;exact pM
namespace Dd
theorem A5(h:p:=by
 refine(uO FA GA x fc z gc f g Y (cR.1.on (Fr.ext bu.o)) (cR.2.1.on (Fr.ext bu.o)) cR.2.2.1 cR.2.2.2).mono ?_;exact G0
 ):p:=h
theorem vW(h:p:=by
 go_enter func113,ntmps113;by_cases I:n=m
 case neg=>
  exact Hf
 subst I;have q1:((n:Int) != (n:Int))=false:=by simp
 go_wp2_with(fail);go_loopw [17] (λcy wr=>∃i:Nat,cy=.int .i64 i/\i<=n/\Ext w wr/\∀j,j<i->l[j]?=k[j]?) (λcy _=>n - (intOf cy).toNat)
 case atStart=>exact⟨0,rfl,ad,LW,λj bi=>ad⟩
 case round=>
  obtain⟨i,rfl,an,aw,T⟩:=hrel;have bo:=ag aw T;by_cases al:i<n
  .obtain⟨cj,cY,f,FA,x,fc,rfl,cx,G,c0,aB,bG⟩:=(bq.1.on (Fr.ext aw)).kp al;obtain⟨bL,go,g,GA,z,gc,rfl,dR,o,d0,ar,bz⟩:=(bq.2.on (Fr.ext aw)).kp al;have bN:cj<wr.heap.size:=cx;have aO:bL<wr.heap.size:=dR;have bI:=bY.2.2 f (Ln G);have cn:x=f.length:=by have:=bG.1;simpa using this.symm
   have cR:=bJ bG bz (show x<=1000000 by omega) bI.2;have bZ:=ag G o;clear bI cn bG bz G o cx dR aB ar;clear aw T;go_upto_region 6 with(fail);generalize hX:World.alloc _ _=X;have bs:=aW hX;have br:=aI hX;have H:=br.lt;have aQ:=ag bs br;replace d0:=(bs.cell aO λh=>h).trans d0
   exact A4
  .obtain rfl:i=n:=ad;exact He
 ):p:=h
end Dd
open Dd in
theorem yS(A B:L3)(n c m aK:Nat)(l k:List (List ak))(w:World)(hl:Sl w (av w) A n (l.map jW))(ap:Sl w (av w) B m (k.map jW))(hn:n<=1000000)(bI:∀t∈l,t.length<=1000000/\∀f∈t,f.ints.length<=100000/\f.au.length<=100000) :
  Calls prog 113 #[.slice A n c,.slice B m aK,.func (.func 114) #[] #[]] w (ix w (l=k)):=by
 exact vV
namespace De
theorem pN(h:p:=by
 have ah:=aE aw bC bD;obtain⟨a0,aj,af⟩:=bC.two;obtain⟨a7,am,aF⟩:=bD.two;clear be aw bC bD y i;by_cases e1:bf=dS
 case neg=>
  exact zK
 have q1:(bf == dS)=true:=by simpa using e1
 have n:=ae e1;clear e1;go_wp2_with(fail);refine(wx GA bF gn gc l k s.globals Q.globals W ((bq.1.on ah.1).at_.g.ints) ((bq.2.1.on ah.1).at_.g.ints) ad).mono ?_;rintro e aS ⟨rfl,b1⟩;have aN:Ext W aS:=Fr.of b1;have H1:=ae (ah.1.trans aN);clear a0 aj af a7 am aF b1;obtain⟨a0,aj,af⟩:=(ah.2.1.aj aN).two;obtain⟨a7,am,aF⟩:=(ah.2.2.aj aN).two;have g:=ae aN;clear aN;by_cases e3:s.globals=Q.globals
 case neg=>
  have df:decide (s.globals=Q.globals)=false:=decide_eq_false e3;have bY:=ae e3;clear e3;go_wp2_with(fail);go_ret;exact⟨false,rfl,⟨λh=>(by cases h),λh=>absurd (cb.1 h).2.1 bY.o⟩,H1.o⟩
 have df:decide (s.globals=Q.globals)=true:=decide_eq_true e3;have r:=ae e3;clear e3;go_wp2_with(fail);refine(FR TA ab tn tc aM aG s.table Q.table aS ((bq.1.on H1.o).at_.t.holds) ((bq.2.1.on H1.o).at_.t.holds) ad).mono ?_;rintro e aU ⟨rfl,bj⟩;have aZ:Ext aS aU:=Fr.of bj;have bc:=ae (H1.trans aZ);clear a0 aj af a7 am aF bj;obtain⟨a0,aj,af⟩:=(ah.2.1.aj (g.trans aZ)).two;obtain⟨a7,am,aF⟩:=(ah.2.2.aj (g.trans aZ)).two;clear aZ;by_cases a6:s.table=Q.table
 case neg=>
  have dd:decide (s.table=Q.table)=false:=decide_eq_false a6;have bY:=ae a6;clear a6;go_wp2_with(fail);go_ret;exact⟨false,rfl,⟨λh=>(by cases h),λh=>absurd (cb.1 h).2.2.1 bY.o⟩,bc.o⟩
 have dd:decide (s.table=Q.table)=true:=decide_eq_true a6;have j:=ae a6;clear a6;go_wp2_with(fail);refine(yS HA bO hn hc hm hd s.threads Q.threads aU ((bq.1.on bc.o).at_.h) ((bq.2.1.on bc.o).at_.h) ad bq.2.2).mono ?_;rintro e b6 ⟨bb,rfl,U,a4⟩;have bP:=ag U (bc.trans a4);clear a0 aj af a7 am aF U a4;go_wp2_with(fail);go_ret;exact⟨bb,rfl,⟨λh=>cb.2 ⟨n.o,r.o,j.o,bP.1.1 h⟩,λh=>bP.1.2 (cb.1 h).2.2.2⟩,bP.2⟩
 ):p:=h
end De
open De in
theorem Hr(s Q:ai)(q ar:SV)(w:World)(h:q.Ok w s)(F:ar.Ok w Q)(bI:Small s) :
  Calls prog 71 #[.agg (q.val s),.agg (ar.val Q)] w (ix w (s=Q)):=by
 obtain⟨GA,gn,gc,TA,tn,tc,HA,hn,hc⟩:=q;obtain⟨bF,l,k,ab,aM,aG,bO,hm,hd⟩:=ar;have r3:gn<=100000:=by have ac:=h.at_.g.1;have au:=bI.g;rw[Lo] at ac;have aY:s.globals.length=gn:=ac;omega
 have tW:tn<=100000:=by have ac:=h.at_.t.1;have au:=bI.t;rw[Lo] at ac;have aY:s.table.length=tn:=ac;omega
 have pd:hn<=100000:=by have ac:=h.at_.h.1;have au:=bI.h;rw[Lo] at ac;have aY:s.threads.length=hn:=ac;omega
 have ax:∀t∈s.threads,t.length<=1000000/\∀f∈t,f.ints.length<=100000/\f.au.length<=100000:=λt ht=>⟨by have:=(bI.f t ht).1;omega,λf J=>by have:=(bI.f t ht).2 f J;omega⟩
 have bq:=aE h F ax;have cb:L5 (s=Q↔s.fault=Q.fault/\s.globals=Q.globals/\s.table=Q.table/\s.threads=Q.threads):=ae (by cases s;cases Q;simp;exact⟨λ⟨a,b,c,d⟩=>⟨d,a,b,c⟩,λ⟨d,a,b,c⟩=>⟨a,b,c,d⟩⟩);clear h F bI ax;dsimp only[SV.val];generalize y:s.fault=bf at *;generalize i:Q.fault=dS at *;go_enter func71,ntmps71;exact pM
def g3(u:ay)(f:ak):Prop:=0<=f.proc/\0<=f.pc/\∃p,u.procs[f.proc.toNat]?=some p/\f.pc<p.code.length/\(f.ints.length:Int)=p.locals/\(f.au.length:Int)=p.au/\∀k∈f.au,0<=k/\k<elems u.af
def tO(u:ay)(s:ai):Prop:=s.globals.length=u.globals.length/\1<=s.threads.length/\s.threads.length<=32/\0<=s.fault/\s.fault<=4/\g4 u.af s.table s.threads.length=true/\∀t∈s.threads,∀f∈t,g3 u f
def zy{α:Type}(w:World)(l:List α)(p:α->Prop)(e:Ending)(ab:World):Prop:=∃r:Int,e=.returned (.int .i64 r)/\(0<=r↔∃x∈l,p x)/\Ext w ab
theorem FE(x N:Int)(g:Nat)(w:World)(a9:g<w.heap.size)(hc:w.cell? ⟨g,0,none⟩=some (.int .i64 N)) :
  Calls prog 110 #[.int .i64 x,.pointer (some ⟨g,0,none⟩)] w (ix w (x<0\/N<=x)):=by
 go_enter func110,ntmps110;by_cases h0:x<0
 .have q1:decide (x<0)=true:=decide_eq_true h0;have bY:=ae h0;clear h0;go_wp2_with(fail);go_ret;exact⟨true,rfl,⟨λ_=>.inl bY.o,λ_=>rfl⟩,LW⟩
 .have q1:decide (x<0)=false:=decide_eq_false h0;have bY:=ae h0;clear h0;go_wp2_with(fail);go_ret;exact⟨decide (x>=N),rfl,⟨λh=>.inr (of_decide_eq_true h),λh=>decide_eq_true (aD bY.o)⟩,LW⟩
theorem FX(A:L3)(n c:Nat)(l:List Int)(N:Int)(g:Nat)(w:World)(hl:Sl w (av w) A n (l.map D.i))(hn:n<=140737488355328)(a9:g<w.heap.size)(hc:w.cell? ⟨g,0,none⟩=some (.int .i64 N)) :
  Calls prog 139 #[.slice A n c,.func (.func 110) #[] #[.pointer (some ⟨g,0,none⟩)]] w (zy w l (λx=>x<0\/N<=x)):=by
 have ca:l.length=n:=by have:=hl.1;simpa using this
 have bY:=ag ca hl;have bV:=ag a9 hc;clear hc;clear ca hl;go_enter func139,ntmps139;go_wp2_with(fail);go_loopw [8] (λcy wr=>∃i:Nat,cy=.int .i64 i/\i<=n/\Ext w wr/\∀j x,j<i->l[j]?=some x->¬(λx=>x<0\/N<=x) x) (λcy _=>n - (intOf cy).toNat)
 case atStart=>exact⟨0,rfl,ad,LW,λj x bi=>ad⟩
 case round=>
  obtain⟨i,rfl,an,aw,T⟩:=hrel;have bo:=ag aw T;by_cases al:i<n
  .obtain⟨b,o,x,rfl,O,hx,c0⟩:=(bY.2.on (Fr.ext aw)).uH al;have bZ:=ae hx;have aT:b<wr.heap.size:=O;clear hx O;clear aw T;go_wp2_with(fail);refine(FE x N g wr (Ll bV.1 bo.1.size) ((bo.1.cell bV.1 λh=>h).trans bV.2)).mono ?_;exact DG
  .obtain rfl:i=n:=ad;exact DI
theorem hasInts(A:L3)(n c:Nat)(l:List Int)(N:Int)(g:Nat)(w:World)(hl:Sl w (av w) A n (l.map D.i))(hn:n<=140737488355328)(a9:g<w.heap.size)(hc:w.cell? ⟨g,0,none⟩=some (.int .i64 N)) :
  Calls prog 109 #[.slice A n c,.func (.func 110) #[] #[.pointer (some ⟨g,0,none⟩)]] w (ix w (∃x∈l,(λx=>x<0\/N<=x) x)):=by
 have ck:=ae (FX A n c l N g w hl hn a9 hc);clear hl hc;go_enter func109,ntmps109;exact DJ
theorem uP(u:ay)(f:ak)(p:UV)(IA S:L3)(i ic l lc:Nat)(w:World)(hu:p.Ok w u)(bp:u.procs.length<=100000)(a8:∀q∈u.procs,q.code.length<=100000)(ac:Sl w (av w) IA i (f.ints.map D.i))(au:Sl w (av w) S l (f.au.map D.i))(hl:l<=140737488355328) :
  Calls prog 69 #[.agg (p.val u),.agg #[.int .i64 f.proc,.int .i64 f.pc,.slice IA i ic,.slice S l lc],.int .i64 (elems u.af)] w (ix w (g3 u f)):=by
 obtain⟨GA,gn,gc,MA,mn,mc,PA,pn,pc⟩:=p;have cF:i=f.ints.length:=by have:=ac.1;simpa using this.symm
 have bM:l=f.au.length:=by have:=au.1;simpa using this.symm
 have gu:u.procs.length=pn:=by have:=hu.at_.p.1;rw[Lo] at this;exact this
 have bq:=h2 hu ac au cF bM gu a8;have eQ:pn<=100000:=ad;clear hu ac au cF bM gu a8 bp;have cb:L5 (g3 u f↔0<=f.proc/\0<=f.pc/\∃p,u.procs[f.proc.toNat]?=some p/\f.pc<p.code.length/\(f.ints.length:Int)=p.locals/\(f.au.length:Int)=p.au/\∀k∈f.au,0<=k/\k<elems u.af):=ae Iff.rfl;generalize g3 u f=V at *;generalize s:f.proc=bf at *;generalize aB:f.pc=p3 at *;generalize y:elems u.af=N at *;clear s aB y;dsimp only[UV.val];go_enter func69,ntmps69;go_upto_region 1 with(fail);generalize be:World.alloc _ _=W;have aw:=lC be;have bD:=jw be;have b4:=h1 be;have cf:=jx be;have ah:=bJ aw bD b4 cf;obtain⟨a0,aj,af⟩:=bD.two;obtain⟨a7,am,aF⟩:=b4.two;obtain⟨d0,aL,aM⟩:=cf.two;clear be aw bD b4 cf;by_cases e1:bf<0
 .have q1:decide (bf<0)=true:=decide_eq_true e1;exact zN
 have q1:decide (bf<0)=false:=decide_eq_false e1;by_cases e2:bf>=(pn:Int)
 .have cN:decide (bf>=(pn:Int))=true:=decide_eq_true e2;have n:=ag e1 e2;clear e1 e2;go_wp2_with(fail);go_ret;refine⟨false,rfl,⟨λh=>(by cases h),λh=>?_⟩,ah.1⟩;obtain⟨_,_,p,hp,_⟩:=cb.1 h;have:=(List.getElem?_eq_some_iff.1 hp).1;have:=n.o;have:=bq.2.2.2.2.2.1;omega
 have cN:decide (bf>=(pn:Int))=false:=decide_eq_false e2;have m:0<=bf:=ad;have o:bf<(pn:Int):=ad;obtain⟨pb,gP,cn,bz,cp,b3,e,bF,cL,b2,cG,ch,bA,b7,Z,T⟩:=(bq.1.on ah.1).at_.proc (k:=bf.toNat) (by show bf.toNat<pn;omega);simp only at e;subst e;have R:pb<W.heap.size:=bF;have bQ:cp=cn.code.length:=by have:=T.1;simpa using this.symm
 have P:=bq.2.2.2.2.2.2 cn (Ln cL);have Q:cp<=100000:=ad;have cq:=ag cL bQ;clear e1 e2 bF cL Z T bQ P;go_upto_region 4 with(fail);generalize hX:World.alloc _ _=X;have bs:=aW hX;have br:=aI hX;have aQ:=ae (ah.1.trans bs);clear a0 aj af a7 am aF d0 aL aM b2 cG ch bA b7;obtain⟨a7,am,aF⟩:=(ah.2.2.1.aj bs).two;have bL:=ah.2.2.2.aj bs;have z:=ae bL;have L:=bL.lt;obtain⟨bx,a5,aT⟩:=br.two;clear hX bs br bL;have l7:V↔0<=p3/\p3<(cp:Int)/\(i:Int)=cn.locals/\(l:Int)=cn.au/\∀k∈f.au,0<=k/\k<N:=by
  rw[cb.o,cq.2,bq.2.2.2.1,bq.2.2.2.2.1];constructor
  .rintro⟨_,au,p,hp,aY,bR,cI,a2⟩;rw[cq.1] at hp;injection hp with hp;subst hp;exact⟨au,aY,bR,cI,a2⟩
  .rintro⟨au,aY,bR,cI,a2⟩;exact⟨m,au,cn,cq.1,aY,bR,cI,a2⟩
 have bX:=ae l7;clear l7;by_cases e3:p3>=0
 case neg=>
  have H:decide (p3>=0)=false:=decide_eq_false e3;have n:=ae e3;clear e3;go_wp2_with(fail);go_ret;exact⟨false,rfl,⟨λh=>(by cases h),λh=>absurd (bX.1 h).1 (aD n.o)⟩,aQ.o⟩
 have H:decide (p3>=0)=true:=decide_eq_true e3;have j:=ae e3;clear e3;by_cases a6:p3<(cp:Int)
 case neg=>
  have I:decide (p3<(cp:Int))=false:=decide_eq_false a6;have n:=ae a6;clear a6;go_wp2_with(fail);go_ret;exact⟨false,rfl,⟨λh=>(by cases h),λh=>absurd (bX.1 h).2.1 (aD n.o)⟩,aQ.o⟩
 have I:decide (p3<(cp:Int))=true:=decide_eq_true a6;have r:=ae a6;clear a6;by_cases cu:(i:Int)=cn.locals
 case neg=>
  have K:((i:Int) == cn.locals)=false:=by simpa using cu
  have n:=ae cu;clear cu;go_wp2_with(fail);go_ret;exact⟨false,rfl,⟨λh=>(by cases h),λh=>absurd (bX.1 h).2.2.1 (aD n.o)⟩,aQ.o⟩
 have K:((i:Int) == cn.locals)=true:=by simpa using cu
 have v:=ae cu;clear cu;by_cases bB:(l:Int)=cn.au
 case neg=>
  have M:((l:Int) == cn.au)=false:=by simpa using bB
  have n:=ae bB;clear bB;go_wp2_with(fail);go_ret;exact⟨false,rfl,⟨λh=>(by cases h),λh=>absurd (bX.1 h).2.2.2.1 (aD n.o)⟩,aQ.o⟩
 have M:((l:Int) == cn.au)=true:=by simpa using bB
 have J:=ae bB;clear bB;go_wp2_with(fail);refine(hasInts S l lc f.au N (w.heap.size+2) X (bq.2.2.1.on (Fr.ext aQ.o)) hl L (by rw[z.cell];rfl)).mono ?_;rintro e aU ⟨bb,rfl,U,aZ⟩;have bc:=ag U (aQ.trans aZ);clear U aZ a7 am aF bx a5 aT;go_wp2_with(fail);go_ret;refine⟨!bb,rfl,⟨λh=>bX.2 ⟨j.o,r.o,v.o,J.o,λk ap=>?_⟩,λh=>?_⟩,bc.2⟩
 .have O:¬bb=true:=by cases bb<;>simp at h ⊢
  exact Classical.byContradiction λhn=>O (bc.1.2 ⟨k,ap,show k<0\/N<=k by omega⟩)
 .have:=(bX.1 h).2.2.2.2
  cases O:bb with
  | false=>rfl
  | true=>
   obtain⟨x,hx,a1⟩:=bc.1.1 O;have:=this x hx;omega
theorem DW(u:ay)(f:ak)(p:UV)(o k:Nat)(IA S:L3)(i ic l lc:Nat)(w:World)(hu:p.Ok w u)(bp:u.procs.length<=100000)(a8:∀q∈u.procs,q.code.length<=100000)(ac:Sl w (av w) IA i (f.ints.map D.i))(au:Sl w (av w) S l (f.au.map D.i))(hl:l<=140737488355328)
  (m:aq w o 30 (p.val u)) (I:aq w k 3 #[.int .i64 (elems u.af)]) :
  Calls prog 68 #[.agg #[.int .i64 f.proc,.int .i64 f.pc,.slice IA i ic,.slice S l lc],.pointer (some ⟨o,0,none⟩),.pointer (some ⟨k,0,none⟩)] w (ix w (¬g3 u f)):=by
 obtain⟨GA,gn,gc,MA,mn,mc,PA,pn,pc⟩:=p;have bq:=cJ hu ac au m I;clear hu ac au m I;go_enter func68,ntmps68;go_upto_region 1 with(fail);generalize be:World.alloc _ _=W;have aw:=aW be;have b4:=aI be;have ah:=ae aw;obtain⟨a0,aj,af⟩:=(bq.2.2.2.1.aj aw).two;obtain⟨a7,am,aF⟩:=b4.two;obtain⟨d0,aL,aM⟩:=(bq.2.2.2.2.aj aw).two;clear be aw b4;go_wp2_with(fail);refine(uP u f ⟨GA,gn,gc,MA,mn,mc,PA,pn,pc⟩ IA S i ic l lc W (bq.1.on ah.o) bp a8 (bq.2.1.on (Fr.ext ah.o)) (bq.2.2.1.on (Fr.ext ah.o)) hl).mono ?_;rintro e aU ⟨bb,rfl,U,aZ⟩;have bc:=ag U (ah.trans aZ);clear U aZ a0 aj af a7 am aF d0 aL aM;go_wp2_with(fail);go_ret;refine⟨!bb,rfl,⟨λh bG=>?_,λh=>?_⟩,bc.2⟩
 .rw[bc.1.2 bG] at h;cases h
 .cases O:bb with
  | false=>rfl
  | true=>exact absurd (bc.1.1 O) h
theorem y0(A:L3)(n c:Nat)(l:List ak)(u:ay)(p:UV)(o k:Nat)(w:World)(hl:Sl w (av w) A n (l.map ew))(hn:n<=140737488355328)(hu:p.Ok w u)(bp:u.procs.length<=100000)(a8:∀q∈u.procs,q.code.length<=100000)(m:aq w o 30 (p.val u))(I:aq w k 3 #[.int .i64 (elems u.af)])(bI:∀f∈l,f.au.length<=140737488355328) :
  Calls prog 108 #[.slice A n c,.func (.func 68) #[] #[.pointer (some ⟨o,0,none⟩),.pointer (some ⟨k,0,none⟩)]] w (zy w l (λf=>¬g3 u f)):=by
 have ca:l.length=n:=by have:=hl.1;simpa using this
 have bY:=ag ca hl;have bV:=cH hu m I bp a8 bI;clear hu m I bp a8 bI;clear ca hl;go_enter func108,ntmps108;go_wp2_with(fail);go_loopw [8] (λcy wr=>∃i:Nat,cy=.int .i64 i/\i<=n/\Ext w wr/\∀j x,j<i->l[j]?=some x->¬(λf=>¬g3 u f) x) (λcy _=>n - (intOf cy).toNat)
 case atStart=>exact⟨0,rfl,ad,LW,λj x bi=>ad⟩
 case round=>
  obtain⟨i,rfl,an,aw,T⟩:=hrel;have bo:=ag aw T;by_cases al:i<n
  .obtain⟨cj,cY,f,IA,x,ic,S,y,lc,rfl,cx,G,c0,c1,c2,c3,b0,a9,J,cg⟩:=(bY.2.on (Fr.ext aw)).qi al;have Z:y=f.au.length:=by have:=cg.1;simpa using this.symm
   have cR:=aE J cg (show y<=140737488355328 by rw[Z];exact bV.2.2.2.2.2 f (Ln G));have bZ:=ae G;have aT:cj<wr.heap.size:=cx;clear G cx J cg b0 a9 Z;clear aw T;go_wp2_with(fail);refine(DW u f p o k IA S x ic y lc wr (bV.1.on bo.1) bV.2.2.2.1 bV.2.2.2.2.1 cR.1 cR.2.1 cR.2.2 (bV.2.1.aj bo.1) (bV.2.2.1.aj bo.1)).mono ?_;exact DG
  .obtain rfl:i=n:=ad;exact DI
theorem yZ(A:L3)(n c:Nat)(l:List ak)(u:ay)(p:UV)(o k:Nat)(w:World)(hl:Sl w (av w) A n (l.map ew))(hn:n<=140737488355328)(hu:p.Ok w u)(bp:u.procs.length<=100000)(a8:∀q∈u.procs,q.code.length<=100000)(m:aq w o 30 (p.val u))(I:aq w k 3 #[.int .i64 (elems u.af)])(bI:∀f∈l,f.au.length<=140737488355328) :
  Calls prog 67 #[.slice A n c,.func (.func 68) #[] #[.pointer (some ⟨o,0,none⟩),.pointer (some ⟨k,0,none⟩)]] w (ix w (∃x∈l,(λf=>¬g3 u f) x)):=by
 have ck:=ae (y0 A n c l u p o k w hl hn hu bp a8 m I bI);clear hl hu bp a8 m I bI;go_enter func67,ntmps67;exact DJ
theorem yH(u:ay)(p:UV)(o k:Nat)(A:L3)(n c:Nat)(l:List ak)(w:World)(hl:Sl w (av w) A n (l.map ew))(hn:n<=140737488355328)(hu:p.Ok w u)(bp:u.procs.length<=100000)(a8:∀q∈u.procs,q.code.length<=100000)(m:aq w o 30 (p.val u))(I:aq w k 3 #[.int .i64 (elems u.af)])(bI:∀f∈l,f.au.length<=140737488355328) :
  Calls prog 66 #[.agg #[.slice A n c],.pointer (some ⟨o,0,none⟩),.pointer (some ⟨k,0,none⟩)] w (ix w (∃f∈l,¬g3 u f)):=by
 have bq:=h2 hl hu m I bp a8 bI;clear hl hu m I bp a8 bI;go_enter func66,ntmps66;go_upto_region 1 with(fail);generalize be:World.alloc _ _=W;have aw:=aW be;have b4:=aI be;have ah:=ae aw;obtain⟨a7,am,aF⟩:=b4.two;clear be aw b4;go_wp2_with(fail);refine(yZ A n c l u p o k W (bq.1.on (Fr.ext ah.o)) hn (bq.2.1.on ah.o) bq.2.2.2.2.1 bq.2.2.2.2.2.1 (bq.2.2.1.aj ah.o) (bq.2.2.2.1.aj ah.o) bq.2.2.2.2.2.2).mono ?_;rintro e aU ⟨bb,rfl,U,aZ⟩;have bc:=ag U (ah.trans aZ);clear U aZ a7 am aF;go_wp2_with(fail);go_ret;exact⟨bb,rfl,bc.1,bc.2⟩
theorem wD(A:L3)(n c:Nat)(l:List (List ak))(u:ay)(p:UV)(o k:Nat)(w:World)(hl:Sl w (av w) A n (l.map jW))(hn:n<=140737488355328)(hu:p.Ok w u)(bp:u.procs.length<=100000)(a8:∀q∈u.procs,q.code.length<=100000)(m:aq w o 30 (p.val u))(I:aq w k 3 #[.int .i64 (elems u.af)])(bI:∀t∈l,t.length<=140737488355328/\∀f∈t,f.au.length<=140737488355328) :
  Calls prog 107 #[.slice A n c,.func (.func 66) #[] #[.pointer (some ⟨o,0,none⟩),.pointer (some ⟨k,0,none⟩)]] w (zy w l (λt=>∃f∈t,¬g3 u f)):=by
 have ca:l.length=n:=by have:=hl.1;simpa using this
 have bY:=ag ca hl;have bV:=cH hu m I bp a8 bI;clear hu m I bp a8 bI;clear ca hl;go_enter func107,ntmps107;go_wp2_with(fail);go_loopw [8] (λcy wr=>∃i:Nat,cy=.int .i64 i/\i<=n/\Ext w wr/\∀j x,j<i->l[j]?=some x->¬(λt=>∃f∈t,¬g3 u f) x) (λcy _=>n - (intOf cy).toNat)
 case atStart=>exact⟨0,rfl,ad,LW,λj x bi=>ad⟩
 case round=>
  obtain⟨i,rfl,an,aw,T⟩:=hrel;have bo:=ag aw T;by_cases al:i<n
  .obtain⟨cj,cY,f,FA,x,fc,rfl,cx,G,c0,aB,bG⟩:=(bY.2.on (Fr.ext aw)).kp al;have cn:x=f.length:=by have:=bG.1;simpa using this.symm
   have bI:=bV.2.2.2.2.2 f (Ln G);have cR:=aE bG (show x<=140737488355328 by rw[cn];exact bI.1) bI.2;have bZ:=ae G;have aT:cj<wr.heap.size:=cx;clear G cx bG aB cn bI;clear aw T;go_wp2_with(fail);refine(yH u p o k FA x fc f wr cR.1 cR.2.1 (bV.1.on bo.1) bV.2.2.2.1 bV.2.2.2.2.1 (bV.2.1.aj bo.1) (bV.2.2.1.aj bo.1) cR.2.2).mono ?_;exact DG
  .obtain rfl:i=n:=ad;exact DI
theorem wA(A:L3)(n c:Nat)(l:List (List ak))(u:ay)(p:UV)(o k:Nat)(w:World)(hl:Sl w (av w) A n (l.map jW))(hn:n<=140737488355328)(hu:p.Ok w u)(bp:u.procs.length<=100000)(a8:∀q∈u.procs,q.code.length<=100000)(m:aq w o 30 (p.val u))(I:aq w k 3 #[.int .i64 (elems u.af)])(bI:∀t∈l,t.length<=140737488355328/\∀f∈t,f.au.length<=140737488355328) :
  Calls prog 65 #[.slice A n c,.func (.func 66) #[] #[.pointer (some ⟨o,0,none⟩),.pointer (some ⟨k,0,none⟩)]] w (ix w (∃x∈l,(λt=>∃f∈t,¬g3 u f) x)):=by
 have ck:=ae (wD A n c l u p o k w hl hn hu bp a8 m I bI);clear hl hu bp a8 m I bI;go_enter func65,ntmps65;exact DJ
namespace Df
theorem hE(h:p:=by
 have ci:gn=u.globals.length:=by have:=hu.at_.g.1;simpa using this.symm
 have cm:bW=s.globals.length:=by have:=hs.at_.g.1;simpa using this.symm
 have cl:hn=s.threads.length:=by have:=hs.at_.h.1;simpa using this.symm
 have cb:L5 (tO u s↔bW=gn/\1<=hn/\hn<=32/\0<=s.fault/\s.fault<=4/\g4 u.af s.table hn=true/\∀t∈s.threads,∀f∈t,g3 u f):=ae (by rw[ci,cm,cl];exact Iff.rfl);have bq:=cH hX hu hs bp a8 bI;clear hX hu hs bp a8 bI ci cm cl;simp only at pd;dsimp only[UV.val,SV.val];generalize tO u s=o at *;generalize y:s.fault=bf at *;clear y;go_enter func21,ntmps21;go_upto_region 1 with(fail);generalize be:World.alloc _ _=W;have aw:=iS be;have bD:=gG be;have b4:=gf be;have ah:=aE aw bD b4;obtain⟨a0,aj,af⟩:=bD.two;obtain⟨a7,am,aF⟩:=b4.two;clear be aw bD b4;by_cases e1:¬bW=gn
 .have l:((bW:Int) != (gn:Int))=true:=by simp;omega
  exact zN
 have l:((bW:Int) != (gn:Int))=false:=by simp;omega
 have i:=ae e1;clear e1;by_cases e2:(hn:Int)<1
 .have m:decide ((hn:Int)<1)=true:=decide_eq_true e2;have n:=ae e2;clear e2;go_wp2_with(fail);go_ret;exact⟨false,rfl,⟨λh=>(by cases h),λh=>absurd (cb.1 h).2.1 (aD n.o)⟩,ah.1⟩
 have m:decide ((hn:Int)<1)=false:=decide_eq_false e2;have k:=ae e2;clear e2;by_cases e3:(hn:Int) > 32
 .have H:decide ((hn:Int) > 32)=true:=decide_eq_true e3;have n:=ae e3;clear e3;go_wp2_with(fail);go_ret;exact⟨false,rfl,⟨λh=>(by cases h),λh=>absurd (cb.1 h).2.2.1 (aD n.o)⟩,ah.1⟩
 have H:decide ((hn:Int) > 32)=false:=decide_eq_false e3;have j:=ae e3;clear e3;by_cases a6:bf<0
 .have I:decide (bf<0)=true:=decide_eq_true a6;have n:=ae a6;clear a6;go_wp2_with(fail);go_ret;exact⟨false,rfl,⟨λh=>(by cases h),λh=>absurd (cb.1 h).2.2.2.1 (aD n.o)⟩,ah.1⟩
 have I:decide (bf<0)=false:=decide_eq_false a6;have r:=ae a6;clear a6;by_cases cu:bf > 4
 .have K:decide (bf > 4)=true:=decide_eq_true cu;have n:=ae cu;clear cu;go_wp2_with(fail);go_ret;exact⟨false,rfl,⟨λh=>(by cases h),λh=>absurd (cb.1 h).2.2.2.2.1 (aD n.o)⟩,ah.1⟩
 have K:decide (bf > 4)=false:=decide_eq_false cu;have v:=ae cu;clear cu;go_wp2_with(fail);refine(zo MA TA mn mc tn tc u.af s.table hn W ((bq.2.1.on ah.1).at_.m.mT) bq.1 ((bq.2.2.1.on ah.1).at_.t.holds)).mono ?_;rintro e aS ⟨rfl,b1⟩;have aN:Ext W aS:=Fr.of b1;have H1:=ag aN (ah.1.trans aN);clear a0 aj af a7 am aF b1;obtain⟨a0,aj,af⟩:=(ah.2.1.aj aN).two;obtain⟨a7,am,aF⟩:=(ah.2.2.aj aN).two;clear aN
 cases bG:g4 u.af s.table hn with
 | false=>
  have ce:=ae bG;clear bG;go_wp2_with(fail);go_ret
  exact⟨false,rfl,⟨λh=>(by cases h),λh=>by have ac:=(cb.1 h).2.2.2.2.2.1;rw[ce.o] at ac;cases ac⟩,H1.2⟩
 | true=>
  have ce:=ae bG;clear bG;go_wp2_with(fail);refine(h6 MA mn mc u.af aS ((bq.2.1.on H1.2).at_.m.mT) bq.1).mono ?_;rintro e aU ⟨rfl,bj⟩;have aZ:Ext aS aU:=Fr.of bj;have bc:=ag (H1.1.trans aZ) (H1.2.trans aZ);clear a0 aj af a7 am aF bj aZ;go_upto_region 6 with(fail);generalize hX:World.alloc _ _=X;have bs:=aW hX;have br:=aI hX;have a2:=bc.1.trans bs;have aQ:=aE br a2 (ah.1.trans a2);obtain⟨a0,aj,af⟩:=(ah.2.1.aj a2).two;obtain⟨a7,am,aF⟩:=(ah.2.2.aj a2).two;obtain⟨bx,a5,aT⟩:=br.two;clear hX bs br a2;go_wp2_with(fail);refine(wA HA hn hc s.threads u ⟨GA,gn,gc,MA,mn,mc,PA,pn,pc⟩ w.heap.size aU.heap.size X (bq.2.2.1.on aQ.2.2).at_.h pd (bq.2.1.on aQ.2.2) bq.2.2.2.1 bq.2.2.2.2.1 (ah.2.1.aj aQ.2.1) aQ.1 bq.2.2.2.2.2).mono ?_;rintro e b6 ⟨bb,rfl,U,a4⟩;have bP:=ag U (aQ.2.2.trans a4);clear U a4 a0 aj af a7 am aF bx a5 aT;go_wp2_with(fail);go_ret;refine⟨!bb,rfl,⟨λh=>cb.2 ⟨by have:=i.o;omega,by have:=k.o;omega,by have:=j.o;omega,by have:=r.o;omega,by have:=v.o;omega,ce.o,λt ht f J=>?_⟩,λh=>?_⟩,bP.2⟩
  .have O:¬bb=true:=by cases bb<;>simp at h ⊢
   exact Classical.byContradiction λhn=>O (bP.1.2 ⟨t,ht,f,J,hn⟩)
  .have g:=(cb.1 h).2.2.2.2.2.2
   cases O:bb with
   | false=>rfl
   | true=>
    obtain⟨t,ht,f,J,hn⟩:=bP.1.1 O;exact absurd (g t ht f J) hn
 ):p:=h
end Df
open Df in
theorem ED(u:ay)(s:ai)(p:UV)(q:SV)(w:World)(hX:ns u.af)(hu:p.Ok w u)(hs:q.Ok w s)(bp:u.procs.length<=100000)(a8:∀q∈u.procs,q.code.length<=100000)(pd:q.hn<=140737488355328)(bI:∀t∈s.threads,t.length<=140737488355328/\∀f∈t,f.au.length<=140737488355328) :
  Calls prog 21 #[.agg (p.val u),.agg (q.val s)] w (ix w (tO u s)):=by
 exact hB
theorem ss{u:ay}{D:Nat}{s:ai}(hU:c5 u)(h:aX u D s):tO u s:=by
 refine⟨h.c7,h.xl.1,h.xl.2,h.fault.1,h.fault.2,oE h.table λk hd ap=>?_,λt ht f J=>?_⟩
 .have ah:=h.holds k hd ap;have bn:=ah.owner;have bs:=ah.depth;unfold eO;rw[decide_eq_false (show ¬hd.owner<0 by omega),decide_eq_false (show ¬(s.threads.length:Int)<hd.owner by omega),decide_eq_false (show ¬hd.depth<0 by omega)];have aY:((hd.owner == 0) != (hd.depth == 0))=false:=by
   by_cases h0:hd.owner=0
   .rw[h0,ah.Ep.1 h0];rfl
   .have ac:¬hd.depth=0:=λh=>h0 (ah.Ep.2 h);rw[show (hd.owner == 0)=false by simpa using h0,show (hd.depth == 0)=false by simpa using ac];rfl
  rw[aY];by_cases cI:1<hd.depth
  .rw[ah.re cI];simp
  .rw[decide_eq_false cI];rfl
 .have hF:=(h.ft t ht).2 f J;obtain⟨p,ac,au,aY,bR⟩:=hF.ex;exact⟨hF.proc,hF.pc,p,ac,au,aY,bR,hF.au⟩
end Go.Proofs.YtkhnkojkplbioaaGreat

/- Part 26 of the proof. No condition of its own. -/
import Derived.Test.YtnhhdaggkiomoaaGreatQ23
namespace Go.Proofs.YtnhhdaggkiomoaaGreat
open Go.RowKit Go.Proofs.Tryz
set_option maxRecDepth 1000000
set_option maxHeartbeats 25600000
set_option linter.unusedVariables false
variable{p:Prop}
namespace Cy
theorem so(h:p:=by
 go_enter func95,ntmps95;exact r6
 ):p:=h
end Cy
open Cy in
theorem vO(A A2:Ls)(n c n2 c2:Nat)(S T:List Int)(w:World)(hs:cq (EF cM) 1 w w.heap.size A n S)(ht:cq (EF cM) 1 w w.heap.size A2 n2 T)(hn:n≤140737488355328) :
  Calls prog 95 #[.slice A n c,.slice A2 n2 c2] w fun r ab=>r=.returned (.bool (decide (S=T)))∧Below w.heap.size w ab:=by
 have hl:=hs.1;have cg:=ht.1;by_cases bf:n=n2
 case neg=>
  exact sn
 subst bf;obtain⟨ca,J⟩:=aI hl cg;clear hl cg;have bm:((n:Int) != (n:Int))=false:=by simp
 go_enter func95,ntmps95;go_wp2;go_loopw [13] (fun i wr=>∃k:Nat,k≤n∧i=.int .i64 k∧(∀j,j<k→S[j]?=T[j]?)∧Below w.heap.size w wr) (fun i _=>n - (intOf i).toNat)
 case atStart=>exact⟨0,Ld _,rfl,fun j bi=>absurd bi ad,Below.refl _ _⟩
 case round=>
  obtain⟨k,ap,rfl,bR,O⟩:=hrel;have aA:=ae bR;clear bR;by_cases ak:k<n
  ·obtain⟨b,o,x,rfl,U,hx,c0⟩:=(hs.c4 O O.size).int ak;obtain⟨K,R,d,rfl,l,g,d0⟩:=(ht.c4 O O.size).int ak;exact F9
  ·obtain rfl:k=n:=ad;exact xf
namespace Cz
theorem so(h:p:=by
 go_enter func96,ntmps96;exact r6
 ):p:=h
end Cz
open Cz in
theorem Fb(A A2:Ls)(n c n2 c2:Nat)(S T:List cy)(w:World)(hs:cq (EF bJ) 2 w w.heap.size A n S)(ht:cq (EF bJ) 2 w w.heap.size A2 n2 T)(hn:n≤140737488355328) :
  Calls prog 96 #[.slice A n c,.slice A2 n2 c2] w fun r ab=>r=.returned (.bool (decide (S=T)))∧Below w.heap.size w ab:=by
 have hl:=hs.1;have cg:=ht.1;by_cases bf:n=n2
 case neg=>
  exact sn
 subst bf;obtain⟨ca,J⟩:=aI hl cg;clear hl cg;have bm:((n:Int) != (n:Int))=false:=by simp
 go_enter func96,ntmps96;go_wp2;go_loopw [13] (fun i wr=>∃k:Nat,k≤n∧i=.int .i64 k∧(∀j,j<k→S[j]?=T[j]?)∧Below w.heap.size w wr) (fun i _=>n - (intOf i).toNat)
 case atStart=>exact⟨0,Ld _,rfl,fun j bi=>absurd bi ad,Below.refl _ _⟩
 case round=>
  obtain⟨k,ap,rfl,bR,O⟩:=hrel;have aA:=ae bR;clear bR;by_cases ak:k<n
  ·obtain⟨b,o,x,rfl,U,hx,c0,c1⟩:=(hs.c4 O O.size).hold ak;obtain⟨K,R,d,rfl,l,g,d0,d1⟩:=(ht.c4 O O.size).hold ak;have bo:(0:Int)≤(k:Int):=ad;have cf:(k:Int)<(n:Int):=ad;have e:=xK x.owner x.depth d.owner d.depth;by_cases hd:x=d
   ·have aQ:=ae (show S[k]?=T[k]? by rw[hx,g,hd]);have u:decide (x.owner≠d.owner∨x.depth≠d.depth)=false:=by subst hd;simp
    exact Ga
   ·have aW:=ae (show decide (S=T)=false from decide_eq_false (fun h=>by
     subst h;rw[hx] at g;injection g with g;exact hd g))
    have u:decide (x.owner≠d.owner∨x.depth≠d.depth)=true:=decide_eq_true (by cases x;cases d;simp at hd ⊢;omega);exact Gq
  ·obtain rfl:k=n:=ad;exact xf
namespace CA
theorem pr(h:p:=by
 have ah:=aB aw bs bF;obtain⟨a0,ai,af⟩:=bs.two;obtain⟨a8,am,aF⟩:=bF.two;clear ba aw bs bF;by_cases e1:bf=dR
 case neg=>
  exact zb
 have q1:(bf == dR)=true:=by simpa using e1
 have n:=ae e1;clear e1;by_cases e2:p3=p4
 case neg=>
  have cB:(p3 == p4)=false:=by simpa using e2
  have b4:=ae e2;clear e2;go_wp2_with(fail);go_ret;exact⟨false,rfl,⟨fun h=>(by cases h),fun h=>absurd (cx.1 h).2.1 b4.o⟩,ah.1⟩
 have cB:(p3 == p4)=true:=by simpa using e2
 have v:=ae e2;clear e2;go_wp2_with(fail);refine(vO IA dh i ic j db dn m W ((bm.1.on (Fr.ext ah.1)).ints) ((bm.2.2.1.on (Fr.ext ah.1)).ints) ad).mono ?_;rintro e aS ⟨rfl,bU⟩;have aN:Ext W aS:=Fr.of bU;have H1:=ae (ah.1.trans aN);clear a0 ai af a8 am aF bU;obtain⟨a0,ai,af⟩:=(ah.2.1.ai aN).two;obtain⟨a8,am,aF⟩:=(ah.2.2.ai aN).two;clear aN;by_cases e3:dn=m
 case neg=>
  have dd:decide (dn=m)=false:=decide_eq_false e3;have b4:=ae e3;clear e3;go_wp2_with(fail);go_ret;exact⟨false,rfl,⟨fun h=>(by cases h),fun h=>absurd (cx.1 h).2.2.1 b4.o⟩,H1.o⟩
 have dd:decide (dn=m)=true:=decide_eq_true e3;have r:=ae e3;clear e3;go_wp2_with(fail);refine(vO S KA l lc k kc u df aS ((bm.2.1.on (Fr.ext H1.o)).ints) ((bm.2.2.2.on (Fr.ext H1.o)).ints) ad).mono ?_;rintro e aT ⟨rfl,bg⟩;have bG:=ae (H1.trans (Fr.of bg));clear a0 ai af a8 am aF bg;go_wp2_with(fail);go_ret;refine⟨decide (u=df),rfl,⟨fun h=>cx.2 ⟨n.o,v.o,r.o,of_decide_eq_true h⟩,fun h=>decide_eq_true (cx.1 h).2.2.2⟩,bG.o⟩
 ):p:=h
end CA
open CA in
theorem we(f g:al)(IA S dh KA:Ls)(i ic l lc j db k kc:Nat)(w:World)(ac:Sl w (au w) IA i (f.ints.map D.i))(av:Sl w (au w) S l (f.av.map D.i))(aV:Sl w (au w) dh j (g.ints.map D.i))(bz:Sl w (au w) KA k (g.av.map D.i))(an:i≤100000)(hl:l≤100000) :
  Calls prog 100 #[.agg #[.int .i64 f.proc,.int .i64 f.pc,.slice IA i ic,.slice S l lc],.agg #[.int .i64 g.proc,.int .i64 g.pc,.slice dh j db,.slice KA k kc]] w (ir w (f=g)):=by
 have bm:=bH ac av aV bz;have cx:Lu (f=g↔f.proc=g.proc∧f.pc=g.pc∧f.ints=g.ints∧f.av=g.av):=ae tN;clear ac av aV bz;generalize J:f.ints=dn at *;generalize cf:f.av=u at *;generalize L:g.ints=m at *;generalize ci:g.av=df at *;generalize o:f.proc=bf at *;generalize y:g.proc=dR at *;generalize q:f.pc=p3 at *;generalize s:g.pc=p4 at *;clear J cf L ci o y q s;go_enter func100,ntmps100;exact pq
namespace CB
theorem At(h:p:=by
 refine(we f g IA S dh KA x ic y lc z db v kc Y (cR.1.on (Fr.ext bC.o)) (cR.2.1.on (Fr.ext bC.o)) (cR.2.2.1.on (Fr.ext bC.o)) (cR.2.2.2.1.on (Fr.ext bC.o)) (aD cR.2.2.2.2) (aD cR.2.2.2.2)).mono ?_;exact Gf
 ):p:=h
theorem AU(h:p:=by
 have cR:=cI J cf L ci (show x≤100000∧y≤100000 by omega);have bY:=ag G u;clear a1 b0 ar J cf L ci G u cx bX aN a2 aW aO;clear aw T;go_upto_region 6 with(fail);generalize hX:World.alloc _ _=X;have br:=aU hX;have bo:=aG hX;have H:=bo.lt;have aQ:=ag br bo;replace d0:=(br.cell Z fun h=>h).trans d0
 replace d1:=(br.cell Z fun h=>h).trans d1
 replace d2:=(br.cell Z fun h=>h).trans d2
 replace d3:=(br.cell Z fun h=>h).trans d3
 exact As
 ):p:=h
theorem vr(h:p:=by
 go_enter func99,ntmps99;by_cases I:n=m
 case neg=>
  exact Gw
 subst I;have q1:((n:Int) != (n:Int))=false:=by simp
 go_wp2_with(fail);go_loopw [17] (fun cu wr=>∃i:Nat,cu=.int .i64 i∧i≤n∧Ext w wr∧∀j,j<i→l[j]?=k[j]?) (fun cu _=>n - (intOf cu).toNat)
 case atStart=>exact⟨0,rfl,ad,Lo,fun j bi=>ad⟩
 case round=>
  obtain⟨i,rfl,an,aw,T⟩:=hrel;have bq:=ag aw T;by_cases ak:i<n
  ·obtain⟨b1,c6,f,IA,x,ic,S,y,lc,rfl,cx,G,c0,c1,c2,c3,aN,a2,J,cf⟩:=(bm.1.on (Fr.ext aw)).pQ ak;obtain⟨ck,go,g,dh,z,db,KA,v,kc,rfl,bX,u,d0,d1,d2,d3,aW,aO,L,ci⟩:=(bm.2.on (Fr.ext aw)).pQ ak;exact AT
  ·obtain rfl:i=n:=ad;exact Gv
 ):p:=h
end CB
open CB in
theorem Dz(A B:Ls)(n c m aK:Nat)(l k:List al)(w:World)(hl:Sl w (au w) A n (l.map er))(ap:Sl w (au w) B m (k.map er))(hn:n≤1000000)(a1:∀f∈l,f.ints.length≤100000∧f.av.length≤100000) :
  Calls prog 99 #[.slice A n c,.slice B m aK,.func (.func 100) #[] #[]] w (ir w (l=k)):=by
 exact vq
namespace CC
theorem pr(h:p:=by
 have ah:=ae aw;obtain⟨a0,ai,af⟩:=bs.two;obtain⟨a8,am,aF⟩:=bF.two;clear ba aw bs bF;go_wp2_with(fail);refine(Dz A B n c m aK l k W (bm.1.on (Fr.ext ah.o)) (bm.2.1.on (Fr.ext ah.o)) hn bm.2.2).mono ?_;rintro e aT ⟨bb,rfl,U,a3⟩;clear a0 ai af a8 am aF;go_wp2_with(fail);go_ret;exact⟨bb,rfl,U,ah.trans a3⟩
 ):p:=h
end CC
open CC in
theorem tW(A B:Ls)(n c m aK:Nat)(l k:List al)(w:World)(hl:Sl w (au w) A n (l.map er))(ap:Sl w (au w) B m (k.map er))(hn:n≤1000000)(a1:∀f∈l,f.ints.length≤100000∧f.av.length≤100000) :
  Calls prog 98 #[.agg #[.slice A n c],.agg #[.slice B m aK]] w (ir w (l=k)):=by
 have bm:=aB hl ap a1;clear hl ap a1;go_enter func98,ntmps98;exact pq
namespace CD
theorem At(h:p:=by
 refine(tW FA GA x fc z gc f g Y (cR.1.on (Fr.ext bC.o)) (cR.2.1.on (Fr.ext bC.o)) cR.2.2.1 cR.2.2.2).mono ?_;exact Gf
 ):p:=h
theorem vr(h:p:=by
 go_enter func97,ntmps97;by_cases I:n=m
 case neg=>
  exact Gw
 subst I;have q1:((n:Int) != (n:Int))=false:=by simp
 go_wp2_with(fail);go_loopw [17] (fun cu wr=>∃i:Nat,cu=.int .i64 i∧i≤n∧Ext w wr∧∀j,j<i→l[j]?=k[j]?) (fun cu _=>n - (intOf cu).toNat)
 case atStart=>exact⟨0,rfl,ad,Lo,fun j bi=>ad⟩
 case round=>
  obtain⟨i,rfl,an,aw,T⟩:=hrel;have bq:=ag aw T;by_cases ak:i<n
  ·obtain⟨b1,c6,f,FA,x,fc,rfl,cx,G,c0,aC,cj⟩:=(bm.1.on (Fr.ext aw)).lA ak;obtain⟨ck,go,g,GA,z,gc,rfl,bX,u,d0,ay,bJ⟩:=(bm.2.on (Fr.ext aw)).lA ak;have bO:b1<wr.heap.size:=cx;have Z:ck<wr.heap.size:=bX;have a1:=b4.2.2 f (KJ G);have b0:x=f.length:=by have:=cj.1;simpa using this.symm
   have cR:=bH cj bJ (show x≤1000000 by omega) a1.2;have bY:=ag G u;clear a1 b0 cj bJ G u cx bX aC ay;clear aw T;go_upto_region 6 with(fail);generalize hX:World.alloc _ _=X;have br:=aU hX;have bo:=aG hX;have H:=bo.lt;have aQ:=ag br bo;replace d0:=(br.cell Z fun h=>h).trans d0
   exact As
  ·obtain rfl:i=n:=ad;exact Gv
 ):p:=h
end CD
open CD in
theorem yk(A B:Ls)(n c m aK:Nat)(l k:List (List al))(w:World)(hl:Sl w (au w) A n (l.map jP))(ap:Sl w (au w) B m (k.map jP))(hn:n≤1000000)(a1:∀t∈l,t.length≤1000000∧∀f∈t,f.ints.length≤100000∧f.av.length≤100000) :
  Calls prog 97 #[.slice A n c,.slice B m aK,.func (.func 98) #[] #[]] w (ir w (l=k)):=by
 exact vq
namespace CE
theorem pr(h:p:=by
 have ah:=aB aw bs bF;obtain⟨a0,ai,af⟩:=bs.two;obtain⟨a8,am,aF⟩:=bF.two;clear ba aw bs bF z i;by_cases e1:bf=dR
 case neg=>
  exact zb
 have q1:(bf == dR)=true:=by simpa using e1
 have n:=ae e1;clear e1;go_wp2_with(fail);refine(vO GA bH gn gc l k s.globals Q.globals W ((bm.1.on ah.1).at_.g.ints) ((bm.2.1.on ah.1).at_.g.ints) ad).mono ?_;rintro e aS ⟨rfl,bU⟩;have aN:Ext W aS:=Fr.of bU;have H1:=ae (ah.1.trans aN);clear a0 ai af a8 am aF bU;obtain⟨a0,ai,af⟩:=(ah.2.1.ai aN).two;obtain⟨a8,am,aF⟩:=(ah.2.2.ai aN).two;have g:=ae aN;clear aN;by_cases e3:s.globals=Q.globals
 case neg=>
  have dd:decide (s.globals=Q.globals)=false:=decide_eq_false e3;have b4:=ae e3;clear e3;go_wp2_with(fail);go_ret;exact⟨false,rfl,⟨fun h=>(by cases h),fun h=>absurd (cx.1 h).2.1 b4.o⟩,H1.o⟩
 have dd:decide (s.globals=Q.globals)=true:=decide_eq_true e3;have r:=ae e3;clear e3;go_wp2_with(fail);refine(Fb TA ab tn tc aI au s.table Q.table aS ((bm.1.on H1.o).at_.t.holds) ((bm.2.1.on H1.o).at_.t.holds) ad).mono ?_;rintro e aT ⟨rfl,bg⟩;have a3:Ext aS aT:=Fr.of bg;have bG:=ae (H1.trans a3);clear a0 ai af a8 am aF bg;obtain⟨a0,ai,af⟩:=(ah.2.1.ai (g.trans a3)).two;obtain⟨a8,am,aF⟩:=(ah.2.2.ai (g.trans a3)).two;clear a3;by_cases cH:s.table=Q.table
 case neg=>
  have df:decide (s.table=Q.table)=false:=decide_eq_false cH;have b4:=ae cH;clear cH;go_wp2_with(fail);go_ret;exact⟨false,rfl,⟨fun h=>(by cases h),fun h=>absurd (cx.1 h).2.2.1 b4.o⟩,bG.o⟩
 have df:decide (s.table=Q.table)=true:=decide_eq_true cH;have j:=ae cH;clear cH;go_wp2_with(fail);refine(yk HA b2 hn hc hm hd s.threads Q.threads aT ((bm.1.on bG.o).at_.h) ((bm.2.1.on bG.o).at_.h) ad bm.2.2).mono ?_;rintro e b6 ⟨bb,rfl,U,a7⟩;have bT:=ag U (bG.trans a7);clear a0 ai af a8 am aF U a7;go_wp2_with(fail);go_ret;exact⟨bb,rfl,⟨fun h=>cx.2 ⟨n.o,r.o,j.o,bT.1.1 h⟩,fun h=>bT.1.2 (cx.1 h).2.2.2⟩,bT.2⟩
 ):p:=h
end CE
open CE in
theorem IC(s Q:aj)(q ar:SV)(w:World)(h:q.Ok w s)(F:ar.Ok w Q)(a1:Small s) :
  Calls prog 49 #[.agg (q.val s),.agg (ar.val Q)] w (ir w (s=Q)):=by
 obtain⟨GA,gn,gc,TA,tn,tc,HA,hn,hc⟩:=q;obtain⟨bH,l,k,ab,aI,au,b2,hm,hd⟩:=ar;have rD:gn≤100000:=by have ac:=h.at_.g.1;have av:=a1.g;rw[KK] at ac;have aV:s.globals.length=gn:=ac;omega
 have tq:tn≤100000:=by have ac:=h.at_.t.1;have av:=a1.t;rw[KK] at ac;have aV:s.table.length=tn:=ac;omega
 have ot:hn≤100000:=by have ac:=h.at_.h.1;have av:=a1.h;rw[KK] at ac;have aV:s.threads.length=hn:=ac;omega
 have ax:∀t∈s.threads,t.length≤1000000∧∀f∈t,f.ints.length≤100000∧f.av.length≤100000:=fun t ht=>⟨by have:=(a1.f t ht).1;omega,fun f J=>by have:=(a1.f t ht).2 f J;omega⟩
 have bm:=aB h F ax;have cx:Lu (s=Q↔s.fault=Q.fault∧s.globals=Q.globals∧s.table=Q.table∧s.threads=Q.threads):=ae (by cases s;cases Q;simp;exact⟨fun⟨a,b,c,d⟩=>⟨d,a,b,c⟩,fun⟨d,a,b,c⟩=>⟨a,b,c,d⟩⟩);clear h F a1 ax;dsimp only[SV.val];generalize z:s.fault=bf at *;generalize i:Q.fault=dR at *;go_enter func49,ntmps49;exact pq
def gW(u:ay)(f:al):Prop:=0≤f.proc∧0≤f.pc∧∃p,u.procs[f.proc.toNat]?=some p∧f.pc<p.code.length∧(f.ints.length:Int)=p.locals∧(f.av.length:Int)=p.av∧∀k∈f.av,0≤k∧k<elems u.af
def te(u:ay)(s:aj):Prop:=s.globals.length=u.globals.length∧1≤s.threads.length∧s.threads.length≤32∧0≤s.fault∧s.fault≤4∧gX u.af s.table s.threads.length=true∧∀t∈s.threads,∀f∈t,gW u f
def y0{α:Type}(w:World)(l:List α)(p:α→Prop)(e:Ending)(ab:World):Prop:=∃r:Int,e=.returned (.int .i64 r)∧(0≤r↔∃x∈l,p x)∧Ext w ab
theorem EY(x N:Int)(g:Nat)(w:World)(a2:g<w.heap.size)(hc:w.cell? ⟨g,0,none⟩=some (.int .i64 N)) :
  Calls prog 105 #[.int .i64 x,.pointer (some ⟨g,0,none⟩)] w (ir w (x<0∨N≤x)):=by
 go_enter func105,ntmps105;by_cases h0:x<0
 ·have q1:decide (x<0)=true:=decide_eq_true h0;have b4:=ae h0;clear h0;go_wp2_with(fail);go_ret;exact⟨true,rfl,⟨fun _=>.inl b4.o,fun _=>rfl⟩,Lo⟩
 ·have q1:decide (x<0)=false:=decide_eq_false h0;have b4:=ae h0;clear h0;go_wp2_with(fail);go_ret;exact⟨decide (x≥N),rfl,⟨fun h=>.inr (of_decide_eq_true h),fun h=>decide_eq_true (aD b4.o)⟩,Lo⟩
theorem Fh(A:Ls)(n c:Nat)(l:List Int)(N:Int)(g:Nat)(w:World)(hl:Sl w (au w) A n (l.map D.i))(hn:n≤140737488355328)(a2:g<w.heap.size)(hc:w.cell? ⟨g,0,none⟩=some (.int .i64 N)) :
  Calls prog 128 #[.slice A n c,.func (.func 105) #[] #[.pointer (some ⟨g,0,none⟩)]] w (y0 w l (fun x=>x<0∨N≤x)):=by
 have b9:l.length=n:=by have:=hl.1;simpa using this
 have b4:=ag b9 hl;have bR:=ag a2 hc;clear hc;clear b9 hl;go_enter func128,ntmps128;go_wp2_with(fail);go_loopw [8] (fun cu wr=>∃i:Nat,cu=.int .i64 i∧i≤n∧Ext w wr∧∀j x,j<i→l[j]?=some x→¬(fun x=>x<0∨N≤x) x) (fun cu _=>n - (intOf cu).toNat)
 case atStart=>exact⟨0,rfl,ad,Lo,fun j x bi=>ad⟩
 case round=>
  obtain⟨i,rfl,an,aw,T⟩:=hrel;have bq:=ag aw T;by_cases ak:i<n
  ·obtain⟨b,o,x,rfl,O,hx,c0⟩:=(b4.2.on (Fr.ext aw)).tR ak;have bY:=ae hx;have aX:b<wr.heap.size:=O;clear hx O;clear aw T;go_wp2_with(fail);refine(EY x N g wr (KH bR.1 bq.1.size) ((bq.1.cell bR.1 fun h=>h).trans bR.2)).mono ?_;exact C3
  ·obtain rfl:i=n:=ad;exact C5
theorem hasInts(A:Ls)(n c:Nat)(l:List Int)(N:Int)(g:Nat)(w:World)(hl:Sl w (au w) A n (l.map D.i))(hn:n≤140737488355328)(a2:g<w.heap.size)(hc:w.cell? ⟨g,0,none⟩=some (.int .i64 N)) :
  Calls prog 104 #[.slice A n c,.func (.func 105) #[] #[.pointer (some ⟨g,0,none⟩)]] w (ir w (∃x∈l,(fun x=>x<0∨N≤x) x)):=by
 have cp:=ae (Fh A n c l N g w hl hn a2 hc);clear hl hc;go_enter func104,ntmps104;exact C6
theorem tY(u:ay)(f:al)(p:UV)(IA S:Ls)(i ic l lc:Nat)(w:World)(hu:p.Ok w u)(bk:u.procs.length≤100000)(bp:∀q∈u.procs,q.code.length≤100000)(ac:Sl w (au w) IA i (f.ints.map D.i))(av:Sl w (au w) S l (f.av.map D.i))(hl:l≤140737488355328) :
  Calls prog 60 #[.agg (p.val u),.agg #[.int .i64 f.proc,.int .i64 f.pc,.slice IA i ic,.slice S l lc],.int .i64 (elems u.af)] w (ir w (gW u f)):=by
 obtain⟨GA,gn,gc,MA,mn,mc,PA,pn,pc⟩:=p;have cD:i=f.ints.length:=by have:=ac.1;simpa using this.symm
 have bO:l=f.av.length:=by have:=av.1;simpa using this.symm
 have gt:u.procs.length=pn:=by have:=hu.at_.p.1;rw[KK] at this;exact this
 have bm:=hR hu ac av cD bO gt bp;have eN:pn≤100000:=ad;clear hu ac av cD bO gt bp bk;have cx:Lu (gW u f↔0≤f.proc∧0≤f.pc∧∃p,u.procs[f.proc.toNat]?=some p∧f.pc<p.code.length∧(f.ints.length:Int)=p.locals∧(f.av.length:Int)=p.av∧∀k∈f.av,0≤k∧k<elems u.af):=ae Iff.rfl;generalize gW u f=V at *;generalize s:f.proc=bf at *;generalize aC:f.pc=p3 at *;generalize J:elems u.af=N at *;clear s aC J;dsimp only[UV.val];go_enter func60,ntmps60;go_upto_region 1 with(fail);generalize ba:World.alloc _ _=W;have aw:=kq ba;have bF:=jo ba;have b7:=g5 ba;have ce:=jq ba;have ah:=bH aw bF b7 ce;obtain⟨a0,ai,af⟩:=bF.two;obtain⟨a8,am,aF⟩:=b7.two;obtain⟨d0,aL,aM⟩:=ce.two;clear ba aw bF b7 ce;by_cases e1:bf<0
 ·have q1:decide (bf<0)=true:=decide_eq_true e1;exact zf
 have q1:decide (bf<0)=false:=decide_eq_false e1;by_cases e2:bf≥(pn:Int)
 ·have cB:decide (bf≥(pn:Int))=true:=decide_eq_true e2;have n:=ag e1 e2;clear e1 e2;go_wp2_with(fail);go_ret;refine⟨false,rfl,⟨fun h=>(by cases h),fun h=>?_⟩,ah.1⟩;obtain⟨_,_,p,hp,_⟩:=cx.1 h;have:=(List.getElem?_eq_some_iff.1 hp).1;have:=n.o;have:=bm.2.2.2.2.2.1;omega
 have cB:decide (bf≥(pn:Int))=false:=decide_eq_false e2;have m:0≤bf:=ad;have o:bf<(pn:Int):=ad;obtain⟨pb,fu,cq,bx,bW,bJ,e,bQ,cM,cE,cw,cG,b5,cK,Z,T⟩:=(bm.1.on ah.1).at_.proc (k:=bf.toNat) (by show bf.toNat<pn;omega);simp only at e;subst e;have R:pb<W.heap.size:=bQ;have bB:bW=cq.code.length:=by have:=T.1;simpa using this.symm
 have P:=bm.2.2.2.2.2.2 cq (KJ cM);have Q:bW≤100000:=ad;have ck:=ag cM bB;clear e1 e2 bQ cM Z T bB P;go_upto_region 4 with(fail);generalize hX:World.alloc _ _=X;have br:=aU hX;have bo:=aG hX;have aQ:=ae (ah.1.trans br);clear a0 ai af a8 am aF d0 aL aM cE cw cG b5 cK;obtain⟨a8,am,aF⟩:=(ah.2.2.1.ai br).two;have bI:=ah.2.2.2.ai br;have z:=ae bI;have L:=bI.lt;obtain⟨bs,aX,a4⟩:=bo.two;clear hX br bo bI;have lU:V↔0≤p3∧p3<(bW:Int)∧(i:Int)=cq.locals∧(l:Int)=cq.av∧∀k∈f.av,0≤k∧k<N:=by
  rw[cx.o,ck.2,bm.2.2.2.1,bm.2.2.2.2.1];constructor
  ·rintro⟨_,av,p,hp,aV,bz,cm,aY⟩;rw[ck.1] at hp;injection hp with hp;subst hp;exact⟨av,aV,bz,cm,aY⟩
  ·rintro⟨av,aV,bz,cm,aY⟩;exact⟨m,av,cq,ck.1,aV,bz,cm,aY⟩
 have bV:=ae lU;clear lU;by_cases e3:p3≥0
 case neg=>
  have y:decide (p3≥0)=false:=decide_eq_false e3;have n:=ae e3;clear e3;go_wp2_with(fail);go_ret;exact⟨false,rfl,⟨fun h=>(by cases h),fun h=>absurd (bV.1 h).1 (aD n.o)⟩,aQ.o⟩
 have y:decide (p3≥0)=true:=decide_eq_true e3;have j:=ae e3;clear e3;by_cases cH:p3<(bW:Int)
 case neg=>
  have H:decide (p3<(bW:Int))=false:=decide_eq_false cH;have n:=ae cH;clear cH;go_wp2_with(fail);go_ret;exact⟨false,rfl,⟨fun h=>(by cases h),fun h=>absurd (bV.1 h).2.1 (aD n.o)⟩,aQ.o⟩
 have H:decide (p3<(bW:Int))=true:=decide_eq_true cH;have r:=ae cH;clear cH;by_cases cr:(i:Int)=cq.locals
 case neg=>
  have I:((i:Int) == cq.locals)=false:=by simpa using cr
  have n:=ae cr;clear cr;go_wp2_with(fail);go_ret;exact⟨false,rfl,⟨fun h=>(by cases h),fun h=>absurd (bV.1 h).2.2.1 (aD n.o)⟩,aQ.o⟩
 have I:((i:Int) == cq.locals)=true:=by simpa using cr
 have v:=ae cr;clear cr;by_cases a7:(l:Int)=cq.av
 case neg=>
  have M:((l:Int) == cq.av)=false:=by simpa using a7
  have n:=ae a7;clear a7;go_wp2_with(fail);go_ret;exact⟨false,rfl,⟨fun h=>(by cases h),fun h=>absurd (bV.1 h).2.2.2.1 (aD n.o)⟩,aQ.o⟩
 have M:((l:Int) == cq.av)=true:=by simpa using a7
 have K:=ae a7;clear a7;go_wp2_with(fail);refine(hasInts S l lc f.av N (w.heap.size+2) X (bm.2.2.1.on (Fr.ext aQ.o)) hl L (by rw[z.cell];rfl)).mono ?_;rintro e aT ⟨bb,rfl,U,a3⟩;have bG:=ag U (aQ.trans a3);clear U a3 a8 am aF bs aX a4;go_wp2_with(fail);go_ret;refine⟨!bb,rfl,⟨fun h=>bV.2 ⟨j.o,r.o,v.o,K.o,fun k ap=>?_⟩,fun h=>?_⟩,bG.2⟩
 ·have O:¬bb=true:=by cases bb<;>simp at h ⊢
  exact Classical.byContradiction fun hn=>O (bG.1.2 ⟨k,ap,show k<0∨N≤k by omega⟩)
 ·have:=(bV.1 h).2.2.2.2
  cases O:bb with
  | false=>rfl
  | true=>
   obtain⟨x,hx,bi⟩:=bG.1.1 O;have:=this x hx;omega
theorem Dh(u:ay)(f:al)(p:UV)(o k:Nat)(IA S:Ls)(i ic l lc:Nat)(w:World)(hu:p.Ok w u)(bk:u.procs.length≤100000)(bp:∀q∈u.procs,q.code.length≤100000)(ac:Sl w (au w) IA i (f.ints.map D.i))(av:Sl w (au w) S l (f.av.map D.i))(hl:l≤140737488355328)
  (m:aq w o 30 (p.val u)) (I:aq w k 3 #[.int .i64 (elems u.af)]) :
  Calls prog 59 #[.agg #[.int .i64 f.proc,.int .i64 f.pc,.slice IA i ic,.slice S l lc],.pointer (some ⟨o,0,none⟩),.pointer (some ⟨k,0,none⟩)] w (ir w (¬gW u f)):=by
 obtain⟨GA,gn,gc,MA,mn,mc,PA,pn,pc⟩:=p;have bm:=cI hu ac av m I;clear hu ac av m I;go_enter func59,ntmps59;go_upto_region 1 with(fail);generalize ba:World.alloc _ _=W;have aw:=aU ba;have b7:=aG ba;have ah:=ae aw;obtain⟨a0,ai,af⟩:=(bm.2.2.2.1.ai aw).two;obtain⟨a8,am,aF⟩:=b7.two;obtain⟨d0,aL,aM⟩:=(bm.2.2.2.2.ai aw).two;clear ba aw b7;go_wp2_with(fail);refine(tY u f ⟨GA,gn,gc,MA,mn,mc,PA,pn,pc⟩ IA S i ic l lc W (bm.1.on ah.o) bk bp (bm.2.1.on (Fr.ext ah.o)) (bm.2.2.1.on (Fr.ext ah.o)) hl).mono ?_;rintro e aT ⟨bb,rfl,U,a3⟩;have bG:=ag U (ah.trans a3);clear U a3 a0 ai af a8 am aF d0 aL aM;go_wp2_with(fail);go_ret;refine⟨!bb,rfl,⟨fun h bM=>?_,fun h=>?_⟩,bG.2⟩
 ·rw[bG.1.2 bM] at h;cases h
 ·cases O:bb with
  | false=>rfl
  | true=>exact absurd (bG.1.1 O) h
theorem yr(A:Ls)(n c:Nat)(l:List al)(u:ay)(p:UV)(o k:Nat)(w:World)(hl:Sl w (au w) A n (l.map er))(hn:n≤140737488355328)(hu:p.Ok w u)(bk:u.procs.length≤100000)(bp:∀q∈u.procs,q.code.length≤100000)(m:aq w o 30 (p.val u))(I:aq w k 3 #[.int .i64 (elems u.af)])(a1:∀f∈l,f.av.length≤140737488355328) :
  Calls prog 103 #[.slice A n c,.func (.func 59) #[] #[.pointer (some ⟨o,0,none⟩),.pointer (some ⟨k,0,none⟩)]] w (y0 w l (fun f=>¬gW u f)):=by
 have b9:l.length=n:=by have:=hl.1;simpa using this
 have b4:=ag b9 hl;have bR:=cT hu m I bk bp a1;clear hu m I bk bp a1;clear b9 hl;go_enter func103,ntmps103;go_wp2_with(fail);go_loopw [8] (fun cu wr=>∃i:Nat,cu=.int .i64 i∧i≤n∧Ext w wr∧∀j x,j<i→l[j]?=some x→¬(fun f=>¬gW u f) x) (fun cu _=>n - (intOf cu).toNat)
 case atStart=>exact⟨0,rfl,ad,Lo,fun j x bi=>ad⟩
 case round=>
  obtain⟨i,rfl,an,aw,T⟩:=hrel;have bq:=ag aw T;by_cases ak:i<n
  ·obtain⟨b1,c6,f,IA,x,ic,S,y,lc,rfl,cx,G,c0,c1,c2,c3,aN,a2,J,cf⟩:=(b4.2.on (Fr.ext aw)).pQ ak;have ar:y=f.av.length:=by have:=cf.1;simpa using this.symm
   have cR:=aB J cf (show y≤140737488355328 by rw[ar];exact bR.2.2.2.2.2 f (KJ G));have bY:=ae G;have aX:b1<wr.heap.size:=cx;clear G cx J cf aN a2 ar;clear aw T;go_wp2_with(fail);refine(Dh u f p o k IA S x ic y lc wr (bR.1.on bq.1) bR.2.2.2.1 bR.2.2.2.2.1 cR.1 cR.2.1 cR.2.2 (bR.2.1.ai bq.1) (bR.2.2.1.ai bq.1)).mono ?_;exact C3
  ·obtain rfl:i=n:=ad;exact C5
theorem yq(A:Ls)(n c:Nat)(l:List al)(u:ay)(p:UV)(o k:Nat)(w:World)(hl:Sl w (au w) A n (l.map er))(hn:n≤140737488355328)(hu:p.Ok w u)(bk:u.procs.length≤100000)(bp:∀q∈u.procs,q.code.length≤100000)(m:aq w o 30 (p.val u))(I:aq w k 3 #[.int .i64 (elems u.af)])(a1:∀f∈l,f.av.length≤140737488355328) :
  Calls prog 58 #[.slice A n c,.func (.func 59) #[] #[.pointer (some ⟨o,0,none⟩),.pointer (some ⟨k,0,none⟩)]] w (ir w (∃x∈l,(fun f=>¬gW u f) x)):=by
 have cp:=ae (yr A n c l u p o k w hl hn hu bk bp m I a1);clear hl hu bk bp m I a1;go_enter func58,ntmps58;exact C6
theorem yb(u:ay)(p:UV)(o k:Nat)(A:Ls)(n c:Nat)(l:List al)(w:World)(hl:Sl w (au w) A n (l.map er))(hn:n≤140737488355328)(hu:p.Ok w u)(bk:u.procs.length≤100000)(bp:∀q∈u.procs,q.code.length≤100000)(m:aq w o 30 (p.val u))(I:aq w k 3 #[.int .i64 (elems u.af)])(a1:∀f∈l,f.av.length≤140737488355328) :
  Calls prog 57 #[.agg #[.slice A n c],.pointer (some ⟨o,0,none⟩),.pointer (some ⟨k,0,none⟩)] w (ir w (∃f∈l,¬gW u f)):=by
 have bm:=hR hl hu m I bk bp a1;clear hl hu m I bk bp a1;go_enter func57,ntmps57;go_upto_region 1 with(fail);generalize ba:World.alloc _ _=W;have aw:=aU ba;have b7:=aG ba;have ah:=ae aw;obtain⟨a8,am,aF⟩:=b7.two;clear ba aw b7;go_wp2_with(fail);refine(yq A n c l u p o k W (bm.1.on (Fr.ext ah.o)) hn (bm.2.1.on ah.o) bm.2.2.2.2.1 bm.2.2.2.2.2.1 (bm.2.2.1.ai ah.o) (bm.2.2.2.1.ai ah.o) bm.2.2.2.2.2.2).mono ?_;rintro e aT ⟨bb,rfl,U,a3⟩;have bG:=ag U (ah.trans a3);clear U a3 a8 am aF;go_wp2_with(fail);go_ret;exact⟨bb,rfl,bG.1,bG.2⟩
theorem vU(A:Ls)(n c:Nat)(l:List (List al))(u:ay)(p:UV)(o k:Nat)(w:World)(hl:Sl w (au w) A n (l.map jP))(hn:n≤140737488355328)(hu:p.Ok w u)(bk:u.procs.length≤100000)(bp:∀q∈u.procs,q.code.length≤100000)(m:aq w o 30 (p.val u))(I:aq w k 3 #[.int .i64 (elems u.af)])(a1:∀t∈l,t.length≤140737488355328∧∀f∈t,f.av.length≤140737488355328) :
  Calls prog 102 #[.slice A n c,.func (.func 57) #[] #[.pointer (some ⟨o,0,none⟩),.pointer (some ⟨k,0,none⟩)]] w (y0 w l (fun t=>∃f∈t,¬gW u f)):=by
 have b9:l.length=n:=by have:=hl.1;simpa using this
 have b4:=ag b9 hl;have bR:=cT hu m I bk bp a1;clear hu m I bk bp a1;clear b9 hl;go_enter func102,ntmps102;go_wp2_with(fail);go_loopw [8] (fun cu wr=>∃i:Nat,cu=.int .i64 i∧i≤n∧Ext w wr∧∀j x,j<i→l[j]?=some x→¬(fun t=>∃f∈t,¬gW u f) x) (fun cu _=>n - (intOf cu).toNat)
 case atStart=>exact⟨0,rfl,ad,Lo,fun j x bi=>ad⟩
 case round=>
  obtain⟨i,rfl,an,aw,T⟩:=hrel;have bq:=ag aw T;by_cases ak:i<n
  ·obtain⟨b1,c6,f,FA,x,fc,rfl,cx,G,c0,aC,cj⟩:=(b4.2.on (Fr.ext aw)).lA ak;have b0:x=f.length:=by have:=cj.1;simpa using this.symm
   have a1:=bR.2.2.2.2.2 f (KJ G);have cR:=aB cj (show x≤140737488355328 by rw[b0];exact a1.1) a1.2;have bY:=ae G;have aX:b1<wr.heap.size:=cx;clear G cx cj aC b0 a1;clear aw T;go_wp2_with(fail);refine(yb u p o k FA x fc f wr cR.1 cR.2.1 (bR.1.on bq.1) bR.2.2.2.1 bR.2.2.2.2.1 (bR.2.1.ai bq.1) (bR.2.2.1.ai bq.1) cR.2.2).mono ?_;exact C3
  ·obtain rfl:i=n:=ad;exact C5
theorem vR(A:Ls)(n c:Nat)(l:List (List al))(u:ay)(p:UV)(o k:Nat)(w:World)(hl:Sl w (au w) A n (l.map jP))(hn:n≤140737488355328)(hu:p.Ok w u)(bk:u.procs.length≤100000)(bp:∀q∈u.procs,q.code.length≤100000)(m:aq w o 30 (p.val u))(I:aq w k 3 #[.int .i64 (elems u.af)])(a1:∀t∈l,t.length≤140737488355328∧∀f∈t,f.av.length≤140737488355328) :
  Calls prog 56 #[.slice A n c,.func (.func 57) #[] #[.pointer (some ⟨o,0,none⟩),.pointer (some ⟨k,0,none⟩)]] w (ir w (∃x∈l,(fun t=>∃f∈t,¬gW u f) x)):=by
 have cp:=ae (vU A n c l u p o k w hl hn hu bk bp m I a1);clear hl hu bk bp m I a1;go_enter func56,ntmps56;exact C6
namespace CF
theorem hv(h:p:=by
 have ci:gn=u.globals.length:=by have:=hu.at_.g.1;simpa using this.symm
 have ch:bL=s.globals.length:=by have:=hs.at_.g.1;simpa using this.symm
 have cE:hn=s.threads.length:=by have:=hs.at_.h.1;simpa using this.symm
 have cx:Lu (te u s↔bL=gn∧1≤hn∧hn≤32∧0≤s.fault∧s.fault≤4∧gX u.af s.table hn=true∧∀t∈s.threads,∀f∈t,gW u f):=ae (by rw[ci,ch,cE];exact Iff.rfl);have bm:=cT hX hu hs bk bp a1;clear hX hu hs bk bp a1 ci ch cE;simp only at ot;dsimp only[UV.val,SV.val];generalize te u s=o at *;generalize z:s.fault=bf at *;clear z;go_enter func20,ntmps20;go_upto_region 1 with(fail);generalize ba:World.alloc _ _=W;have aw:=iO ba;have bF:=gB ba;have b7:=fZ ba;have ah:=aB aw bF b7;obtain⟨a0,ai,af⟩:=bF.two;obtain⟨a8,am,aF⟩:=b7.two;clear ba aw bF b7;by_cases e1:¬bL=gn
 ·have l:((bL:Int) != (gn:Int))=true:=by simp;omega
  exact zf
 have l:((bL:Int) != (gn:Int))=false:=by simp;omega
 have i:=ae e1;clear e1;by_cases e2:(hn:Int)<1
 ·have m:decide ((hn:Int)<1)=true:=decide_eq_true e2;have n:=ae e2;clear e2;go_wp2_with(fail);go_ret;exact⟨false,rfl,⟨fun h=>(by cases h),fun h=>absurd (cx.1 h).2.1 (aD n.o)⟩,ah.1⟩
 have m:decide ((hn:Int)<1)=false:=decide_eq_false e2;have k:=ae e2;clear e2;by_cases e3:(hn:Int) > 32
 ·have y:decide ((hn:Int) > 32)=true:=decide_eq_true e3;have n:=ae e3;clear e3;go_wp2_with(fail);go_ret;exact⟨false,rfl,⟨fun h=>(by cases h),fun h=>absurd (cx.1 h).2.2.1 (aD n.o)⟩,ah.1⟩
 have y:decide ((hn:Int) > 32)=false:=decide_eq_false e3;have j:=ae e3;clear e3;by_cases cH:bf<0
 ·have H:decide (bf<0)=true:=decide_eq_true cH;have n:=ae cH;clear cH;go_wp2_with(fail);go_ret;exact⟨false,rfl,⟨fun h=>(by cases h),fun h=>absurd (cx.1 h).2.2.2.1 (aD n.o)⟩,ah.1⟩
 have H:decide (bf<0)=false:=decide_eq_false cH;have r:=ae cH;clear cH;by_cases cr:bf > 4
 ·have I:decide (bf > 4)=true:=decide_eq_true cr;have n:=ae cr;clear cr;go_wp2_with(fail);go_ret;exact⟨false,rfl,⟨fun h=>(by cases h),fun h=>absurd (cx.1 h).2.2.2.2.1 (aD n.o)⟩,ah.1⟩
 have I:decide (bf > 4)=false:=decide_eq_false cr;have v:=ae cr;clear cr;go_wp2_with(fail);refine(yP MA TA mn mc tn tc u.af s.table hn W ((bm.2.1.on ah.1).at_.m.ou) bm.1 ((bm.2.2.1.on ah.1).at_.t.holds)).mono ?_;rintro e aS ⟨rfl,bU⟩;have aN:Ext W aS:=Fr.of bU;have H1:=ag aN (ah.1.trans aN);clear a0 ai af a8 am aF bU;obtain⟨a0,ai,af⟩:=(ah.2.1.ai aN).two;obtain⟨a8,am,aF⟩:=(ah.2.2.ai aN).two;clear aN
 cases bM:gX u.af s.table hn with
 | false=>
  have cc:=ae bM;clear bM;go_wp2_with(fail);go_ret
  exact⟨false,rfl,⟨fun h=>(by cases h),fun h=>by have ac:=(cx.1 h).2.2.2.2.2.1;rw[cc.o] at ac;cases ac⟩,H1.2⟩
 | true=>
  have cc:=ae bM;clear bM;go_wp2_with(fail);refine(h1 MA mn mc u.af aS ((bm.2.1.on H1.2).at_.m.ou) bm.1).mono ?_;rintro e aT ⟨rfl,bg⟩;have a3:Ext aS aT:=Fr.of bg;have bG:=ag (H1.1.trans a3) (H1.2.trans a3);clear a0 ai af a8 am aF bg a3;go_upto_region 6 with(fail);generalize hX:World.alloc _ _=X;have br:=aU hX;have bo:=aG hX;have aY:=bG.1.trans br;have aQ:=aB bo aY (ah.1.trans aY);obtain⟨a0,ai,af⟩:=(ah.2.1.ai aY).two;obtain⟨a8,am,aF⟩:=(ah.2.2.ai aY).two;obtain⟨bs,aX,a4⟩:=bo.two;clear hX br bo aY;go_wp2_with(fail);refine(vR HA hn hc s.threads u ⟨GA,gn,gc,MA,mn,mc,PA,pn,pc⟩ w.heap.size aT.heap.size X (bm.2.2.1.on aQ.2.2).at_.h ot (bm.2.1.on aQ.2.2) bm.2.2.2.1 bm.2.2.2.2.1 (ah.2.1.ai aQ.2.1) aQ.1 bm.2.2.2.2.2).mono ?_;rintro e b6 ⟨bb,rfl,U,a7⟩;have bT:=ag U (aQ.2.2.trans a7);clear U a7 a0 ai af a8 am aF bs aX a4;go_wp2_with(fail);go_ret;refine⟨!bb,rfl,⟨fun h=>cx.2 ⟨by have:=i.o;omega,by have:=k.o;omega,by have:=j.o;omega,by have:=r.o;omega,by have:=v.o;omega,cc.o,fun t ht f J=>?_⟩,fun h=>?_⟩,bT.2⟩
  ·have O:¬bb=true:=by cases bb<;>simp at h ⊢
   exact Classical.byContradiction fun hn=>O (bT.1.2 ⟨t,ht,f,J,hn⟩)
  ·have g:=(cx.1 h).2.2.2.2.2.2
   cases O:bb with
   | false=>rfl
   | true=>
    obtain⟨t,ht,f,J,hn⟩:=bT.1.1 O;exact absurd (g t ht f J) hn
 ):p:=h
end CF
open CF in
theorem Hp(u:ay)(s:aj)(p:UV)(q:SV)(w:World)(hX:m2 u.af)(hu:p.Ok w u)(hs:q.Ok w s)(bk:u.procs.length≤100000)(bp:∀q∈u.procs,q.code.length≤100000)(ot:q.hn≤140737488355328)(a1:∀t∈s.threads,t.length≤140737488355328∧∀f∈t,f.av.length≤140737488355328) :
  Calls prog 20 #[.agg (p.val u),.agg (q.val s)] w (ir w (te u s)):=by
 exact hr
theorem yO{u:ay}{D:Nat}{s:aj}(hU:cZ u)(h:aX u D s):te u s:=by
 refine⟨h.dg,h.x0.1,h.x0.2,h.fault.1,h.fault.2,oc h.table fun k hd ap=>?_,fun t ht f J=>?_⟩
 ·have ah:=h.holds k hd ap;have bn:=ah.owner;have bG:=ah.depth;unfold eJ;rw[decide_eq_false (show ¬hd.owner<0 by omega),decide_eq_false (show ¬(s.threads.length:Int)<hd.owner by omega),decide_eq_false (show ¬hd.depth<0 by omega)];have aV:((hd.owner == 0) != (hd.depth == 0))=false:=by
   by_cases h0:hd.owner=0
   ·rw[h0,ah.DM.1 h0];rfl
   ·have ac:¬hd.depth=0:=fun h=>h0 (ah.DM.2 h);rw[show (hd.owner == 0)=false by simpa using h0,show (hd.depth == 0)=false by simpa using ac];rfl
  rw[aV];by_cases cm:1<hd.depth
  ·rw[ah.re cm];simp
  ·rw[decide_eq_false cm];rfl
 ·have hF:=(h.fm t ht).2 f J;obtain⟨p,ac,av,aV,bz⟩:=hF.ex;exact⟨hF.proc,hF.pc,p,ac,av,aV,bz,hF.av⟩
end Go.Proofs.YtnhhdaggkiomoaaGreat

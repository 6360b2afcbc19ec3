/- Part 24 of the proof (MsA MsB MsC), without conditions of its own. -/
import Derived.Test.YtjhgbdckgkppnaaGreatQ23
namespace Go.Proofs.YtjhgbdckgkppnaaGreat
open Go.RowKit Go.Proofs.Tryz
set_option maxRecDepth 1000000
set_option maxHeartbeats 25600000
set_option linter.unusedVariables false
variable{p:Prop}
namespace zv
theorem pW(h:p:=by
 go_enter func34,ntmps34;exact uk
 ):p:=h
end zv
open zv in
theorem sV(A A2:GR)(n c bl c2:Nat)(S T:List Int)(w:World)(hs:cG (EF dB) 1 w w.heap.size A n S)(ht:cG (EF dB) 1 w w.heap.size A2 bl T)(hn:n≤140737488355328) :
  Calls prog 34 #[.slice A n c,.slice A2 bl c2] w fun r ab=>r=.returned (.bool (decide (S=T)))∧Below w.heap.size w ab:=by
 have hl:=hs.1;have bR:=ht.1;by_cases a2:n=bl
 case neg=>
  exact pV
 subst a2;have b0:=ae hl;have ak:=ae bR;clear hl bR;have a8:((n:Int) != (n:Int))=false:=by simp
 go_enter func34,ntmps34;go_wp2;go_loopw [13] (fun i wr=>∃k:Nat,k≤n∧i=.int .i64 k∧(∀j,j<k→S[j]?=T[j]?)∧Below w.heap.size w wr) (fun i _=>n - (intOf i).toNat)
 case atStart=>exact⟨0,Gz _,rfl,fun j ba=>absurd ba ad,Below.refl _ _⟩
 case round=>
  obtain⟨k,ap,rfl,cr,O⟩:=hrel;have aO:=ae cr;clear cr;by_cases ao:k<n
  ·obtain⟨b,o,x,rfl,U,hx,c0⟩:=(hs.cZ O O.size).int ao;obtain⟨K,V,d,rfl,g,a,a6⟩:=(ht.cZ O O.size).int ao;exact C2
  ·obtain rfl:k=n:=ad;exact ud
namespace zw
theorem pW(h:p:=by
 go_enter func35,ntmps35;exact uk
 ):p:=h
end zw
open zw in
theorem B2(A A2:GR)(n c bl c2:Nat)(S T:List ct)(w:World)(hs:cG (EF bZ) 2 w w.heap.size A n S)(ht:cG (EF bZ) 2 w w.heap.size A2 bl T)(hn:n≤140737488355328) :
  Calls prog 35 #[.slice A n c,.slice A2 bl c2] w fun r ab=>r=.returned (.bool (decide (S=T)))∧Below w.heap.size w ab:=by
 have hl:=hs.1;have bR:=ht.1;by_cases a2:n=bl
 case neg=>
  exact pV
 subst a2;have b0:=ae hl;have ak:=ae bR;clear hl bR;have a8:((n:Int) != (n:Int))=false:=by simp
 go_enter func35,ntmps35;go_wp2;go_loopw [13] (fun i wr=>∃k:Nat,k≤n∧i=.int .i64 k∧(∀j,j<k→S[j]?=T[j]?)∧Below w.heap.size w wr) (fun i _=>n - (intOf i).toNat)
 case atStart=>exact⟨0,Gz _,rfl,fun j ba=>absurd ba ad,Below.refl _ _⟩
 case round=>
  obtain⟨k,ap,rfl,cr,O⟩:=hrel;have aO:=ae cr;clear cr;by_cases ao:k<n
  ·obtain⟨b,o,x,rfl,U,hx,c0,c1⟩:=(hs.cZ O O.size).hold ao;obtain⟨K,V,d,rfl,g,a,a6,ca⟩:=(ht.cZ O O.size).hold ao;have aG:(0:Int)≤(k:Int):=ad;have bF:(k:Int)<(n:Int):=ad;have e:=uN x.owner x.depth d.owner d.depth;by_cases hd:x=d
   ·have aU:=ae (show S[k]?=T[k]? by rw[hx,a,hd]);have C:decide (x.owner≠d.owner∨x.depth≠d.depth)=false:=by subst hd;simp
    exact C3
   ·have aZ:=ae (show decide (S=T)=false from decide_eq_false (fun h=>by
     subst h;rw[hx] at a;injection a with a;exact hd a))
    have C:decide (x.owner≠d.owner∨x.depth≠d.depth)=true:=decide_eq_true (by cases x;cases d;simp at hd ⊢;omega);exact De
  ·obtain rfl:k=n:=ad;exact ud
namespace zx
theorem fN(h:p:=by
 have bD:ag W w.heap.size 76 #[.int .i64 a2,.int .i64 p3,.slice IA i ic,.slice bj l lc]:=bg▸(GO).alloc _;have bL:ag W (w.heap.size+1) 76 #[.int .i64 dh,.int .i64 dQ,.slice cZ j cN,.slice KA k kc]:=bg▸ag.bR _ _ _ (by simp);have aj:=aK av bD bL;obtain⟨a0,al,af⟩:=bD.two;obtain⟨a7,am,aE⟩:=bL.two;clear bg av bD bL;by_cases e1:a2=dh
 case neg=>
  exact Dr
 have co:(a2 == dh)=true:=by simpa using e1
 have u:=ae e1;clear e1;by_cases e2:p3=dQ
 case neg=>
  have ej:(p3 == dQ)=false:=by simpa using e2
  have bB:=ae e2;clear e2;go_wp2_with (fail);go_ret;exact⟨false,rfl,⟨fun h=>(by cases h),fun h=>absurd (c6.1 h).2.1 bB.o⟩,aj.1⟩
 have ej:(p3 == dQ)=true:=by simpa using e2
 have v:=ae e2;clear e2;go_wp2_with (fail);refine(sV IA cZ i ic j cN dk m W ((a8.1.on (Fr.ext aj.1)).ints) ((a8.2.2.1.on (Fr.ext aj.1)).ints) ad).mono ?_;rintro e aH ⟨rfl,bQ⟩;have aI:Ext W aH:=Fr.of bQ;have H1:=ae (aj.1.trans aI);clear a0 al af a7 am aE bQ;obtain⟨a0,al,af⟩:=(aj.2.1.al aI).two;obtain⟨a7,am,aE⟩:=(aj.2.2.al aI).two;clear aI;by_cases e3:dk=m
 case neg=>
  have cT:decide (dk=m)=false:=decide_eq_false e3;have bB:=ae e3;clear e3;go_wp2_with (fail);go_ret;exact⟨false,rfl,⟨fun h=>(by cases h),fun h=>absurd (c6.1 h).2.2.1 bB.o⟩,H1.o⟩
 have cT:decide (dk=m)=true:=decide_eq_true e3;have x:=ae e3;clear e3;go_wp2_with (fail);refine(sV bj KA l lc k kc s cl aH ((a8.2.1.on (Fr.ext H1.o)).ints) ((a8.2.2.2.on (Fr.ext H1.o)).ints) ad).mono ?_;rintro e aQ ⟨rfl,bt⟩;have bk:=ae (H1.trans (Fr.of bt));clear a0 al af a7 am aE bt;go_wp2_with (fail);go_ret;refine⟨decide (s=cl),rfl,⟨fun h=>c6.2 ⟨u.o,v.o,x.o,of_decide_eq_true h⟩,fun h=>decide_eq_true (c6.1 h).2.2.2⟩,bk.o⟩
 ):p:=h
end zx
open zx in
theorem td(f g:aq)(IA bj cZ KA:GR)(i ic l lc j cN k kc:Nat)(w:World)(ac:Sl w (au w) IA i (f.ints.map D.i))(J:Sl w (au w) bj l (f.av.map D.i))(aS:Sl w (au w) cZ j (g.ints.map D.i))(bo:Sl w (au w) KA k (g.av.map D.i))(aJ:i≤100000)(hl:l≤100000) :
  Calls prog 39 #[.agg #[.int .i64 f.proc,.int .i64 f.pc,.slice IA i ic,.slice bj l lc],.agg #[.int .i64 g.proc,.int .i64 g.pc,.slice cZ j cN,.slice KA k kc]] w (hf w (f=g)):=by
 have a8:=bO ac J aS bo;have c6:GU (f=g↔f.proc=g.proc∧f.pc=g.pc∧f.ints=g.ints∧f.av=g.av):=ae rb;clear ac J aS bo;generalize t:f.ints=dk at *;generalize b2:f.av=s at *;generalize ab:g.ints=m at *;generalize cc:g.av=cl at *;generalize o:f.proc=a2 at *;generalize n:g.proc=dh at *;generalize q:f.pc=p3 at *;generalize r:g.pc=dQ at *;clear t b2 ab cc o n q r;go_enter func39,ntmps39;exact fM
namespace zy
theorem xD(h:p:=by
 have dr:=cA t b2 ab cc (show x≤100000∧y≤100000 by omega);have bT:=ai ay T;clear H bN aA t b2 ab cc ay T ci cl Z aM bc aX;clear av L;go_upto_region 6 with(fail);generalize ah:World.alloc _ _=X;have br:Ext wr X:=ah▸GN.alloc _;have bz:ag X wr.heap.size 76 #[.int .i64 f.proc,.int .i64 f.pc,.slice IA x ic,.slice bj y lc]:=ah▸GO;have cR:=bz.lt;have aU:=ai br bz;replace a6:=(br.cell aI fun h=>h).trans a6
 replace ca:=(br.cell aI fun h=>h).trans ca
 replace aP:=(br.cell aI fun h=>h).trans aP
 replace cx:=(br.cell aI fun h=>h).trans cx
 have o:b1<X.heap.size:=Gc aI br.size;clear ah br bz;go_upto_region 7 with(fail);generalize cb:World.alloc _ _=Y;have bw:Ext X Y:=cb▸GN.alloc _;have bA:ag Y X.heap.size 76 #[.int .i64 g.proc,.int .i64 g.pc,.slice cZ z cN,.slice KA v kc]:=cb▸GO;have bM:=ae (aU.1.trans bw);obtain⟨bD,bE,b5⟩:=(aU.2.al bw).two;obtain⟨b8,an,ar⟩:=bA.two;clear cb bw bA;go_wp2_with (fail);refine(td f g IA bj cZ KA x ic y lc z cN v kc Y (dr.1.on (Fr.ext bM.o)) (dr.2.1.on (Fr.ext bM.o)) (dr.2.2.1.on (Fr.ext bM.o)) (dr.2.2.2.1.on (Fr.ext bM.o)) (aB dr.2.2.2.2) (aB dr.2.2.2.2)).mono ?_;exact C5
 ):p:=h
theorem sy(h:p:=by
 go_enter func38,ntmps38;by_cases I:n=m
 case neg=>
  exact Dj
 subst I;have co:((n:Int) != (n:Int))=false:=by simp
 go_wp2_with (fail);go_loopw [17] (fun cp wr=>∃i:Nat,cp=.int .i64 i∧i≤n∧Ext w wr∧∀j,j<i→l[j]?=k[j]?) (fun cp _=>n - (intOf cp).toNat)
 case atStart=>exact⟨0,rfl,ad,GN,fun j ba=>ad⟩
 case round=>
  obtain⟨i,rfl,aJ,av,L⟩:=hrel;have bh:=ai av L;by_cases ao:i<n
  ·obtain⟨bY,cI,f,IA,x,ic,bj,y,lc,rfl,ci,ay,c0,c1,c2,c3,Z,aM,t,b2⟩:=(a8.1.on (Fr.ext av)).n3 ao;obtain⟨b1,go,g,cZ,z,cN,KA,v,kc,rfl,cl,T,a6,ca,aP,cx,bc,aX,ab,cc⟩:=(a8.2.on (Fr.ext av)).n3 ao;exact xC
  ·obtain rfl:i=n:=ad;exact Di
 ):p:=h
end zy
open zy in
theorem Ap(A B:GR)(n c m aG:Nat)(l k:List aq)(w:World)(hl:Sl w (au w) A n (l.map fh))(ap:Sl w (au w) B m (k.map fh))(hn:n≤1000000)(H:∀f∈l,f.ints.length≤100000∧f.av.length≤100000) :
  Calls prog 38 #[.slice A n c,.slice B m aG,.func (.func 39) #[] #[]] w (hf w (l=k)):=by
 exact sx
namespace zz
theorem fN(h:p:=by
 have bD:ag W w.heap.size 80 #[.slice A n c]:=bg▸(GO).alloc _;have bL:ag W (w.heap.size+1) 80 #[.slice B m aG]:=bg▸ag.bR _ _ _ (by simp);have aj:=ae av;obtain⟨a0,al,af⟩:=bD.two;obtain⟨a7,am,aE⟩:=bL.two;clear bg av bD bL;go_wp2_with (fail);refine(Ap A B n c m aG l k W (a8.1.on (Fr.ext aj.o)) (a8.2.1.on (Fr.ext aj.o)) hn a8.2.2).mono ?_;rintro e aQ ⟨bb,rfl,U,aO⟩;clear a0 al af a7 am aE;go_wp2_with (fail);go_ret;exact⟨bb,rfl,U,aj.trans aO⟩
 ):p:=h
end zz
open zz in
theorem rn(A B:GR)(n c m aG:Nat)(l k:List aq)(w:World)(hl:Sl w (au w) A n (l.map fh))(ap:Sl w (au w) B m (k.map fh))(hn:n≤1000000)(H:∀f∈l,f.ints.length≤100000∧f.av.length≤100000) :
  Calls prog 37 #[.agg #[.slice A n c],.agg #[.slice B m aG]] w (hf w (l=k)):=by
 have a8:=aK hl ap H;clear hl ap H;go_enter func37,ntmps37;exact fM
namespace zA
theorem sy(h:p:=by
 go_enter func36,ntmps36;by_cases I:n=m
 case neg=>
  exact Dj
 subst I;have co:((n:Int) != (n:Int))=false:=by simp
 go_wp2_with (fail);go_loopw [17] (fun cp wr=>∃i:Nat,cp=.int .i64 i∧i≤n∧Ext w wr∧∀j,j<i→l[j]?=k[j]?) (fun cp _=>n - (intOf cp).toNat)
 case atStart=>exact⟨0,rfl,ad,GN,fun j ba=>ad⟩
 case round=>
  obtain⟨i,rfl,aJ,av,L⟩:=hrel;have bh:=ai av L;by_cases ao:i<n
  ·obtain⟨bY,cI,f,FA,x,fc,rfl,ci,ay,c0,bc,bp⟩:=(a8.1.on (Fr.ext av)).mF ao;obtain⟨b1,go,g,GA,z,gc,rfl,cl,T,a6,aF,bZ⟩:=(a8.2.on (Fr.ext av)).mF ao;have cB:bY<wr.heap.size:=ci;have aI:b1<wr.heap.size:=cl;have H:=bB.2.2 f (Ge ay);have bN:x=f.length:=by have:=bp.1;simpa using this.symm
   have dr:=bO bp bZ (show x≤1000000 by omega) H.2;have bT:=ai ay T;clear H bN bp bZ ay T ci cl bc aF;clear av L;go_upto_region 6 with(fail);generalize ah:World.alloc _ _=X;have br:Ext wr X:=ah▸GN.alloc _;have bz:ag X wr.heap.size 80 #[.slice FA x fc]:=ah▸GO;have cR:=bz.lt;have aU:=ai br bz;replace a6:=(br.cell aI fun h=>h).trans a6
   have o:b1<X.heap.size:=Gc aI br.size;clear ah br bz;go_upto_region 7 with(fail);generalize cb:World.alloc _ _=Y;have bw:Ext X Y:=cb▸GN.alloc _;have bA:ag Y X.heap.size 80 #[.slice GA z gc]:=cb▸GO;have bM:=ae (aU.1.trans bw);obtain⟨bD,bE,b5⟩:=(aU.2.al bw).two;obtain⟨b8,an,ar⟩:=bA.two;clear cb bw bA;go_wp2_with (fail);refine(rn FA GA x fc z gc f g Y (dr.1.on (Fr.ext bM.o)) (dr.2.1.on (Fr.ext bM.o)) dr.2.2.1 dr.2.2.2).mono ?_;exact C5
  ·obtain rfl:i=n:=ad;exact Di
 ):p:=h
end zA
open zA in
theorem vi(A B:GR)(n c m aG:Nat)(l k:List (List aq))(w:World)(hl:Sl w (au w) A n (l.map kD))(ap:Sl w (au w) B m (k.map kD))(hn:n≤1000000)(H:∀t∈l,t.length≤1000000∧∀f∈t,f.ints.length≤100000∧f.av.length≤100000) :
  Calls prog 36 #[.slice A n c,.slice B m aG,.func (.func 37) #[] #[]] w (hf w (l=k)):=by
 exact sx
namespace zB
theorem fN(h:p:=by
 have bD:ag W w.heap.size 40 #[.slice GA gn gc,.slice TA tn tc,.slice HA hn hc,.int .i64 a2]:=bg▸(GO).alloc _;have bL:ag W (w.heap.size+1) 40 #[.slice n l k,.slice y v m,.slice a4 hm hd,.int .i64 dh]:=bg▸ag.bR _ _ _ (by simp);have aj:=aK av bD bL;obtain⟨a0,al,af⟩:=bD.two;obtain⟨a7,am,aE⟩:=bL.two;clear bg av bD bL g j;by_cases e1:a2=dh
 case neg=>
  exact Dr
 have co:(a2 == dh)=true:=by simpa using e1
 have u:=ae e1;clear e1;go_wp2_with (fail);refine(sV GA n gn gc l k s.globals Q.globals W ((a8.1.on aj.1).at_.g.ints) ((a8.2.1.on aj.1).at_.g.ints) ad).mono ?_;rintro e aH ⟨rfl,bQ⟩;have aI:Ext W aH:=Fr.of bQ;have H1:=ae (aj.1.trans aI);clear a0 al af a7 am aE bQ;obtain⟨a0,al,af⟩:=(aj.2.1.al aI).two;obtain⟨a7,am,aE⟩:=(aj.2.2.al aI).two;have i:=ae aI;clear aI;by_cases e3:s.globals=Q.globals
 case neg=>
  have cT:decide (s.globals=Q.globals)=false:=decide_eq_false e3;have bB:=ae e3;clear e3;go_wp2_with (fail);go_ret;exact⟨false,rfl,⟨fun h=>(by cases h),fun h=>absurd (c6.1 h).2.1 bB.o⟩,H1.o⟩
 have cT:decide (s.globals=Q.globals)=true:=decide_eq_true e3;have x:=ae e3;clear e3;go_wp2_with (fail);refine(B2 TA y tn tc v m s.table Q.table aH ((a8.1.on H1.o).at_.t.holds) ((a8.2.1.on H1.o).at_.t.holds) ad).mono ?_;rintro e aQ ⟨rfl,bt⟩;have aO:Ext aH aQ:=Fr.of bt;have bk:=ae (H1.trans aO);clear a0 al af a7 am aE bt;obtain⟨a0,al,af⟩:=(aj.2.1.al (i.trans aO)).two;obtain⟨a7,am,aE⟩:=(aj.2.2.al (i.trans aO)).two;clear aO;by_cases ch:s.table=Q.table
 case neg=>
  have c7:decide (s.table=Q.table)=false:=decide_eq_false ch;have bB:=ae ch;clear ch;go_wp2_with (fail);go_ret;exact⟨false,rfl,⟨fun h=>(by cases h),fun h=>absurd (c6.1 h).2.2.1 bB.o⟩,bk.o⟩
 have c7:decide (s.table=Q.table)=true:=decide_eq_true ch;have D:=ae ch;clear ch;go_wp2_with (fail);refine(vi HA a4 hn hc hm hd s.threads Q.threads aQ ((a8.1.on bk.o).at_.h) ((a8.2.1.on bk.o).at_.h) ad a8.2.2).mono ?_;rintro e bJ ⟨bb,rfl,U,ay⟩;have bH:=ai U (bk.trans ay);clear a0 al af a7 am aE U ay;go_wp2_with (fail);go_ret;exact⟨bb,rfl,⟨fun h=>c6.2 ⟨u.o,x.o,D.o,bH.1.1 h⟩,fun h=>bH.1.2 (c6.1 h).2.2.2⟩,bH.2⟩
 ):p:=h
end zB
open zB in
theorem DD(s Q:an)(q o:SV)(w:World)(h:q.Ok w s)(F:o.Ok w Q)(H:Small s) :
  Calls prog 11 #[.agg (q.val s),.agg (o.val Q)] w (hf w (s=Q)):=by
 obtain⟨GA,gn,gc,TA,tn,tc,HA,hn,hc⟩:=q;obtain⟨n,l,k,y,v,m,a4,hm,hd⟩:=o;have bC:gn≤100000:=by have ac:=h.at_.g.1;have J:=H.g;rw[Gf] at ac;have aS:s.globals.length=gn:=ac;omega
 have bi:tn≤100000:=by have ac:=h.at_.t.1;have J:=H.t;rw[Gf] at ac;have aS:s.table.length=tn:=ac;omega
 have z:hn≤100000:=by have ac:=h.at_.h.1;have J:=H.h;rw[Gf] at ac;have aS:s.threads.length=hn:=ac;omega
 have r:∀t∈s.threads,t.length≤1000000∧∀f∈t,f.ints.length≤100000∧f.av.length≤100000:=fun t ht=>⟨by have:=(H.f t ht).1;omega,fun f aw=>by have:=(H.f t ht).2 f aw;omega⟩
 have a8:=aK h F r;have c6:GU (s=Q↔s.fault=Q.fault∧s.globals=Q.globals∧s.table=Q.table∧s.threads=Q.threads):=ae (by cases s;cases Q;simp;exact⟨fun⟨a,b,c,d⟩=>⟨d,a,b,c⟩,fun⟨d,a,b,c⟩=>⟨a,b,c,d⟩⟩);clear h F H r;dsimp only[SV.val];generalize g:s.fault=a2 at *;generalize j:Q.fault=dh at *;go_enter func11,ntmps11;exact fM
def f7(u:aF)(f:aq):Prop:=0≤f.proc∧0≤f.pc∧∃p,u.procs[f.proc.toNat]?=some p∧f.pc<p.code.length∧(f.ints.length:Int)=p.locals∧(f.av.length:Int)=p.av∧∀k∈f.av,0≤k∧k<elems u.af
def qG(u:aF)(s:an):Prop:=s.globals.length=u.globals.length∧1≤s.threads.length∧s.threads.length≤32∧0≤s.fault∧s.fault≤4∧f8 u.af s.table s.threads.length=true∧∀t∈s.threads,∀f∈t,f7 u f
def v3{α:Type}(w:World)(l:List α)(p:α→Prop)(e:Ending)(ab:World):Prop:=∃r:Int,e=.returned (.int .i64 r)∧(0≤r↔∃x∈l,p x)∧Ext w ab
theorem BM(x N:Int)(g:Nat)(w:World)(aM:g<w.heap.size)(hc:w.cell? ⟨g,0,none⟩=some (.int .i64 N)) :
  Calls prog 87 #[.int .i64 x,.pointer (some ⟨g,0,none⟩)] w (hf w (x<0∨N≤x)):=by
 go_enter func87,ntmps87;by_cases h0:x<0
 ·have co:decide (x<0)=true:=decide_eq_true h0;have bB:=ae h0;clear h0;go_wp2_with (fail);go_ret;exact⟨true,rfl,⟨fun _=>.inl bB.o,fun _=>rfl⟩,GN⟩
 ·have co:decide (x<0)=false:=decide_eq_false h0;have bB:=ae h0;clear h0;go_wp2_with (fail);go_ret;exact⟨decide (x≥N),rfl,⟨fun h=>.inr (of_decide_eq_true h),fun h=>decide_eq_true (aB bB.o)⟩,GN⟩
theorem B6(A:GR)(n c:Nat)(l:List Int)(N:Int)(g:Nat)(w:World)(hl:Sl w (au w) A n (l.map D.i))(hn:n≤140737488355328)(aM:g<w.heap.size)(hc:w.cell? ⟨g,0,none⟩=some (.int .i64 N)) :
  Calls prog 110 #[.slice A n c,.func (.func 87) #[] #[.pointer (some ⟨g,0,none⟩)]] w (v3 w l (fun x=>x<0∨N≤x)):=by
 have ce:l.length=n:=by have:=hl.1;simpa using this
 have bB:=ai ce hl;have bs:=ai aM hc;clear hc;clear ce hl;go_enter func110,ntmps110;go_wp2_with (fail);go_loopw [8] (fun cp wr=>∃i:Nat,cp=.int .i64 i∧i≤n∧Ext w wr∧∀j x,j<i→l[j]?=some x→¬(fun x=>x<0∨N≤x) x) (fun cp _=>n - (intOf cp).toNat)
 case atStart=>exact⟨0,rfl,ad,GN,fun j x ba=>ad⟩
 case round=>
  obtain⟨i,rfl,aJ,av,L⟩:=hrel;have bh:=ai av L;by_cases ao:i<n
  ·obtain⟨b,o,x,rfl,O,hx,c0⟩:=(bB.2.on (Fr.ext av)).ri ao;have bT:=ae hx;have aN:b<wr.heap.size:=O;clear hx O;clear av L;go_wp2_with (fail);refine(BM x N g wr (Gc bs.1 bh.1.size) ((bh.1.cell bs.1 fun h=>h).trans bs.2)).mono ?_;exact zQ
  ·obtain rfl:i=n:=ad;exact zR
theorem hasInts(A:GR)(n c:Nat)(l:List Int)(N:Int)(g:Nat)(w:World)(hl:Sl w (au w) A n (l.map D.i))(hn:n≤140737488355328)(aM:g<w.heap.size)(hc:w.cell? ⟨g,0,none⟩=some (.int .i64 N)) :
  Calls prog 86 #[.slice A n c,.func (.func 87) #[] #[.pointer (some ⟨g,0,none⟩)]] w (hf w (∃x∈l,(fun x=>x<0∨N≤x) x)):=by
 have cW:=ae (B6 A n c l N g w hl hn aM hc);clear hl hc;go_enter func86,ntmps86;exact zS
namespace zC
theorem iT(h:p:=by
 have bL:ag W w.heap.size 30 #[.slice GA gn gc,.slice MA mn mc,.slice PA pn pc,.int .i64 u.main]:=bg▸((GO).alloc _).alloc _;have b1:ag W (w.heap.size+1) 76 #[.int .i64 a2,.int .i64 p3,.slice IA i ic,.slice bj l lc]:=bg▸(ag.bR _ _ _ (by simp)).alloc _;have ca:ag W (w.heap.size+2) 3 #[.int .i64 N]:=bg▸ag.bR _ _ _ (by simp);have aj:=bO av bL b1 ca;obtain⟨a0,al,af⟩:=bL.two;obtain⟨a7,am,aE⟩:=b1.two;obtain⟨a6,aL,aP⟩:=ca.two;clear bg av bL b1 ca;by_cases e1:a2<0
 ·have co:decide (a2<0)=true:=decide_eq_true e1;exact Dt
 have co:decide (a2<0)=false:=decide_eq_false e1;by_cases e2:a2≥(pn:Int)
 ·have ej:decide (a2≥(pn:Int))=true:=decide_eq_true e2;have n:=ai e1 e2;clear e1 e2;go_wp2_with (fail);go_ret;refine⟨false,rfl,⟨fun h=>(by cases h),fun h=>?_⟩,aj.1⟩;obtain⟨_,_,p,hp,_⟩:=c6.1 h;have:=(List.getElem?_eq_some_iff.1 hp).1;have:=n.o;have:=a8.2.2.2.2.2.1;omega
 have ej:decide (a2≥(pn:Int))=false:=decide_eq_false e2;have m:0≤a2:=ad;have o:a2<(pn:Int):=ad;obtain⟨eN,gO,bh,aV,ct,bX,e,bS,cf,b8,b2,bu,bA,I,Z,T⟩:=(a8.1.on aj.1).at_.proc (k:=a2.toNat) (by show a2.toNat<pn;omega);simp only at e;subst e;have R:eN<W.heap.size:=bS;have ce:ct=bh.code.length:=by have:=T.1;simpa using this.symm
 have ck:=a8.2.2.2.2.2.2 bh (Ge cf);have Q:ct≤100000:=ad;have b9:=ai cf ce;clear e1 e2 bS cf Z T ce ck;go_upto_region 4 with(fail);generalize ah:World.alloc _ _=X;have br:Ext W X:=ah▸GN.alloc _;have bz:ag X W.heap.size 85 #[.string bh.name,.int .i64 bh.ints,.int .i64 bh.av,.int .i64 bh.locals,.slice aV ct bX]:=ah▸GO;have aU:=ae (aj.1.trans br);clear a0 al af a7 am aE a6 aL aP b8 b2 bu bA I;obtain⟨a7,am,aE⟩:=(aj.2.2.1.al br).two;have bx:=aj.2.2.2.al br;have c4:=ae bx;have z:=bx.lt;obtain⟨bD,bE,b5⟩:=bz.two;clear ah br bz bx;have H:S↔0≤p3∧p3<(ct:Int)∧(i:Int)=bh.locals∧(l:Int)=bh.av∧∀k∈f.av,0≤k∧k<N:=by
  rw[c6.o,b9.2,a8.2.2.2.1,a8.2.2.2.2.1];constructor
  ·rintro⟨_,J,p,hp,aS,bo,cr,aY⟩;rw[b9.1] at hp;injection hp with hp;subst hp;exact⟨J,aS,bo,cr,aY⟩
  ·rintro⟨J,aS,bo,cr,aY⟩;exact⟨m,J,bh,b9.1,aS,bo,cr,aY⟩
 have bW:=ae H;clear H;by_cases e3:p3≥0
 case neg=>
  have K:decide (p3≥0)=false:=decide_eq_false e3;have n:=ae e3;clear e3;go_wp2_with (fail);go_ret;exact⟨false,rfl,⟨fun h=>(by cases h),fun h=>absurd (bW.1 h).1 (aB n.o)⟩,aU.o⟩
 have K:decide (p3≥0)=true:=decide_eq_true e3;have r:=ae e3;clear e3;by_cases ch:p3<(ct:Int)
 case neg=>
  have L:decide (p3<(ct:Int))=false:=decide_eq_false ch;have n:=ae ch;clear ch;go_wp2_with (fail);go_ret;exact⟨false,rfl,⟨fun h=>(by cases h),fun h=>absurd (bW.1 h).2.1 (aB n.o)⟩,aU.o⟩
 have L:decide (p3<(ct:Int))=true:=decide_eq_true ch;have v:=ae ch;clear ch;by_cases bT:(i:Int)=bh.locals
 case neg=>
  have M:((i:Int) == bh.locals)=false:=by simpa using bT
  have n:=ae bT;clear bT;go_wp2_with (fail);go_ret;exact⟨false,rfl,⟨fun h=>(by cases h),fun h=>absurd (bW.1 h).2.2.1 (aB n.o)⟩,aU.o⟩
 have M:((i:Int) == bh.locals)=true:=by simpa using bT
 have y:=ae bT;clear bT;by_cases a4:(l:Int)=bh.av
 case neg=>
  have P:((l:Int) == bh.av)=false:=by simpa using a4
  have n:=ae a4;clear a4;go_wp2_with (fail);go_ret;exact⟨false,rfl,⟨fun h=>(by cases h),fun h=>absurd (bW.1 h).2.2.2.1 (aB n.o)⟩,aU.o⟩
 have P:((l:Int) == bh.av)=true:=by simpa using a4
 have t:=ae a4;clear a4;go_wp2_with (fail);refine(hasInts bj l lc f.av N (w.heap.size+2) X (a8.2.2.1.on (Fr.ext aU.o)) hl z (by rw[c4.cell];rfl)).mono ?_;rintro e aQ ⟨bb,rfl,U,aO⟩;have bk:=ai U (aU.trans aO);clear U aO a7 am aE bD bE b5;go_wp2_with (fail);go_ret;refine⟨!bb,rfl,⟨fun h=>bW.2 ⟨r.o,v.o,y.o,t.o,fun k ap=>?_⟩,fun h=>?_⟩,bk.2⟩
 ·have O:¬bb=true:=by cases bb<;>simp at h ⊢
  exact Classical.byContradiction fun hn=>O (bk.1.2 ⟨k,ap,show k<0∨N≤k by omega⟩)
 ·have:=(bW.1 h).2.2.2.2
  cases O:bb with
  | false=>rfl
  | true=>
   obtain⟨x,hx,bV⟩:=bk.1.1 O;have:=this x hx;omega
 ):p:=h
end zC
open zC in
theorem rp(u:aF)(f:aq)(p:UV)(IA bj:GR)(i ic l lc:Nat)(w:World)(hu:p.Ok w u)(cd:u.procs.length≤100000)(a1:∀q∈u.procs,q.code.length≤100000)(ac:Sl w (au w) IA i (f.ints.map D.i))(J:Sl w (au w) bj l (f.av.map D.i))(hl:l≤140737488355328) :
  Calls prog 46 #[.agg (p.val u),.agg #[.int .i64 f.proc,.int .i64 f.pc,.slice IA i ic,.slice bj l lc],.int .i64 (elems u.af)] w (hf w (f7 u f)):=by
 obtain⟨GA,gn,gc,MA,mn,mc,PA,pn,pc⟩:=p;have cq:i=f.ints.length:=by have:=ac.1;simpa using this.symm
 have bG:l=f.av.length:=by have:=J.1;simpa using this.symm
 have gm:u.procs.length=pn:=by have:=hu.at_.p.1;rw[Gf] at this;exact this
 have a8:=gK hu ac J cq bG gm a1;have eL:pn≤100000:=ad;clear hu ac J cq bG gm a1 cd;have c6:GU (f7 u f↔0≤f.proc∧0≤f.pc∧∃p,u.procs[f.proc.toNat]?=some p∧f.pc<p.code.length∧(f.ints.length:Int)=p.locals∧(f.av.length:Int)=p.av∧∀k∈f.av,0≤k∧k<elems u.af):=ae Iff.rfl;generalize f7 u f=S at *;generalize s:f.proc=a2 at *;generalize bc:f.pc=p3 at *;generalize j:elems u.af=N at *;clear s bc j;dsimp only[UV.val];go_enter func46,ntmps46;exact iS
namespace zD
theorem gB(h:p:=by
 have b1:ag W w.heap.size 76 #[.int .i64 f.proc,.int .i64 f.pc,.slice IA i ic,.slice bj l lc]:=bg▸GO;have aj:=ae av;obtain⟨a0,al,af⟩:=(a8.2.2.2.1.al av).two;obtain⟨a7,am,aE⟩:=b1.two;obtain⟨a6,aL,aP⟩:=(a8.2.2.2.2.al av).two;clear bg av b1;go_wp2_with (fail);refine(rp u f ⟨GA,gn,gc,MA,mn,mc,PA,pn,pc⟩ IA bj i ic l lc W (a8.1.on aj.o) cd a1 (a8.2.1.on (Fr.ext aj.o)) (a8.2.2.1.on (Fr.ext aj.o)) hl).mono ?_;rintro e aQ ⟨bb,rfl,U,aO⟩;have bk:=ai U (aj.trans aO);clear U aO a0 al af a7 am aE a6 aL aP;go_wp2_with (fail);go_ret;refine⟨!bb,rfl,⟨fun h bC=>?_,fun h=>?_⟩,bk.2⟩
 ·rw[bk.1.2 bC] at h;cases h
 ·cases O:bb with
  | false=>rfl
  | true=>exact absurd (bk.1.1 O) h
 ):p:=h
end zD
open zD in
theorem z6(u:aF)(f:aq)(p:UV)(o k:Nat)(IA bj:GR)(i ic l lc:Nat)(w:World)(hu:p.Ok w u)(cd:u.procs.length≤100000)(a1:∀q∈u.procs,q.code.length≤100000)(ac:Sl w (au w) IA i (f.ints.map D.i))(J:Sl w (au w) bj l (f.av.map D.i))(hl:l≤140737488355328)
  (m:ag w o 30 (p.val u)) (aC:ag w k 3 #[.int .i64 (elems u.af)]) :
  Calls prog 45 #[.agg #[.int .i64 f.proc,.int .i64 f.pc,.slice IA i ic,.slice bj l lc],.pointer (some ⟨o,0,none⟩),.pointer (some ⟨k,0,none⟩)] w (hf w (¬f7 u f)):=by
 obtain⟨GA,gn,gc,MA,mn,mc,PA,pn,pc⟩:=p;have a8:=cA hu ac J m aC;clear hu ac J m aC;go_enter func45,ntmps45;exact gA
theorem vp(A:GR)(n c:Nat)(l:List aq)(u:aF)(p:UV)(o k:Nat)(w:World)(hl:Sl w (au w) A n (l.map fh))(hn:n≤140737488355328)(hu:p.Ok w u)(cd:u.procs.length≤100000)(a1:∀q∈u.procs,q.code.length≤100000)(m:ag w o 30 (p.val u))(aC:ag w k 3 #[.int .i64 (elems u.af)])(H:∀f∈l,f.av.length≤140737488355328) :
  Calls prog 85 #[.slice A n c,.func (.func 45) #[] #[.pointer (some ⟨o,0,none⟩),.pointer (some ⟨k,0,none⟩)]] w (v3 w l (fun f=>¬f7 u f)):=by
 have ce:l.length=n:=by have:=hl.1;simpa using this
 have bB:=ai ce hl;have bs:=dz hu m aC cd a1 H;clear hu m aC cd a1 H;clear ce hl;go_enter func85,ntmps85;go_wp2_with (fail);go_loopw [8] (fun cp wr=>∃i:Nat,cp=.int .i64 i∧i≤n∧Ext w wr∧∀j x,j<i→l[j]?=some x→¬(fun f=>¬f7 u f) x) (fun cp _=>n - (intOf cp).toNat)
 case atStart=>exact⟨0,rfl,ad,GN,fun j x ba=>ad⟩
 case round=>
  obtain⟨i,rfl,aJ,av,L⟩:=hrel;have bh:=ai av L;by_cases ao:i<n
  ·obtain⟨bY,cI,f,IA,x,ic,bj,y,lc,rfl,ci,ay,c0,c1,c2,c3,Z,aM,t,b2⟩:=(bB.2.on (Fr.ext av)).n3 ao;have aA:y=f.av.length:=by have:=b2.1;simpa using this.symm
   have dr:=aK t b2 (show y≤140737488355328 by rw[aA];exact bs.2.2.2.2.2 f (Ge ay));have bT:=ae ay;have aN:bY<wr.heap.size:=ci;clear ay ci t b2 Z aM aA;clear av L;go_wp2_with (fail);refine(z6 u f p o k IA bj x ic y lc wr (bs.1.on bh.1) bs.2.2.2.1 bs.2.2.2.2.1 dr.1 dr.2.1 dr.2.2 (bs.2.1.al bh.1) (bs.2.2.1.al bh.1)).mono ?_;exact zQ
  ·obtain rfl:i=n:=ad;exact zR
theorem vo(A:GR)(n c:Nat)(l:List aq)(u:aF)(p:UV)(o k:Nat)(w:World)(hl:Sl w (au w) A n (l.map fh))(hn:n≤140737488355328)(hu:p.Ok w u)(cd:u.procs.length≤100000)(a1:∀q∈u.procs,q.code.length≤100000)(m:ag w o 30 (p.val u))(aC:ag w k 3 #[.int .i64 (elems u.af)])(H:∀f∈l,f.av.length≤140737488355328) :
  Calls prog 44 #[.slice A n c,.func (.func 45) #[] #[.pointer (some ⟨o,0,none⟩),.pointer (some ⟨k,0,none⟩)]] w (hf w (∃x∈l,(fun f=>¬f7 u f) x)):=by
 have cW:=ae (vp A n c l u p o k w hl hn hu cd a1 m aC H);clear hl hu cd a1 m aC H;go_enter func44,ntmps44;exact zS
namespace zE
theorem gB(h:p:=by
 have b1:ag W w.heap.size 80 #[.slice A n c]:=bg▸GO;have aj:=ae av;obtain⟨a7,am,aE⟩:=b1.two;clear bg av b1;go_wp2_with (fail);refine(vo A n c l u p o k W (a8.1.on (Fr.ext aj.o)) hn (a8.2.1.on aj.o) a8.2.2.2.2.1 a8.2.2.2.2.2.1 (a8.2.2.1.al aj.o) (a8.2.2.2.1.al aj.o) a8.2.2.2.2.2.2).mono ?_;rintro e aQ ⟨bb,rfl,U,aO⟩;have bk:=ai U (aj.trans aO);clear U aO a7 am aE;go_wp2_with (fail);go_ret;exact⟨bb,rfl,bk.1,bk.2⟩
 ):p:=h
end zE
open zE in
theorem u7(u:aF)(p:UV)(o k:Nat)(A:GR)(n c:Nat)(l:List aq)(w:World)(hl:Sl w (au w) A n (l.map fh))(hn:n≤140737488355328)(hu:p.Ok w u)(cd:u.procs.length≤100000)(a1:∀q∈u.procs,q.code.length≤100000)(m:ag w o 30 (p.val u))(aC:ag w k 3 #[.int .i64 (elems u.af)])(H:∀f∈l,f.av.length≤140737488355328) :
  Calls prog 43 #[.agg #[.slice A n c],.pointer (some ⟨o,0,none⟩),.pointer (some ⟨k,0,none⟩)] w (hf w (∃f∈l,¬f7 u f)):=by
 have a8:=gK hl hu m aC cd a1 H;clear hl hu m aC cd a1 H;go_enter func43,ntmps43;exact gA
theorem s0(A:GR)(n c:Nat)(l:List (List aq))(u:aF)(p:UV)(o k:Nat)(w:World)(hl:Sl w (au w) A n (l.map kD))(hn:n≤140737488355328)(hu:p.Ok w u)(cd:u.procs.length≤100000)(a1:∀q∈u.procs,q.code.length≤100000)(m:ag w o 30 (p.val u))(aC:ag w k 3 #[.int .i64 (elems u.af)])(H:∀t∈l,t.length≤140737488355328∧∀f∈t,f.av.length≤140737488355328) :
  Calls prog 84 #[.slice A n c,.func (.func 43) #[] #[.pointer (some ⟨o,0,none⟩),.pointer (some ⟨k,0,none⟩)]] w (v3 w l (fun t=>∃f∈t,¬f7 u f)):=by
 have ce:l.length=n:=by have:=hl.1;simpa using this
 have bB:=ai ce hl;have bs:=dz hu m aC cd a1 H;clear hu m aC cd a1 H;clear ce hl;go_enter func84,ntmps84;go_wp2_with (fail);go_loopw [8] (fun cp wr=>∃i:Nat,cp=.int .i64 i∧i≤n∧Ext w wr∧∀j x,j<i→l[j]?=some x→¬(fun t=>∃f∈t,¬f7 u f) x) (fun cp _=>n - (intOf cp).toNat)
 case atStart=>exact⟨0,rfl,ad,GN,fun j x ba=>ad⟩
 case round=>
  obtain⟨i,rfl,aJ,av,L⟩:=hrel;have bh:=ai av L;by_cases ao:i<n
  ·obtain⟨bY,cI,f,FA,x,fc,rfl,ci,ay,c0,bc,bp⟩:=(bB.2.on (Fr.ext av)).mF ao;have bN:x=f.length:=by have:=bp.1;simpa using this.symm
   have H:=bs.2.2.2.2.2 f (Ge ay);have dr:=aK bp (show x≤140737488355328 by rw[bN];exact H.1) H.2;have bT:=ae ay;have aN:bY<wr.heap.size:=ci;clear ay ci bp bc bN H;clear av L;go_wp2_with (fail);refine(u7 u p o k FA x fc f wr dr.1 dr.2.1 (bs.1.on bh.1) bs.2.2.2.1 bs.2.2.2.2.1 (bs.2.1.al bh.1) (bs.2.2.1.al bh.1) dr.2.2).mono ?_;exact zQ
  ·obtain rfl:i=n:=ad;exact zR
theorem sY(A:GR)(n c:Nat)(l:List (List aq))(u:aF)(p:UV)(o k:Nat)(w:World)(hl:Sl w (au w) A n (l.map kD))(hn:n≤140737488355328)(hu:p.Ok w u)(cd:u.procs.length≤100000)(a1:∀q∈u.procs,q.code.length≤100000)(m:ag w o 30 (p.val u))(aC:ag w k 3 #[.int .i64 (elems u.af)])(H:∀t∈l,t.length≤140737488355328∧∀f∈t,f.av.length≤140737488355328) :
  Calls prog 42 #[.slice A n c,.func (.func 43) #[] #[.pointer (some ⟨o,0,none⟩),.pointer (some ⟨k,0,none⟩)]] w (hf w (∃x∈l,(fun t=>∃f∈t,¬f7 u f) x)):=by
 have cW:=ae (s0 A n c l u p o k w hl hn hu cd a1 m aC H);clear hl hu cd a1 m aC H;go_enter func42,ntmps42;exact zS
namespace zF
theorem fN(h:p:=by
 have bL:ag W w.heap.size 30 #[.slice GA gn gc,.slice MA mn mc,.slice PA pn pc,.int .i64 u.main]:=bg▸(GO).alloc _;have b1:ag W (w.heap.size+1) 40 #[.slice bI bG bq,.slice TA tn tc,.slice HA hn hc,.int .i64 a2]:=bg▸ag.bR _ _ _ (by simp);have aj:=aK av bL b1;obtain⟨a0,al,af⟩:=bL.two;obtain⟨a7,am,aE⟩:=b1.two;clear bg av bL b1;by_cases e1:¬bG=gn
 ·have l:((bG:Int) != (gn:Int))=true:=by simp;omega
  exact Dt
 have l:((bG:Int) != (gn:Int))=false:=by simp;omega
 have i:=ae e1;clear e1;by_cases e2:(hn:Int)<1
 ·have m:decide ((hn:Int)<1)=true:=decide_eq_true e2;have n:=ae e2;clear e2;go_wp2_with (fail);go_ret;exact⟨false,rfl,⟨fun h=>(by cases h),fun h=>absurd (c6.1 h).2.1 (aB n.o)⟩,aj.1⟩
 have m:decide ((hn:Int)<1)=false:=decide_eq_false e2;have k:=ae e2;clear e2;by_cases e3:(hn:Int) > 32
 ·have K:decide ((hn:Int) > 32)=true:=decide_eq_true e3;have n:=ae e3;clear e3;go_wp2_with (fail);go_ret;exact⟨false,rfl,⟨fun h=>(by cases h),fun h=>absurd (c6.1 h).2.2.1 (aB n.o)⟩,aj.1⟩
 have K:decide ((hn:Int) > 32)=false:=decide_eq_false e3;have r:=ae e3;clear e3;by_cases ch:a2<0
 ·have L:decide (a2<0)=true:=decide_eq_true ch;have n:=ae ch;clear ch;go_wp2_with (fail);go_ret;exact⟨false,rfl,⟨fun h=>(by cases h),fun h=>absurd (c6.1 h).2.2.2.1 (aB n.o)⟩,aj.1⟩
 have L:decide (a2<0)=false:=decide_eq_false ch;have v:=ae ch;clear ch;by_cases bT:a2 > 4
 ·have M:decide (a2 > 4)=true:=decide_eq_true bT;have n:=ae bT;clear bT;go_wp2_with (fail);go_ret;exact⟨false,rfl,⟨fun h=>(by cases h),fun h=>absurd (c6.1 h).2.2.2.2.1 (aB n.o)⟩,aj.1⟩
 have M:decide (a2 > 4)=false:=decide_eq_false bT;have y:=ae bT;clear bT;go_wp2_with (fail);refine(vQ MA TA mn mc tn tc u.af s.table hn W ((a8.2.1.on aj.1).at_.m.ql) a8.1 ((a8.2.2.1.on aj.1).at_.t.holds)).mono ?_;rintro e aH ⟨rfl,bQ⟩;have aI:Ext W aH:=Fr.of bQ;have H1:=ai aI (aj.1.trans aI);clear a0 al af a7 am aE bQ;obtain⟨a0,al,af⟩:=(aj.2.1.al aI).two;obtain⟨a7,am,aE⟩:=(aj.2.2.al aI).two;clear aI
 cases bC:f8 u.af s.table hn with
 | false=>
  have cg:=ae bC;clear bC;go_wp2_with (fail);go_ret
  exact⟨false,rfl,⟨fun h=>(by cases h),fun h=>by have ac:=(c6.1 h).2.2.2.2.2.1;rw[cg.o] at ac;cases ac⟩,H1.2⟩
 | true=>
  have cg:=ae bC;clear bC;go_wp2_with (fail);refine(gR MA mn mc u.af aH ((a8.2.1.on H1.2).at_.m.ql) a8.1).mono ?_;rintro e aQ ⟨rfl,bt⟩;have aO:Ext aH aQ:=Fr.of bt;have bk:=ai (H1.1.trans aO) (H1.2.trans aO);clear a0 al af a7 am aE bt aO;go_upto_region 6 with(fail);generalize ah:World.alloc _ _=X;have br:Ext aQ X:=ah▸GN.alloc _;have bz:ag X aQ.heap.size 3 #[.int .i64 (elems u.af)]:=ah▸GO;have cM:=bk.1.trans br;have aU:=aK bz cM (aj.1.trans cM);obtain⟨a0,al,af⟩:=(aj.2.1.al cM).two;obtain⟨a7,am,aE⟩:=(aj.2.2.al cM).two;obtain⟨bD,bE,b5⟩:=bz.two;clear ah br bz cM;go_wp2_with (fail);refine(sY HA hn hc s.threads u ⟨GA,gn,gc,MA,mn,mc,PA,pn,pc⟩ w.heap.size aQ.heap.size X (a8.2.2.1.on aU.2.2).at_.h z (a8.2.1.on aU.2.2) a8.2.2.2.1 a8.2.2.2.2.1 (aj.2.1.al aU.2.1) aU.1 a8.2.2.2.2.2).mono ?_;rintro e bJ ⟨bb,rfl,U,ay⟩;have bH:=ai U (aU.2.2.trans ay);clear U ay a0 al af a7 am aE bD bE b5;go_wp2_with (fail);go_ret;refine⟨!bb,rfl,⟨fun h=>c6.2 ⟨by have:=i.o;omega,by have:=k.o;omega,by have:=r.o;omega,by have:=v.o;omega,by have:=y.o;omega,cg.o,fun t ht f aw=>?_⟩,fun h=>?_⟩,bH.2⟩
  ·have O:¬bb=true:=by cases bb<;>simp at h ⊢
   exact Classical.byContradiction fun hn=>O (bH.1.2 ⟨t,ht,f,aw,hn⟩)
  ·have j:=(c6.1 h).2.2.2.2.2.2
   cases O:bb with
   | false=>rfl
   | true=>
    obtain⟨t,ht,f,aw,hn⟩:=bH.1.1 O;exact absurd (j t ht f aw) hn
 ):p:=h
end zF
open zF in
theorem AR(u:aF)(s:an)(p:UV)(q:SV)(w:World)(ah:oQ u.af)(hu:p.Ok w u)(hs:q.Ok w s)(cd:u.procs.length≤100000)(a1:∀q∈u.procs,q.code.length≤100000)(z:q.hn≤140737488355328)(H:∀t∈s.threads,t.length≤140737488355328∧∀f∈t,f.av.length≤140737488355328) :
  Calls prog 12 #[.agg (p.val u),.agg (q.val s)] w (hf w (qG u s)):=by
 obtain⟨GA,gn,gc,MA,mn,mc,PA,pn,pc⟩:=p;obtain⟨bI,bG,bq,TA,tn,tc,HA,hn,hc⟩:=q;have cc:gn=u.globals.length:=by have:=hu.at_.g.1;simpa using this.symm
 have ck:bG=s.globals.length:=by have:=hs.at_.g.1;simpa using this.symm
 have N:hn=s.threads.length:=by have:=hs.at_.h.1;simpa using this.symm
 have c6:GU (qG u s↔bG=gn∧1≤hn∧hn≤32∧0≤s.fault∧s.fault≤4∧f8 u.af s.table hn=true∧∀t∈s.threads,∀f∈t,f7 u f):=ae (by rw[cc,ck,N];exact Iff.rfl);have a8:=dz ah hu hs cd a1 H;clear ah hu hs cd a1 H cc ck N;simp only at z;dsimp only[UV.val,SV.val];generalize qG u s=o at *;generalize g:s.fault=a2 at *;clear g;go_enter func12,ntmps12;exact fM
theorem pM{u:aF}{D:Nat}{s:an}(hU:cU u)(h:a1 u D s):qG u s:=by
 refine⟨h.da,h.Bs.1,h.Bs.2,h.fault.1,h.fault.2,mH h.table fun k hd ap=>?_,fun t ht f aw=>?_⟩
 ·have aj:=h.holds k hd ap;have bi:=aj.owner;have b6:=aj.depth;unfold d6;rw[decide_eq_false (show ¬hd.owner<0 by omega),decide_eq_false (show ¬(s.threads.length:Int)<hd.owner by omega),decide_eq_false (show ¬hd.depth<0 by omega)];have aS:((hd.owner == 0) != (hd.depth == 0))=false:=by
   by_cases h0:hd.owner=0
   ·rw[h0,aj.AD.1 h0];rfl
   ·have ac:¬hd.depth=0:=fun h=>h0 (aj.AD.2 h);rw[show (hd.owner == 0)=false by simpa using h0,show (hd.depth == 0)=false by simpa using ac];rfl
  rw[aS];by_cases cr:1<hd.depth
  ·rw[aj.re cr];simp
  ·rw[decide_eq_false cr];rfl
 ·have hF:=(h.eC t ht).2 f aw;obtain⟨p,ac,J,aS,bo⟩:=hF.ex;exact⟨hF.proc,hF.pc,p,ac,J,aS,bo,hF.av⟩
end Go.Proofs.YtjhgbdckgkppnaaGreat

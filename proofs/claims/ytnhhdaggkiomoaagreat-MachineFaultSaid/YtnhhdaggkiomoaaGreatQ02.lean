/- Part 2 of the proof. No condition of its own. -/
import Derived.Test.YtnhhdaggkiomoaaGreatQ01
namespace Go.Proofs.YtnhhdaggkiomoaaGreat
open Go.RowKit Go.Proofs.Tryz
set_option maxRecDepth 1000000
set_option maxHeartbeats 25600000
set_option linter.unusedVariables false
variable{e n:Int}{cs:List Value}{B k:Nat}{A:Ls}{p:Prop}{ab w:World}
inductive VE where
 | num (n:Int)
 | g0 (s:ByteArray)
 | loc (k:Int)
 | iC (k:Int)
 | un (op:Int) (x:VE)
 | bin (op:Int) (x y:VE)
def VE.rep(w:World)(P:Nat→Prop):VE→List Value→Prop
 | .num n=>fun cs=>∃nm A c,cs=[.int .i64 1,.int .i64 n,.string nm,.slice A 0 c]
 | .g0 s=>fun cs=>∃n A c,cs=[.int .i64 2,.int .i64 n,.string s,.slice A 0 c]
 | .loc k=>fun cs=>∃nm A c,cs=[.int .i64 18,.int .i64 k,.string nm,.slice A 0 c]
 | .iC k=>fun cs=>∃nm A c,cs=[.int .i64 19,.int .i64 k,.string nm,.slice A 0 c]
 | .un op x=>fun cs=>∃n nm b o c bs Z bv E,cs=[.int .i64 op,.int .i64 n,.string nm,.slice (some ⟨b,o,none⟩) 1 c]∧P b∧x.rep w P [bs,Z,bv,E]∧
   w.cell? ⟨b,o,none⟩=some bs∧w.cell? ⟨b,o+1,none⟩=some Z∧w.cell? ⟨b,o+2,none⟩=some bv∧w.cell? ⟨b,o+3,none⟩=some E
 | .bin op x y=>fun cs=>∃n nm b o c bs Z bv E cE cw cG b5,cs=[.int .i64 op,.int .i64 n,.string nm,.slice (some ⟨b,o,none⟩) 2 c]∧P b∧x.rep w P [bs,Z,bv,E]∧y.rep w P [cE,cw,cG,b5]∧
   w.cell? ⟨b,o,none⟩=some bs∧w.cell? ⟨b,o+1,none⟩=some Z∧w.cell? ⟨b,o+2,none⟩=some bv∧w.cell? ⟨b,o+3,none⟩=some E∧
   w.cell? ⟨b,o+4,none⟩=some cE∧w.cell? ⟨b,o+5,none⟩=some cw∧w.cell? ⟨b,o+6,none⟩=some cG∧w.cell? ⟨b,o+7,none⟩=some b5
theorem VE.aS{w ab:World}{P:Nat→Prop}(ap:∀b,P b→ab.heap[b]?=w.heap[b]?):∀(e:VE) (cs:List Value),e.rep w P cs→e.rep ab P cs
 | .num _,_,h=>h
 | .g0 _,_,h=>h
 | .loc _,_,h=>h
 | .iC _,_,h=>h
 | .un op x,cs,h=>by
  obtain⟨n,nm,b,o,c,bs,Z,bv,E,T,O,hx,c0,c1,c2,c3⟩:=h;have hc:∀j,ab.cell? ⟨b,j,none⟩=w.cell? ⟨b,j,none⟩:=fun j=>World.cell?_of_block (w:=w) (ap b O)
  exact⟨n,nm,b,o,c,bs,Z,bv,E,T,O,VE.aS ap x _ hx,(hc _).trans c0,(hc _).trans c1,(hc _).trans c2,(hc _).trans c3⟩
 | .bin op x y,cs,h=>by
  obtain⟨n,nm,b,o,c,bs,Z,bv,E,cE,cw,cG,b5,T,O,hx,bb,c0,c1,c2,c3,d0,d1,d2,d3⟩:=h;have hc:∀j,ab.cell? ⟨b,j,none⟩=w.cell? ⟨b,j,none⟩:=fun j=>World.cell?_of_block (w:=w) (ap b O);exact⟨n,nm,b,o,c,bs,Z,bv,E,cE,cw,cG,b5,T,O,VE.aS ap x _ hx,VE.aS ap y _ bb,(hc _).trans c0,(hc _).trans c1,(hc _).trans c2,(hc _).trans c3,(hc _).trans d0,(hc _).trans d1,(hc _).trans d2,(hc _).trans d3⟩
theorem VE.aL{w:World}{P c5:Nat→Prop}(hp:∀b,P b→c5 b):∀(e:VE) (cs:List Value),e.rep w P cs→e.rep w c5 cs
 | .num _,_,h=>h
 | .g0 _,_,h=>h
 | .loc _,_,h=>h
 | .iC _,_,h=>h
 | .un op x,cs,h=>by
  obtain⟨n,nm,b,o,c,bs,Z,bv,E,T,O,hx,hc⟩:=h
  exact⟨n,nm,b,o,c,bs,Z,bv,E,T,hp b O,VE.aL hp x _ hx,hc⟩
 | .bin op x y,cs,h=>by
  obtain⟨n,nm,b,o,c,bs,Z,bv,E,cE,cw,cG,b5,T,O,hx,bb,hc⟩:=h;exact⟨n,nm,b,o,c,bs,Z,bv,E,cE,cw,cG,b5,T,hp b O,VE.aL hp x _ hx,VE.aL hp y _ bb,hc⟩
abbrev VE.at_(w:World)(e:VE)(cs:List Value):Prop:=e.rep w (·<w.heap.size) cs
theorem VE.Ii{e:VE}(h:e.at_ w cs)(O:Below w.heap.size w ab):e.at_ ab cs:=
 VE.aL (fun _ ak=>KH ak O.size) _ _ (VE.aS (fun b ak=>O.block b ak) _ _ h)
def VE.ok(ng nl:Nat):VE→Prop
 | .num _=>True
 | .g0 _=>False
 | .loc k=>0≤k∧k<nl
 | .iC k=>0≤k∧k<ng
 | .un op x=>(op=3∨op=4)∧x.ok ng nl
 | .bin op x y=>(5≤op∧op≤17)∧x.ok ng nl∧y.ok ng nl
def fi(b:Bool):Int:=if b then 1 else 0
def arith(op a b:Int):Int×Int:=
 if op=5 then (wrap64 (a*b),0) else if op=8 then (wrap64 (a+b),0) else if op=9 then (wrap64 (a - b),0)
 else if op=6 then (if b=0 then (0,1) else (wrap64 (a.tdiv b),0))
 else if op=7 then (if b=0 then (0,1) else (a.tmod b,0))
 else if op=10 then (fi (decide (a<b)),0) else if op=11 then (fi (decide (a≤b)),0)
 else if op=12 then (fi (decide (b<a)),0) else if op=13 then (fi (decide (b≤a)),0)
 else if op=14 then (fi (a == b),0) else if op=15 then (fi (a != b),0) else (0,0)
def ev(g l:List Int):VE→Int×Int
 | .num n=>(n,0)
 | .g0 _=>(0,0)
 | .loc k=>(l.getD k.toNat 0,0)
 | .iC k=>(g.getD k.toNat 0,0)
 | .un op x=>if (ev g l x).2≠0 then (0,(ev g l x).2) else if op=3 then (wrap64 (-(ev g l x).1),0) else (fi ((ev g l x).1 == 0),0)
 | .bin op x y=>
  if (ev g l x).2≠0 then (0,(ev g l x).2)
  else if op=16∧(ev g l x).1=0 then (0,0)
  else if op=17∧(ev g l x).1≠0 then (1,0)
  else if (ev g l y).2≠0 then (0,(ev g l y).2)
  else if op=16∨op=17 then (fi ((ev g l y).1 != 0),0)
  else arith op (ev g l x).1 (ev g l y).1
structure bI where
 name:ByteArray
 re:Bool
 size:Int
structure cy where
 owner:Int
 depth:Int
 deriving DecidableEq
def gy(m:bI):List Value:=[.string m.name,.bool m.re,.int .i64 m.size]
def bJ(h:cy):List Value:=[.int .i64 h.owner,.int .i64 h.depth]
def bI.num(m:bI):Int:=max m.size 1
def bI.qa(m:bI):Nat:=(max m.size 1).toNat
theorem bI.oO(m:bI):1≤m.num:=by unfold bI.num;omega
theorem bI.sW(m:bI):(m.qa:Int)=m.num:=by unfold bI.num bI.qa;omega
def m2(X:List bI):Prop:=X.length≤64∧∀m∈X,0≤m.size∧m.size≤64
def elems(X:List bI):Int:=(X.map bI.num).sum
theorem pG(m:bI)(X:List bI):elems (m::X)=m.num+elems X:=by simp[elems]
theorem yh(X Y:List bI):elems (X++Y)=elems X+elems Y:=by simp[elems]
theorem iy(X:List bI)(m:bI):elems (X++[m])=elems X+m.num:=by simp[elems]
theorem nO:∀(X:List bI),(∀m∈X,0≤m.size∧m.size≤64)→(X.length:Int)≤elems X∧elems X≤64*X.length
 | [],_=>by simp[elems]
 | m::X,h=>by
  have ac:=h m (by simp);have av:=nO X (fun m hm=>h m (by simp[hm]));rw[pG];simp only[KT];have:=m.oO;unfold bI.num at *;omega
theorem m2.take{X:List bI}(h:m2 X)(k:Nat):m2 (X.take k):=
 ⟨by have:=h.1;simp;omega,fun m hm=>h.2 m (List.mem_of_mem_take hm)⟩
variable{X:List bI}
theorem m2.bound(h:m2 X):0≤elems X∧elems X≤4096:=by
 have:=nO X h.2;have:=h.1;omega
theorem m2.mm(h:m2 X)(k:Nat):0≤elems (X.take k)∧elems (X.take k)≤4096:=(h.take k).bound
variable{m:bI}
theorem m2.at_(h:m2 X)(hm:X[k]?=some m):0≤m.size∧m.size≤64:=h.2 m (KJ hm)
theorem qX(X:List bI)(k:Nat):elems (X.take k)≤elems X:=by
 have h:=yh (X.take k) (X.drop k);rw[List.take_append_drop] at h;have:∀Y:List bI,0≤elems Y:=fun Y=>by
  induction Y with
  | nil=>simp[elems]
  | cons m Y ao=>rw[pG];have:=m.oO;omega
 have:=this (X.drop k);omega
def iJ(X:List bI)(k:Nat):List Int:=(X.take k).zipIdx.flatMap fun p=>List.replicate p.1.qa (p.2:Int)
def own(X:List bI):List Int:=iJ X X.length
theorem qg(X:List bI):iJ X 0=[]:=by simp[iJ]
theorem j1(h:X[k]?=some m):iJ X (k+1)=iJ X k++List.replicate m.qa (k:Int):=by
 have ap:k<X.length:=(List.getElem?_eq_some_iff.1 h).1;unfold iJ;rw[aZ h,List.zipIdx_append,List.flatMap_append];congr 1
 simp[Nat.min_eq_left (Nat.le_of_lt ap)]
theorem gj(X:List bI):∀k,k≤X.length→((iJ X k).length:Int)=elems (X.take k)
 | 0,_=>by simp[qg,elems]
 | k+1,h=>by
  have hm:X[k]?=some (X[k]'ad):=List.getElem?_eq_getElem _;rw[j1 hm,aZ hm,iy,KI,List.length_replicate,Int.natCast_add,gj X k ad,bI.sW]
theorem eu(X:List bI):((own X).length:Int)=elems X:=by
 rw[own,gj X _ (KG _),List.take_length]
theorem cA(h:m2 X):(own X).length≤4096:=by
 have:=eu X;have:=h.bound;omega
theorem mI(X:List bI)(k:Nat):∀d,k+d≤X.length→∃s,iJ X (k+d)=iJ X k++s
 | 0,_=>⟨[],by simp⟩
 | d+1,h=>by
  obtain⟨s,hs⟩:=mI X k d ad;have hm:X[k+d]?=some (X[k+d]'ad):=List.getElem?_eq_getElem _;exact⟨s++List.replicate (X[k+d]'ad).qa ((k+d:Nat):Int),by rw[show k+(d+1)=(k+d)+1 from rfl,j1 hm,hs,KU]⟩
theorem wo(h:X[k]?=some m){e:Nat}(ac:elems (X.take k)≤e)(av:(e:Int)<elems (X.take k)+m.num):(own X)[e]?=some (k:Int):=by
 have ap:k<X.length:=(List.getElem?_eq_some_iff.1 h).1;obtain⟨s,hs⟩:=mI X (k+1) (X.length - (k+1)) ad;rw[own,show X.length=k+1+(X.length - (k+1)) from by omega,hs,j1 h];have hl:=gj X k ad;have hn:=m.sW;rw[KU,List.getElem?_append_right ad,List.getElem?_append_left (by rw[List.length_replicate];omega),List.getElem?_replicate,if_pos ad]
def bt(X:List bI)(e:Int):Int:=if e<0 then -1 else ((own X)[e.toNat]?).getD (-1)
theorem iV(h:e<0):bt X e = -1:=if_pos h
theorem kC(h:X[k]?=some m)(h0:0≤e)(ac:elems (X.take k)≤e)(av:e<elems (X.take k)+m.num):bt X e=k:=by
 unfold bt;rw[if_neg ad,wo h (e:=e.toNat) ad ad];rfl
theorem iW(h:elems X≤e):bt X e = -1:=by
 unfold bt;split
 ·rfl
 ·rw[List.getElem?_eq_none (aD (eu X))];rfl
theorem mJ(X:List bI):∀(k:Nat),k≤X.length→∀e:Int,0≤e→e<elems (X.take k)→∃i m,i<k∧X[i]?=some m∧elems (X.take i)≤e∧e<elems (X.take i)+m.num
 | 0,_,e,h0,h=>by simp[elems] at h;omega
 | k+1,ap,e,h0,h=>by
  have hm:X[k]?=some (X[k]'ad):=List.getElem?_eq_getElem _;by_cases ak:e<elems (X.take k)
  ·obtain⟨i,m,an,hx,ac,av⟩:=mJ X k ad e h0 ak;exact⟨i,m,ad,hx,ac,av⟩
  ·refine⟨k,_,ad,hm,ad,?_⟩;rw[aZ hm,iy] at h;exact h
theorem mF(h:0≤bt X e):∃i m,bt X e=(i:Nat)∧X[i]?=some m∧0≤e∧elems (X.take i)≤e∧e<elems (X.take i)+m.num:=by
 have h0:0≤e:=by
  rcases Int.lt_or_le e 0 with F|F
  ·rw[iV F] at h;omega
  ·exact F
 have ak:e<elems X:=by
  rcases Int.lt_or_le e (elems X) with F|F
  ·exact F
  ·rw[iW F] at h;omega
 obtain⟨i,m,_,hm,ac,av⟩:=mJ X X.length (KG _) e h0 (by rwa [List.take_length]);exact⟨i,m,kC hm h0 ac av,hm,h0,ac,av⟩
theorem l0(h0:0≤e)(h:e<elems X):0≤bt X e:=by
 obtain⟨i,m,_,hm,ac,av⟩:=mJ X X.length (KG _) e h0 (by rwa [List.take_length]);rw[kC hm h0 ac av];omega
theorem fQ:0≤bt X e↔0≤e∧e<elems X:=by
 constructor
 ·intro h;refine⟨?_,?_⟩
  ·rcases Int.lt_or_le e 0 with F|F
   ·rw[iV F] at h;omega
   ·exact F
  ·rcases Int.lt_or_le e (elems X) with F|F
   ·exact F
   ·rw[iW F] at h;omega
 ·exact fun h=>l0 h.1 h.2
def eR(X:List bI)(m:Int):Int:=if m<0∨(X.length:Int)≤m then -1 else elems (X.take m.toNat)
theorem lO{m:Int}(h:m<0∨(X.length:Int)≤m):eR X m = -1:=if_pos h
theorem m9(h:k<X.length):eR X k=elems (X.take k):=by
 unfold eR;rw[if_neg ad];rfl
theorem rL(ap:k<X.length):(own X)[(elems (X.take k)).toNat]?=some (k:Int):=by
 have hm:X[k]?=some (X[k]'ap):=List.getElem?_eq_getElem _;have h0:0≤elems (X.take k):=by have:=gj X k ad;omega
 exact wo hm ad (by have:=(X[k]'ap).oO;omega)
theorem Fu{e:Nat}{v:Int}(h:(own X)[e]?=some v):∃k m,v=(k:Nat)∧X[k]?=some m∧elems (X.take k)≤e∧(e:Int)<elems (X.take k)+m.num:=by
 have hl:=eu X;have he:=(List.getElem?_eq_some_iff.1 h).1;obtain⟨i,m,_,hm,ac,av⟩:=mJ X X.length (KG _) e ad (by rw[List.take_length];omega);have:=wo hm ac av;rw[h] at this;injection this with this;exact⟨i,m,this,hm,ac,av⟩
section
attribute [local go_sem ↓] gk gm
theorem j6(b:Bool)(w:World):Calls prog 161 #[.bool b] w fun e ab=>e=.returned (.int .i64 (fi b))∧w=ab:=by
 cases b<;>(go_enter func161,ntmps161;go_wp2;go_ret;exact⟨rfl,rfl⟩)
theorem h4(b:Bool)(w:World):Calls prog 91 #[.bool b] w fun e ab=>e=.returned (.int .i64 (fi b))∧w=ab:=by
 cases b<;>(go_enter func91,ntmps91;go_wp2;go_ret;exact⟨rfl,rfl⟩)
theorem nN(A:Ls)(n c:Nat)(l:List Int)(k:Int)(w:World)(h:cq (EF cM) 1 w w.heap.size A n l)(h0:0≤k)(ac:k<n) :
  Calls prog 160 #[.slice A n c,.int .i64 k] w fun e ab=>e=.returned (.int .i64 (l.getD k.toNat 0))∧w=ab:=by
 obtain⟨j,rfl⟩:=KL h0;obtain⟨b,o,x,rfl,O,hx,hc⟩:=h.int (show j<n by omega);have bi:j<n:=ad;have aQ:=ae (show l.getD (j:Int).toNat 0=x by rw[Lc,List.getD_eq_getElem?_getD,hx];rfl);clear hx h;go_enter func160,ntmps160;go_wp2;go_ret;exact⟨ret_int (by rw[aQ.o]),rfl⟩
theorem mM(a b:Int)(O:b≠0)(w:World) :
  Calls prog 92 #[.int .i64 a,.int .i64 b] w fun e ab=>e=.returned (.int .i64 (wrap64 (a.tdiv b)))∧w=ab:=by
 by_cases ac:b = -1
 ·subst ac;go_enter func92,ntmps92;go_wp2;go_ret;exact⟨ret_int (by rw[Int.tdiv_neg,Int.tdiv_one]),rfl⟩
 ·have cd:(b == -1)=false:=by simpa using ac
  have c8:(b == 0)=false:=by simpa using O
  go_enter func92,ntmps92;go_wp2;go_ret;exact⟨rfl,rfl⟩
def fX(w:World)(r:Int×Int)(e:Ending)(ab:World):Prop:=e=.returned (.tuple #[.int .i64 r.1,.int .i64 r.2])∧Below w.heap.size w ab
theorem fX.mk'{r:Int×Int}{a b:Int}(a5:r=(a,b))(O:Below w.heap.size w ab):fX w r (.returned (.tuple #[.int .i64 a,.int .i64 b])) ab:=by
 subst a5;exact⟨rfl,O⟩
theorem px(op a b:Int)(h:5≤op∧op≤15)(w:World) :
  Calls prog 162 #[.int .i64 op,.int .i64 a,.int .i64 b] w (fX w (arith op a b)):=by
 by_cases hdiv:(op=6∨op=7)∧b=0
 ·obtain⟨cy,rfl⟩:=hdiv;rcases cy with rfl|rfl
  all_goals
   go_enter func162,ntmps162;go_wp2
   go_ret2
   exact fX.mk' rfl (Below.refl _ _)
 ·obtain rfl|rfl|rfl|rfl|rfl|rfl|rfl|rfl|rfl|rfl|rfl:op=5∨op=6∨op=7∨op=8∨op=9∨op=10∨op=11∨op=12∨op=13∨op=14∨op=15:=ad
  case inr.inl=>
   have O:b≠0:=fun ah=>hdiv ⟨.inl rfl,ah⟩;have c8:(b == 0)=false:=by simpa using O
   have HA:=ae (show arith 6 a b=(wrap64 (a.tdiv b),0) by unfold arith;simp[O]);clear hdiv h;go_enter func162,ntmps162;go_wp2
   go_ret2
   exact fX.mk' HA.o (Below.refl _ _)
  case inr.inr.inl=>
   have O:b≠0:=fun ah=>hdiv ⟨.inr rfl,ah⟩;have c8:(b == 0)=false:=by simpa using O
   have HA:=ae (show arith 7 a b=(a.tmod b,0) by unfold arith;simp[O]);clear hdiv h;go_enter func162,ntmps162;go_wp2
   go_ret2
   exact fX.mk' HA.o (Below.refl _ _)
  all_goals
   clear hdiv h;go_enter func162,ntmps162;go_wp2_with((go_at_call 161;refine(j6 _ _).mono ?_;rintro e ab ⟨rfl,rfl⟩))
   go_ret2
   exact fX.mk' rfl (Below.refl _ _)
end
section
attribute [local go_sem ↓] gk gm
structure lD(w:World)(G L:Ls)(ng nl:Nat)(g l:List Int)(e:VE)(cs:List Value):Prop where
 gs:cq (EF cM) 1 w w.heap.size G ng g
 ls:cq (EF cM) 1 w w.heap.size L nl l
 ok:e.ok ng nl
 rep:e.at_ w cs
theorem lD.on{G L:Ls}{ng nl:Nat}{g l:List Int}{e:VE}(h:lD w G L ng nl g l e cs)(O:Below w.heap.size w ab):lD ab G L ng nl g l e cs:=
 ⟨h.gs.c4 O O.size,h.ls.c4 O O.size,h.ok,VE.Ii h.rep O⟩
def jn(e:VE):Prop:=∀(w:World) (G L:Ls) (ng nl cg cl:Nat) (g l:List Int) (c0 c1 c2 c3:Value),lD w G L ng nl g l e [c0,c1,c2,c3]→
 Calls prog 118 #[.agg #[.slice G ng cg,.slice L nl cl],.agg #[c0,c1,c2,c3]] w (fX w (ev g l e))
def jN(e:VE):Prop:=∀(w:World) (G L:Ls) (ng nl cg cl:Nat) (g l:List Int) (c0 c1 c2 c3:Value),lD w G L ng nl g l e [c0,c1,c2,c3]→
 Calls prog 148 #[.agg #[.slice G ng cg,.slice L nl cl],.agg #[c0,c1,c2,c3]] w (fX w (ev g l e))
def oZ(e:VE):Prop:=∀(w:World) (G L:Ls) (ng nl cg cl:Nat) (g l:List Int) (c0 c1 c2 c3:Value),lD w G L ng nl g l e [c0,c1,c2,c3]→
 Calls prog 149 #[.agg #[.slice G ng cg,.slice L nl cl],.agg #[c0,c1,c2,c3]] w (fX w (ev g l e))
theorem lL(a b:Obj):Below w.heap.size w ((w.alloc a).alloc b):=((Below.refl _ _).alloc (KG _) _).alloc (by simp) _
theorem wH(n:Int):jN (.num n):=by
 intro w G L ng nl cg cl g l c0 c1 c2 c3 h;obtain⟨nm,A,c,T⟩:=h.rep;injection T with h0 T;injection T with ac T;injection T with av T;injection T with aV T;subst h0 ac av aV;clear h T;go_enter func148,ntmps148;go_wp2
 go_ret2
 exact fX.mk' rfl (lL _ _)
namespace Bn
theorem A3(h:p:=by
 have u:=ae bO;clear aJ e0 e1 e2 e3 bO;have ak:∀V:World,Below W.heap.size W V→V.cell? ⟨w.heap.size,0,none⟩=some (.slice G ng cg)∧V.cell? ⟨w.heap.size,1,none⟩=some (.slice L nl cl)∧V.cell? ⟨w.heap.size+1,0,none⟩=some (.int .i64 op)∧V.cell? ⟨w.heap.size+1,3,none⟩=some (.slice (some ⟨b,o,none⟩) 1 c)∧
   V.cell? ⟨b,o,none⟩=some bs∧V.cell? ⟨b,o+1,none⟩=some Z∧V.cell? ⟨b,o+2,none⟩=some bv∧V.cell? ⟨b,o+3,none⟩=some E:=fun V hV=>by
  have bW:=u.o;have U:b<W.heap.size:=by have:=O;omega
  exact⟨(hV.cell (p:=⟨w.heap.size,0,none⟩) (by simp only[];omega)).trans a0,(hV.cell (p:=⟨w.heap.size,1,none⟩) (by simp only[];omega)).trans q,(hV.cell (p:=⟨w.heap.size+1,0,none⟩) (by simp only[];omega)).trans a8,(hV.cell (p:=⟨w.heap.size+1,3,none⟩) (by simp only[];omega)).trans v,
   (hV.cell (p:=⟨b,o,none⟩) U).trans d0,(hV.cell (p:=⟨b,o+1,none⟩) U).trans d1,(hV.cell (p:=⟨b,o+2,none⟩) U).trans d2,(hV.cell (p:=⟨b,o+3,none⟩) U).trans d3⟩
 have c7:=ae ak;clear ak a0 q a8 v d0 d1 d2 d3;go_region_held3 (fun V=>V.cell? ⟨w.heap.size,0,none⟩=some (.slice G ng cg)∧V.cell? ⟨w.heap.size,1,none⟩=some (.slice L nl cl)∧V.cell? ⟨w.heap.size+1,0,none⟩=some (.int .i64 op)∧V.cell? ⟨w.heap.size+1,3,none⟩=some (.slice (some ⟨b,o,none⟩) 1 c)∧
   V.cell? ⟨b,o,none⟩=some bs∧V.cell? ⟨b,o+1,none⟩=some Z∧V.cell? ⟨b,o+2,none⟩=some bv∧V.cell? ⟨b,o+3,none⟩=some E)
  (first|exact c7.o _ (Below.refl _ _)|exact c7.o _ (Below.refl _ _).drew|exact c7.o _ bg)
  (first|(go_at_call 118;refine(cp.o _ G L ng nl cg cl g l bs Z bv E ?_).mono ?_;(exact ba.on (Below.refl _ _).drew);rintro r ab ⟨rfl,d⟩;have bg:Below W.heap.size W ab:=(Below.refl W.heap.size W).drew.trans d;clear d))
 have J:=(f.trans (bg.mono f.size))
 have bq:=ae (show ev g l (.un op x)=if (ev g l x).2≠0 then (0,(ev g l x).2) else if op=3 then (wrap64 (-(ev g l x).1),0) else (fi ((ev g l x).1 == 0),0) from rfl);generalize ev g l x=r1 at *;obtain⟨v1,f1⟩:=r1;clear c7 cp ba;by_cases aK:f1=0
 case neg=>
  have q1:(f1 != 0)=true:=by simpa using aK
  have a4:=ae (show ev g l (.un op x)=(0,f1) by rw[bq.o];simp[aK]);clear aK;go_wp2
  go_ret2
  exact fX.mk' a4.o J
 have q1:(f1 != 0)=false:=by simpa using aK
 rcases bN.o with aV|bz
 ·have a4:=ae (show ev g l (.un op x)=(wrap64 (-v1),0) by rw[bq.o];simp[aK,aV]);subst aV;clear aK;go_wp2
  go_ret2
  exact fX.mk' a4.o J
 ·have a4:=ae (show ev g l (.un op x)=(fi (v1 == 0),0) by rw[bq.o];simp[aK,bz]);subst bz;clear aK;go_wp2_with((go_at_call 161;refine(j6 _ _).mono ?_;rintro e ab ⟨rfl,rfl⟩))
  go_ret2
  exact fX.mk' a4.o J
 ):p:=h
theorem AB(h:p:=by
 obtain⟨cp,bN⟩:=aI ax cy;clear h hx ax;have cd:(op == 1)=false:=by simp;omega
 have g2:(op == 18)=false:=by simp;omega
 have cS:(op == 19)=false:=by simp;omega
 clear cy;go_enter func148,ntmps148;go_wp2;have f:=lL (w:=w) (.cells #[.slice G ng cg,.slice L nl cl] 198) (.cells #[.int .i64 op,.int .i64 n,.string nm,.slice (some ⟨b,o,none⟩) 1 c] 54);have a0:((w.alloc (.cells #[.slice G ng cg,.slice L nl cl] 198)).alloc (.cells #[.int .i64 op,.int .i64 n,.string nm,.slice (some ⟨b,o,none⟩) 1 c] 54)).cell? ⟨w.heap.size,0,none⟩=some (.slice G ng cg):=by simp[go_sem]
 have q:((w.alloc (.cells #[.slice G ng cg,.slice L nl cl] 198)).alloc (.cells #[.int .i64 op,.int .i64 n,.string nm,.slice (some ⟨b,o,none⟩) 1 c] 54)).cell? ⟨w.heap.size,1,none⟩=some (.slice L nl cl):=by simp[go_sem]
 have a8:((w.alloc (.cells #[.slice G ng cg,.slice L nl cl] 198)).alloc (.cells #[.int .i64 op,.int .i64 n,.string nm,.slice (some ⟨b,o,none⟩) 1 c] 54)).cell? ⟨w.heap.size+1,0,none⟩=some (.int .i64 op):=by simp[go_sem]
 have v:((w.alloc (.cells #[.slice G ng cg,.slice L nl cl] 198)).alloc (.cells #[.int .i64 op,.int .i64 n,.string nm,.slice (some ⟨b,o,none⟩) 1 c] 54)).cell? ⟨w.heap.size+1,3,none⟩=some (.slice (some ⟨b,o,none⟩) 1 c):=by simp[go_sem]
 have bO:((w.alloc (.cells #[.slice G ng cg,.slice L nl cl] 198)).alloc (.cells #[.int .i64 op,.int .i64 n,.string nm,.slice (some ⟨b,o,none⟩) 1 c] 54)).heap.size=w.heap.size+2:=by simp
 generalize (w.alloc (.cells #[.slice G ng cg,.slice L nl cl] 198)).alloc (.cells #[.int .i64 op,.int .i64 n,.string nm,.slice (some ⟨b,o,none⟩) 1 c] 54)=W at *;have ba:=aJ.on f;exact A1
 ):p:=h
end Bn
open Bn in
theorem yL(op:Int)(x:VE)(ax:jn x):jN (.un op x):=by
 intro w G L ng nl cg cl g l c0 c1 c2 c3 h;exact AA
theorem qA(e:VE)(k:Int)(he:e=.loc k∨e=.iC k):jN e:=by
 intro w G L ng nl cg cl g l c0 c1 c2 c3 h;have a:=lL (w:=w) (.cells #[.slice G ng cg,.slice L nl cl] 198) (.cells #[c0,c1,c2,c3] 54);have bJ:=h.gs.c4 a a.size;have y:=h.ls.c4 a a.size;clear a;have bZ:=h.ok;rcases he with rfl|rfl
 all_goals
  obtain⟨nm,A,c,T⟩:=h.rep;injection T with h0 T;injection T with ac T;injection T with av T;injection T with aV T;subst h0 ac av aV;clear h T;obtain⟨bo,cf⟩:=bZ;go_enter func148,ntmps148;go_wp2_with(fail)
  first
  | refine(nN L nl cl l k _ y bo cf).mono ?_
  | refine(nN G ng cg g k _ bJ bo cf).mono ?_
  rintro e ab ⟨rfl,rfl⟩;go_wp2
  go_ret2
  exact fX.mk' rfl (lL _ _)
namespace Bo
theorem AI(h:p:=by
 obtain⟨HA,bN⟩:=aI bx bn;clear bq;have split:(op == 16)=true∧(v1 == 0)=false∧(op == 17)=false∨(op == 16)=false∧(op == 17)=true∧(v1 != 0)=false∨(op == 16)=false∧(op == 17)=false:=by
  exact Gl
 clear bx bn;have bm:=ae split;clear split;rcases bm.o with⟨br,bo,dB⟩|⟨br,bo,dB⟩|⟨br,bo⟩
 all_goals
  go_wp2;go_region_held3 (fun V=>V.cell? ⟨w.heap.size,0,none⟩=some (.slice G ng cg)∧V.cell? ⟨w.heap.size,1,none⟩=some (.slice L nl cl)∧V.cell? ⟨w.heap.size+1,0,none⟩=some (.int .i64 op)∧V.cell? ⟨w.heap.size+1,3,none⟩=some (.slice (some ⟨b,o,none⟩) 2 c)∧V.cell? ⟨b,o,none⟩=some bs∧V.cell? ⟨b,o+1,none⟩=some Z∧V.cell? ⟨b,o+2,none⟩=some bv∧V.cell? ⟨b,o+3,none⟩=some E∧V.cell? ⟨b,o+4,none⟩=some cE∧V.cell? ⟨b,o+5,none⟩=some cw∧V.cell? ⟨b,o+6,none⟩=some cG∧V.cell? ⟨b,o+7,none⟩=some b5)
   (first|exact c7.o _ (Below.refl _ _)|exact c7.o _ (Below.refl _ _).drew|exact c7.o _ ct|exact c7.o _ bg|exact c7.o _ bg.drew)
   (first|(go_at_call 118;refine(t.o _ G L ng nl cg cl g l cE cw cG b5 ?_).mono ?_;(exact(aG.on bg).on (Below.refl _ _).drew);rintro r b6 ⟨rfl,d⟩;have ct:Below W.heap.size W b6:=bg.drew.trans (d.mono bg.size);clear d))
  have J:=(f.trans (ct.mono f.size))
  generalize ev g l y=gM at *;obtain⟨v2,f2⟩:=gM;by_cases az:f2=0
  case neg=>
   have dd:(f2 != 0)=true:=by simpa using az
   have cj:=ae (show ev g l (.bin op x y)=(0,f2) by rw[a9.o];simp[az]);clear az;go_wp2
   go_ret2
   exact fX.mk' cj.o J
  have dd:(f2 != 0)=false:=by simpa using az
  have cj:=ae (show ev g l (.bin op x y)=if op=16∨op=17 then (fi (v2 != 0),0) else arith op v1 v2 by rw[a9.o];simp[az]);clear az a9
  first
  | (have F:=ae (show ev g l (.bin op x y)=(fi (v2 != 0),0) by rw[cj.o,if_pos (by first|exact .inl (by simpa using br)|exact .inr (by simpa using bo))]);go_wp2_with((go_at_call 161;refine(j6 _ _).mono ?_;rintro e ab ⟨rfl,rfl⟩));go_ret2;exact fX.mk' F.o J)
  | (have bf:op≠16∧op≠17:=⟨by simpa using br,by simpa using bo⟩;have F:=ae (show ev g l (.bin op x y)=arith op v1 v2 by rw[cj.o,if_neg ad]);go_wp2_with(fail);refine(px op v1 v2 ad _).mono ?_;rintro e cN ⟨rfl,bu⟩;go_wp2;go_ret2;exact fX.mk' (by rw[F.o]) (J.trans (bu.mono J.size)))
 ):p:=h
theorem Ah(h:p:=by
 clear cp ba;by_cases aK:f1=0
 case neg=>
  have q1:(f1 != 0)=true:=by simpa using aK
  have a4:=ae (show ev g l (.bin op x y)=(0,f1) by rw[bq.o];simp[aK]);clear aK;go_wp2
  go_ret2
  exact fX.mk' a4.o J
 have q1:(f1 != 0)=false:=by simpa using aK
 have bw:=ae aK;clear aK;by_cases bx:op=16∧v1=0
 ·obtain⟨rfl,rfl⟩:=bx;have a4:=ae (show ev g l (.bin 16 x y)=(0,0) by rw[bq.o];simp[bw.o]);go_wp2
  go_ret2
  exact fX.mk' a4.o J
 by_cases bn:op=17∧v1≠0
 ·obtain⟨rfl,bM⟩:=bn;have cB:(v1 != 0)=true:=by simpa using bM
  have a4:=ae (show ev g l (.bin 17 x y)=(1,0) by rw[bq.o];simp[bw.o,bM]);clear bM;go_wp2
  go_ret2
  exact fX.mk' a4.o J
 exact AH
 ):p:=h
theorem A3(h:p:=by
 have d4:=(f.cell (p:=⟨b,o+4,none⟩) O).trans cH;have d5:=(f.cell (p:=⟨b,o+5,none⟩) O).trans cr;have d6:=(f.cell (p:=⟨b,o+6,none⟩) O).trans a7;have d7:=(f.cell (p:=⟨b,o+7,none⟩) O).trans e7;have u:=ae bO;clear aJ j e0 e1 e2 e3 cH cr a7 e7 bO;have ak:∀V:World,Below W.heap.size W V→V.cell? ⟨w.heap.size,0,none⟩=some (.slice G ng cg)∧V.cell? ⟨w.heap.size,1,none⟩=some (.slice L nl cl)∧V.cell? ⟨w.heap.size+1,0,none⟩=some (.int .i64 op)∧V.cell? ⟨w.heap.size+1,3,none⟩=some (.slice (some ⟨b,o,none⟩) 2 c)∧V.cell? ⟨b,o,none⟩=some bs∧V.cell? ⟨b,o+1,none⟩=some Z∧V.cell? ⟨b,o+2,none⟩=some bv∧V.cell? ⟨b,o+3,none⟩=some E∧V.cell? ⟨b,o+4,none⟩=some cE∧V.cell? ⟨b,o+5,none⟩=some cw∧V.cell? ⟨b,o+6,none⟩=some cG∧V.cell? ⟨b,o+7,none⟩=some b5:=fun V hV=>by
  have bW:=u.o;have U:b<W.heap.size:=by have:=O;omega
  exact⟨(hV.cell (p:=⟨w.heap.size,0,none⟩) (by simp only[];omega)).trans a0,(hV.cell (p:=⟨w.heap.size,1,none⟩) (by simp only[];omega)).trans q,(hV.cell (p:=⟨w.heap.size+1,0,none⟩) (by simp only[];omega)).trans a8,(hV.cell (p:=⟨w.heap.size+1,3,none⟩) (by simp only[];omega)).trans v,(hV.cell (p:=⟨b,o,none⟩) U).trans d0,(hV.cell (p:=⟨b,o+1,none⟩) U).trans d1,(hV.cell (p:=⟨b,o+2,none⟩) U).trans d2,(hV.cell (p:=⟨b,o+3,none⟩) U).trans d3,(hV.cell (p:=⟨b,o+4,none⟩) U).trans d4,(hV.cell (p:=⟨b,o+5,none⟩) U).trans d5,(hV.cell (p:=⟨b,o+6,none⟩) U).trans d6,(hV.cell (p:=⟨b,o+7,none⟩) U).trans d7⟩
 have c7:=ae ak;clear ak a0 q a8 v d0 d1 d2 d3 d4 d5 d6 d7;go_region_held3 (fun V=>V.cell? ⟨w.heap.size,0,none⟩=some (.slice G ng cg)∧V.cell? ⟨w.heap.size,1,none⟩=some (.slice L nl cl)∧V.cell? ⟨w.heap.size+1,0,none⟩=some (.int .i64 op)∧V.cell? ⟨w.heap.size+1,3,none⟩=some (.slice (some ⟨b,o,none⟩) 2 c)∧V.cell? ⟨b,o,none⟩=some bs∧V.cell? ⟨b,o+1,none⟩=some Z∧V.cell? ⟨b,o+2,none⟩=some bv∧V.cell? ⟨b,o+3,none⟩=some E∧V.cell? ⟨b,o+4,none⟩=some cE∧V.cell? ⟨b,o+5,none⟩=some cw∧V.cell? ⟨b,o+6,none⟩=some cG∧V.cell? ⟨b,o+7,none⟩=some b5)
  (first|exact c7.o _ (Below.refl _ _)|exact c7.o _ (Below.refl _ _).drew|exact c7.o _ bg|exact c7.o _ bg|exact c7.o _ bg.drew)
  (first|(go_at_call 118;refine(cp.o _ G L ng nl cg cl g l bs Z bv E ?_).mono ?_;(exact ba.on (Below.refl _ _).drew);rintro r aT ⟨rfl,d⟩;have bg:Below W.heap.size W aT:=(Below.refl W.heap.size W).drew.trans (d.mono (KG _));clear d))
 have J:=(f.trans (bg.mono f.size))
 exact Ag
 ):p:=h
theorem Aa(h:p:=by
 obtain⟨cp,t⟩:=aI k m;clear h hx bb k m;go_enter func149,ntmps149;go_wp2;have f:=lL (w:=w) (.cells #[.slice G ng cg,.slice L nl cl] 198) (.cells #[.int .i64 op,.int .i64 n,.string nm,.slice (some ⟨b,o,none⟩) 2 c] 54);have a0:((w.alloc (.cells #[.slice G ng cg,.slice L nl cl] 198)).alloc (.cells #[.int .i64 op,.int .i64 n,.string nm,.slice (some ⟨b,o,none⟩) 2 c] 54)).cell? ⟨w.heap.size,0,none⟩=some (.slice G ng cg):=by simp[go_sem]
 have q:((w.alloc (.cells #[.slice G ng cg,.slice L nl cl] 198)).alloc (.cells #[.int .i64 op,.int .i64 n,.string nm,.slice (some ⟨b,o,none⟩) 2 c] 54)).cell? ⟨w.heap.size,1,none⟩=some (.slice L nl cl):=by simp[go_sem]
 have a8:((w.alloc (.cells #[.slice G ng cg,.slice L nl cl] 198)).alloc (.cells #[.int .i64 op,.int .i64 n,.string nm,.slice (some ⟨b,o,none⟩) 2 c] 54)).cell? ⟨w.heap.size+1,0,none⟩=some (.int .i64 op):=by simp[go_sem]
 have v:((w.alloc (.cells #[.slice G ng cg,.slice L nl cl] 198)).alloc (.cells #[.int .i64 op,.int .i64 n,.string nm,.slice (some ⟨b,o,none⟩) 2 c] 54)).cell? ⟨w.heap.size+1,3,none⟩=some (.slice (some ⟨b,o,none⟩) 2 c):=by simp[go_sem]
 have bO:((w.alloc (.cells #[.slice G ng cg,.slice L nl cl] 198)).alloc (.cells #[.int .i64 op,.int .i64 n,.string nm,.slice (some ⟨b,o,none⟩) 2 c] 54)).heap.size=w.heap.size+2:=by simp
 generalize (w.alloc (.cells #[.slice G ng cg,.slice L nl cl] 198)).alloc (.cells #[.int .i64 op,.int .i64 n,.string nm,.slice (some ⟨b,o,none⟩) 2 c] 54)=W at *;have ba:=aJ.on f;have aG:=j.on f;exact A1
 ):p:=h
end Bo
open Bo in
theorem vH(op:Int)(x y:VE)(k:jn x)(m:jn y):oZ (.bin op x y):=by
 intro w G L ng nl cg cl g l c0 c1 c2 c3 h;exact z9
theorem mz(e:VE)(S:jN e)(hl:∀w cs,e.at_ w cs→∃op n nm A k c,cs=[.int .i64 op,.int .i64 n,.string nm,.slice A k c]∧k≤1):jn e:=by
 intro w G L ng nl cg cl g l c0 c1 c2 c3 h;obtain⟨op,n,nm,A,k,c,T,ap⟩:=hl _ _ h.rep;injection T with h0 T;injection T with ac T;injection T with av T;injection T with aV T;subst h0 ac av aV;clear T;have bm:=ae S;clear S hl;have q:((k:Int) == 2)=false:=by simp;omega
 have ar:(k == 2)=false:=by simp;omega
 clear ap;go_enter func118,ntmps118;go_wp2_with(fail);have f:=lL (w:=w) (.cells #[.slice G ng cg,.slice L nl cl] 198) (.cells #[.int .i64 op,.int .i64 n,.string nm,.slice A k c] 54);have aJ:=h.on f;clear h;refine(bm.o _ G L ng nl cg cl g l _ _ _ _ aJ).mono ?_;rintro r ab ⟨rfl,O⟩;go_wp2
 go_ret2
 exact fX.mk' rfl (f.trans (O.mono f.size))
theorem DA(op:Int)(x y:VE)(S:oZ (.bin op x y)):jn (.bin op x y):=by
 intro w G L ng nl cg cl g l c0 c1 c2 c3 h;obtain⟨n,nm,b,o,c,bs,Z,bv,E,cE,cw,cG,b5,T,_⟩:=h.rep;injection T with h0 T;injection T with ac T;injection T with av T;injection T with aV T;subst h0 ac av aV;clear T;have bm:=ae S;clear S;go_enter func118,ntmps118;go_wp2_with(fail);have f:=lL (w:=w) (.cells #[.slice G ng cg,.slice L nl cl] 198) (.cells #[.int .i64 op,.int .i64 n,.string nm,.slice (some ⟨b,o,none⟩) 2 c] 54);have aJ:=h.on f;clear h;refine(bm.o _ G L ng nl cg cl g l _ _ _ _ aJ).mono ?_;rintro r ab ⟨rfl,O⟩;go_wp2
 go_ret2
 exact fX.mk' rfl (f.trans (O.mono f.size))
theorem oI:∀e:VE,jn e
 | .num n=>mz _ (wH n) (fun w cs h=>by obtain⟨nm,A,c,rfl⟩:=h;exact⟨_,_,_,_,_,_,rfl,ad⟩)
 | .g0 s=>fun w G L ng nl cg cl g l c0 c1 c2 c3 h=>h.ok.elim
 | .loc k=>mz _ (qA _ k (.inl rfl)) (fun w cs h=>by obtain⟨nm,A,c,rfl⟩:=h;exact⟨_,_,_,_,_,_,rfl,ad⟩)
 | .iC k=>mz _ (qA _ k (.inr rfl)) (fun w cs h=>by obtain⟨nm,A,c,rfl⟩:=h;exact⟨_,_,_,_,_,_,rfl,ad⟩)
 | .un op x=>mz _ (yL op x (oI x)) (fun w cs h=>by obtain⟨n,nm,b,o,c,bs,Z,bv,E,rfl,_⟩:=h;exact⟨_,_,_,_,_,_,rfl,ad⟩)
 | .bin op x y=>DA op x y (vH op x y (oI x) (oI y))
theorem o2(e:VE)(w:World)(G L:Ls)(ng nl cg cl:Nat)(g l:List Int)(c0 c1 c2 c3:Value)(h:lD w G L ng nl g l e [c0,c1,c2,c3]) :
  Calls prog 90 #[.agg #[c0,c1,c2,c3],.slice G ng cg,.slice L nl cl] w (fX w (ev g l e)):=by
 have bq:=ae (oI e);go_enter func90,ntmps90;go_wp2_with(fail);have f:=(Below.refl w.heap.size w).alloc (KG _) (.cells #[c0,c1,c2,c3] 54);have aJ:=h.on f;clear h;refine(bq.o _ G L ng nl cg cl g l _ _ _ _ aJ).mono ?_;rintro r ab ⟨rfl,O⟩;go_wp2
 go_ret2
 exact fX.mk' rfl (f.trans (O.mono f.size))
end
def HX(w:World)(x:VE)(e:Ending)(ab:World):Prop:=∃c0 c1 c2 c3,e=.returned (.agg #[c0,c1,c2,c3])∧x.rep ab (fun b=>w.heap.size≤b∧b<ab.heap.size) [c0,c1,c2,c3]∧Below w.heap.size w ab
variable{x:VE}
theorem HX.mk'{y:VE}{c0 c1 c2 c3:Value}(hx:x=y)(h:y.rep ab (fun b=>w.heap.size≤b∧b<ab.heap.size) [c0,c1,c2,c3])(O:Below w.heap.size w ab):HX w x (.returned (.agg #[c0,c1,c2,c3])) ab:=by
 subst hx;exact⟨_,_,_,_,rfl,h,O⟩
def Hr(n:Int):VE:=if 0≤n then .num n else .bin 9 (.un 3 (.num (wrap64 (-(wrap64 (n+1)))))) (.num 1)
theorem lD.new(h:x.rep ab (fun b=>B≤b∧b<ab.heap.size) cs)(bZ:x.ok 0 0):lD ab none none 0 0 [] [] x cs:=
 ⟨cq.bO _,cq.bO _,bZ,VE.aL (fun _ h=>h.2) _ _ h⟩
section
attribute [local go_sem ↓] gk gm
def within(x n:Int):Int:=x % n
theorem yR{x:Int}(h:0<n):(x.tmod n+n).tmod n=within x n:=by
 unfold within;have ac:=Int.emod_nonneg x (show n≠0 by omega);have av:=Int.emod_lt_of_pos x h;have key:∀y:Int,0≤y→y.tmod n=y % n:=fun y bb=>Int.tmod_eq_emod_of_nonneg bb;rcases Int.lt_or_le x 0 with hx|hx
 ·have e1:x.tmod n = -((-x) % n):=by
   have:=key (-x) ad;rw[Int.neg_tmod] at this;omega
  have aV:=Int.emod_nonneg (-x) (show n≠0 by omega);have bz:=Int.emod_lt_of_pos (-x) h;rw[e1,key _ ad];rw[Int.add_emod_right];have cm:(-((-x) % n)) % n=x % n:=by
   have aY:-((-x) % n)=x+n*((-x) / n):=by
    have:=Int.emod_add_mul_ediv (-x) n;omega
   rw[aY,Int.add_mul_emod_self_left]
  exact cm
 ·rw[key x hx,key _ ad,Int.add_emod_right,Int.emod_emod_of_dvd _ (Int.dvd_refl n)]
theorem tk{x:Int}(h:0<n):0≤within x n∧within x n<n:=⟨Int.emod_nonneg x ad,Int.emod_lt_of_pos x h⟩
theorem cq.IE{n:Nat}{l:List bI}(h:cq (EF gy) 3 w B A n l)(ap:k<n):
  ∃b o m,A=some ⟨b,o,none⟩∧b<B∧l[k]?=some m∧w.cell? ⟨b,o+k*3,none⟩=some (.string m.name)∧w.cell? ⟨b,o+k*3+1,none⟩=some (.bool m.re)∧w.cell? ⟨b,o+k*3+2,none⟩=some (.int .i64 m.size):=by
 obtain⟨b,o,m,bw,O,hm,_,hc⟩:=h.Ih ap;exact⟨b,o,m,bw,O,hm,hc 0 _ rfl,hc 1 _ rfl,hc 2 _ rfl⟩
theorem cq.hold{n:Nat}{l:List cy}(h:cq (EF bJ) 2 w B A n l)(ap:k<n):
  ∃b o m,A=some ⟨b,o,none⟩∧b<B∧l[k]?=some m∧w.cell? ⟨b,o+k*2,none⟩=some (.int .i64 m.owner)∧w.cell? ⟨b,o+k*2+1,none⟩=some (.int .i64 m.depth):=by
 obtain⟨b,o,m,bw,O,hm,_,hc⟩:=h.Ih ap;exact⟨b,o,m,bw,O,hm,hc 0 _ rfl,hc 1 _ rfl⟩
theorem DP(l:List bI):∀x∈l,(gy x).length=3:=fun _ _=>rfl
theorem eE(l:List cy):∀x∈l,(bJ x).length=2:=fun _ _=>rfl
theorem D3(l:List bI):∀x∈l,∀u∈gy x,u.oneCell'=true:=fun x _ u hu=>by
 simp only[gy,KW,List.not_mem_nil,or_false] at hu;rcases hu with rfl|rfl|rfl<;>rfl
theorem k5(l:List cy):∀x∈l,∀u∈bJ x,u.oneCell'=true:=fun x _ u hu=>by
 simp only[bJ,KW,List.not_mem_nil,or_false] at hu;rcases hu with rfl|rfl<;>rfl
theorem mH(l:List Int):∀x∈l,∀u∈cM x,u.oneCell'=true:=fun x _ u hu=>by
 simp only[cM,KW,List.not_mem_nil,or_false] at hu;subst hu;rfl
theorem kO:ch prog 37 102 (.agg #[.int .i64 0,.int .i64 0]) 2 16:=ch.mk' Tryz.underlying37 (by kernel_rfl) rfl ad
theorem lM:ch prog 24 128 (.agg #[.string ⟨#[]⟩,.bool false,.int .i64 0]) 3 32:=ch.mk' Tryz.underlying24 (by kernel_rfl) rfl ad
theorem mb(x n:Int)(hn:0<n)(O:n≤4611686018427387904)(w:World) :
  Calls prog 27 #[.int .i64 x,.int .i64 n] w fun e ab=>e=.returned (.int .i64 (within x n))∧w=ab:=by
 have bt:(n == 0)=false:=by simp;omega
 go_enter func27,ntmps27;go_wp2;go_ret;refine⟨ret_int ?_,rfl⟩;have ac:=Int.lt_tmod_of_pos x hn;have av:=Int.tmod_lt_of_pos x hn;rw[←yR hn];congr 1
 unfold RowKit.wrap64;omega
theorem h1(A:Ls)(n c:Nat)(X:List bI)(w:World)(h:cq (EF gy) 3 w w.heap.size A n X)(hX:m2 X) :
  Calls prog 55 #[.slice A n c] w fun e ab=>e=.returned (.int .i64 (elems X))∧Below w.heap.size w ab:=by
 have hl:=h.1;have hn:=hX.1;go_enter func55,ntmps55;go_wp2;go_loopw [3,8] (fun s i wr=>∃k:Nat,k≤n∧i=.int .i64 k∧s=.int .i64 (elems (X.take k))∧Below w.heap.size w wr) (fun _ i _=>n - (intOf i).toNat)
 case atStart=>exact⟨0,Ld _,rfl,rfl,Below.refl _ _⟩
 case round=>
  obtain⟨k,ap,rfl,rfl,O⟩:=hrel;by_cases ak:k<n
  ·obtain⟨b,o,m,rfl,U,hm,c0,c1,c2⟩:=(h.ez O).IE ak;have C:=hX.mm k;have bU:=hX.at_ hm;have bW:=O.size;have bm:=ae (show elems (X.take (k+1))=elems (X.take k)+max m.size 1 by rw[aZ hm,iy];rfl);clear hm;go_wp2;go_roundw
   case rel=>exact⟨k+1,ad,by go_num,by rw[bm.o],((O.alloc bW _).alloc (by simp;omega) _)⟩
   case measure=>exact aH
  ·go_wp2;go_ret;exact⟨ret_int (by first|rfl|rw[KO ad]),O⟩
theorem Di(A:Ls)(n c:Nat)(X:List bI)(m:Int)(w:World)(h:cq (EF gy) 3 w w.heap.size A n X)(hX:m2 X)(U:n≤c) :
  Calls prog 69 #[.slice A n c,.int .i64 m] w fun e ab=>e=.returned (.int .i64 (eR X m))∧Below w.heap.size w ab:=by
 have hl:=h.1;by_cases hm:m<0
 ·have b2:=ae (show eR X m = -1 from lO (.inl hm));clear h hX hl;go_enter func69,ntmps69;exact ve
 by_cases al:(n:Int)≤m
 ·have b2:=ae (show eR X m = -1 from lO (.inr ad));clear h hX hl;go_enter func69,ntmps69;exact ve
 obtain⟨k,rfl⟩:=KL (show 0≤m by omega);have b2:=ae (show eR X k=elems (X.take k) from m9 ad);have F:cq (EF gy) 3 w w.heap.size A k (X.take k):=by
  refine⟨by simp;omega,fun ap=>?_⟩;obtain⟨b,o,bw,O,hc⟩:=h.2 ad;refine⟨b,o,bw,O,fun j x hx=>hc j x ?_⟩;rw[List.getElem?_take] at hx;split at hx
  ·exact hx
  ·cases hx
 have ap:k<n:=ad;have a:=hX.take k;clear h hX hl hm al;go_enter func69,ntmps69;go_wp2_with(fail);refine(h1 A k k _ w F a).mono ?_;rintro e ab ⟨rfl,O⟩;go_wp2;go_ret;exact⟨ret_int (by rw[b2.o]),O⟩
theorem nZ(A:Ls)(n c:Nat)(X:List bI)(e:Int)(w:World)(h:cq (EF gy) 3 w w.heap.size A n X)(hX:m2 X)(he:e≤9223372036854775807) :
  Calls prog 101 #[.slice A n c,.int .i64 e] w fun r ab=>r=.returned (.int .i64 (bt X e))∧Below w.heap.size w ab:=by
 have hl:=h.1;have hn:=hX.1;by_cases a:e<0
 ·have b2:=ae (show bt X e = -1 from iV a);clear h hX hl;go_enter func101,ntmps101;exact ve
 go_enter func101,ntmps101;go_wp2;go_loopw [1,11] (fun s i wr=>∃k:Nat,k≤n∧i=.int .i64 k∧s=.int .i64 (e - elems (X.take k))∧elems (X.take k)≤e∧Below w.heap.size w wr) (fun _ i _=>n - (intOf i).toNat)
 case atStart=>exact⟨0,Ld _,rfl,DO (by simp[elems]),by simp[elems];omega,Below.refl _ _⟩
 case round=>
  obtain⟨k,ap,rfl,rfl,hle,O⟩:=hrel;by_cases ak:k<n
  ·obtain⟨b,o,m,rfl,U,hm,c0,c1,c2⟩:=(h.ez O).IE ak;have C:=hX.mm k;have bU:=hX.at_ hm;have bW:=O.size;have bm:=ae (show elems (X.take (k+1))=elems (X.take k)+max m.size 1 by rw[aZ hm,iy];rfl);have cR:=ae hm;clear hm;by_cases aJ:e - elems (X.take k)<max m.size 1
   ·have aW:=ae (show bt X e=k from kC cR.o ad hle (by unfold bI.num;omega));go_wp2;go_ret;exact⟨ret_int (by rw[aW.o]),((O.alloc bW _).alloc (by simp;omega) _)⟩
   ·go_wp2;go_roundw
    case rel=>exact⟨k+1,ad,by go_num,DO (by rw[bm.o];omega),by rw[bm.o];omega,(((O.alloc bW _).alloc (by simp;omega) _).alloc (by simp;omega) _)⟩
    case measure=>exact aH
  ·have aW:=ae (show bt X e = -1 from iW (by rwa [KO ad] at hle));exact ra
end
end Go.Proofs.YtnhhdaggkiomoaaGreat

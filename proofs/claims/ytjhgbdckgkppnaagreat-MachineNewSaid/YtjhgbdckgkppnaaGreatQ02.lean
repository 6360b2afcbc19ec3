/- Part 2 of the proof (ValMem TabPlain ValA ValB ValC TabA), without conditions of its own. -/
import Derived.Test.YtjhgbdckgkppnaaGreatQ01
namespace Go.Proofs.YtjhgbdckgkppnaaGreat
open Go.RowKit Go.Proofs.Tryz
set_option maxRecDepth 1000000
set_option maxHeartbeats 25600000
set_option linter.unusedVariables false
variable{e n:Int}{cs:List Value}{B k:Nat}{A:GR}{p:Prop}{ab w:World}
inductive VE where
 | num (n:Int)
 | ga (s:ByteArray)
 | loc (k:Int)
 | hR (k:Int)
 | un (op:Int) (x:VE)
 | bin (op:Int) (x y:VE)
def VE.rep(w:World)(P:Nat→Prop):VE→List Value→Prop
 | .num n=>fun cs=>∃nm A c,cs=[.int .i64 1,.int .i64 n,.string nm,.slice A 0 c]
 | .ga s=>fun cs=>∃n A c,cs=[.int .i64 2,.int .i64 n,.string s,.slice A 0 c]
 | .loc k=>fun cs=>∃nm A c,cs=[.int .i64 18,.int .i64 k,.string nm,.slice A 0 c]
 | .hR k=>fun cs=>∃nm A c,cs=[.int .i64 19,.int .i64 k,.string nm,.slice A 0 c]
 | .un op x=>fun cs=>∃n nm b o c bD Z ay E,cs=[.int .i64 op,.int .i64 n,.string nm,.slice (some ⟨b,o,none⟩) 1 c]∧P b∧x.rep w P [bD,Z,ay,E]∧
   w.cell? ⟨b,o,none⟩=some bD∧w.cell? ⟨b,o+1,none⟩=some Z∧w.cell? ⟨b,o+2,none⟩=some ay∧w.cell? ⟨b,o+3,none⟩=some E
 | .bin op x y=>fun cs=>∃n nm b o c bD Z ay E b8 b2 bu bA,cs=[.int .i64 op,.int .i64 n,.string nm,.slice (some ⟨b,o,none⟩) 2 c]∧P b∧x.rep w P [bD,Z,ay,E]∧y.rep w P [b8,b2,bu,bA]∧
   w.cell? ⟨b,o,none⟩=some bD∧w.cell? ⟨b,o+1,none⟩=some Z∧w.cell? ⟨b,o+2,none⟩=some ay∧w.cell? ⟨b,o+3,none⟩=some E∧
   w.cell? ⟨b,o+4,none⟩=some b8∧w.cell? ⟨b,o+5,none⟩=some b2∧w.cell? ⟨b,o+6,none⟩=some bu∧w.cell? ⟨b,o+7,none⟩=some bA
theorem VE.bg{w ab:World}{P:Nat→Prop}(ap:∀b,P b→ab.heap[b]?=w.heap[b]?):∀(e:VE) (cs:List Value),e.rep w P cs→e.rep ab P cs
 | .num _,_,h=>h
 | .ga _,_,h=>h
 | .loc _,_,h=>h
 | .hR _,_,h=>h
 | .un op x,cs,h=>by
  obtain⟨n,nm,b,o,c,bD,Z,ay,E,T,O,hx,c0,c1,c2,c3⟩:=h;have hc:∀j,ab.cell? ⟨b,j,none⟩=w.cell? ⟨b,j,none⟩:=fun j=>World.cell?_of_block (w:=w) (ap b O)
  exact⟨n,nm,b,o,c,bD,Z,ay,E,T,O,VE.bg ap x _ hx,(hc _).trans c0,(hc _).trans c1,(hc _).trans c2,(hc _).trans c3⟩
 | .bin op x y,cs,h=>by
  obtain⟨n,nm,b,o,c,bD,Z,ay,E,b8,b2,bu,bA,T,O,hx,a3,c0,c1,c2,c3,a6,ca,aP,cx⟩:=h;have hc:∀j,ab.cell? ⟨b,j,none⟩=w.cell? ⟨b,j,none⟩:=fun j=>World.cell?_of_block (w:=w) (ap b O);exact⟨n,nm,b,o,c,bD,Z,ay,E,b8,b2,bu,bA,T,O,VE.bg ap x _ hx,VE.bg ap y _ a3,(hc _).trans c0,(hc _).trans c1,(hc _).trans c2,(hc _).trans c3,(hc _).trans a6,(hc _).trans ca,(hc _).trans aP,(hc _).trans cx⟩
theorem VE.aP{w:World}{P c8:Nat→Prop}(hp:∀b,P b→c8 b):∀(e:VE) (cs:List Value),e.rep w P cs→e.rep w c8 cs
 | .num _,_,h=>h
 | .ga _,_,h=>h
 | .loc _,_,h=>h
 | .hR _,_,h=>h
 | .un op x,cs,h=>by
  obtain⟨n,nm,b,o,c,bD,Z,ay,E,T,O,hx,hc⟩:=h
  exact⟨n,nm,b,o,c,bD,Z,ay,E,T,hp b O,VE.aP hp x _ hx,hc⟩
 | .bin op x y,cs,h=>by
  obtain⟨n,nm,b,o,c,bD,Z,ay,E,b8,b2,bu,bA,T,O,hx,a3,hc⟩:=h;exact⟨n,nm,b,o,c,bD,Z,ay,E,b8,b2,bu,bA,T,hp b O,VE.aP hp x _ hx,VE.aP hp y _ a3,hc⟩
abbrev VE.at_(w:World)(e:VE)(cs:List Value):Prop:=e.rep w (·<w.heap.size) cs
theorem VE.EV{e:VE}(h:e.at_ w cs)(O:Below w.heap.size w ab):e.at_ ab cs:=
 VE.aP (fun _ ao=>Gc ao O.size) _ _ (VE.bg (fun b ao=>O.block b ao) _ _ h)
def VE.ok(ng nl:Nat):VE→Prop
 | .num _=>True
 | .ga _=>False
 | .loc k=>0≤k∧k<nl
 | .hR k=>0≤k∧k<ng
 | .un op x=>(op=3∨op=4)∧x.ok ng nl
 | .bin op x y=>(5≤op∧op≤17)∧x.ok ng nl∧y.ok ng nl
def gj(b:Bool):Int:=if b then 1 else 0
def arith(op a b:Int):Int×Int:=
 if op=5 then (wrap64 (a*b),0) else if op=8 then (wrap64 (a+b),0) else if op=9 then (wrap64 (a - b),0)
 else if op=6 then (if b=0 then (0,1) else (wrap64 (a.tdiv b),0))
 else if op=7 then (if b=0 then (0,1) else (a.tmod b,0))
 else if op=10 then (gj (decide (a<b)),0) else if op=11 then (gj (decide (a≤b)),0)
 else if op=12 then (gj (decide (b<a)),0) else if op=13 then (gj (decide (b≤a)),0)
 else if op=14 then (gj (a == b),0) else if op=15 then (gj (a != b),0) else (0,0)
def ev(g l:List Int):VE→Int×Int
 | .num n=>(n,0)
 | .ga _=>(0,0)
 | .loc k=>(l.getD k.toNat 0,0)
 | .hR k=>(g.getD k.toNat 0,0)
 | .un op x=>if (ev g l x).2≠0 then (0,(ev g l x).2) else if op=3 then (wrap64 (-(ev g l x).1),0) else (gj ((ev g l x).1 == 0),0)
 | .bin op x y=>
  if (ev g l x).2≠0 then (0,(ev g l x).2)
  else if op=16∧(ev g l x).1=0 then (0,0)
  else if op=17∧(ev g l x).1≠0 then (1,0)
  else if (ev g l y).2≠0 then (0,(ev g l y).2)
  else if op=16∨op=17 then (gj ((ev g l y).1 != 0),0)
  else arith op (ev g l x).1 (ev g l y).1
structure bF where
 name:ByteArray
 re:Bool
 size:Int
structure ct where
 owner:Int
 depth:Int
 deriving DecidableEq
def hi(m:bF):List Value:=[.string m.name,.bool m.re,.int .i64 m.size]
def bZ(h:ct):List Value:=[.int .i64 h.owner,.int .i64 h.depth]
def bF.num(m:bF):Int:=max m.size 1
def bF.oi(m:bF):Nat:=(max m.size 1).toNat
theorem bF.qs(m:bF):1≤m.num:=by unfold bF.num;omega
theorem bF.qp(m:bF):(m.oi:Int)=m.num:=by unfold bF.num bF.oi;omega
def oQ(X:List bF):Prop:=X.length≤64∧∀m∈X,0≤m.size∧m.size≤64
def elems(X:List bF):Int:=(X.map bF.num).sum
theorem nQ(m:bF)(X:List bF):elems (m::X)=m.num+elems X:=by simp[elems]
theorem vf(X Y:List bF):elems (X++Y)=elems X+elems Y:=by simp[elems]
theorem hk(X:List bF)(m:bF):elems (X++[m])=elems X+m.num:=by simp[elems]
theorem ml:∀(X:List bF),(∀m∈X,0≤m.size∧m.size≤64)→(X.length:Int)≤elems X∧elems X≤64*X.length
 | [],_=>by simp[elems]
 | m::X,h=>by
  have ac:=h m (by simp);have J:=ml X (fun m hm=>h m (by simp[hm]));rw[nQ];simp only[Gp];have:=m.qs;unfold bF.num at *;omega
theorem oQ.take{X:List bF}(h:oQ X)(k:Nat):oQ (X.take k):=
 ⟨by have:=h.1;simp;omega,fun m hm=>h.2 m (List.mem_of_mem_take hm)⟩
variable{X:List bF}
theorem oQ.bound(h:oQ X):0≤elems X∧elems X≤4096:=by
 have:=ml X h.2;have:=h.1;omega
theorem oQ.mW(h:oQ X)(k:Nat):0≤elems (X.take k)∧elems (X.take k)≤4096:=(h.take k).bound
variable{m:bF}
theorem oQ.at_(h:oQ X)(hm:X[k]?=some m):0≤m.size∧m.size≤64:=h.2 m (Ge hm)
theorem oY(X:List bF)(k:Nat):elems (X.take k)≤elems X:=by
 have h:=vf (X.take k) (X.drop k);rw[List.take_append_drop] at h;have:∀Y:List bF,0≤elems Y:=fun Y=>by
  induction Y with
  | nil=>simp[elems]
  | cons m Y aa=>rw[nQ];have:=m.qs;omega
 have:=this (X.drop k);omega
def hH(X:List bF)(k:Nat):List Int:=(X.take k).zipIdx.flatMap fun p=>List.replicate p.1.oi (p.2:Int)
def own(X:List bF):List Int:=hH X X.length
theorem oo(X:List bF):hH X 0=[]:=by simp[hH]
theorem i6(h:X[k]?=some m):hH X (k+1)=hH X k++List.replicate m.oi (k:Int):=by
 have ap:k<X.length:=(List.getElem?_eq_some_iff.1 h).1;unfold hH;rw[bo h,List.zipIdx_append,List.flatMap_append];congr 1
 simp[Nat.min_eq_left (Nat.le_of_lt ap)]
theorem gV(X:List bF):∀k,k≤X.length→((hH X k).length:Int)=elems (X.take k)
 | 0,_=>by simp[oo,elems]
 | k+1,h=>by
  have hm:X[k]?=some (X[k]'ad):=List.getElem?_eq_getElem _;rw[i6 hm,bo hm,hk,Gd,List.length_replicate,Int.natCast_add,gV X k ad,bF.qp]
theorem eY(X:List bF):((own X).length:Int)=elems X:=by
 rw[own,gV X _ (Gb _),List.take_length]
theorem dy(h:oQ X):(own X).length≤4096:=by
 have:=eY X;have:=h.bound;omega
theorem lq(X:List bF)(k:Nat):∀d,k+d≤X.length→∃s,hH X (k+d)=hH X k++s
 | 0,_=>⟨[],by simp⟩
 | d+1,h=>by
  obtain⟨s,hs⟩:=lq X k d ad;have hm:X[k+d]?=some (X[k+d]'ad):=List.getElem?_eq_getElem _;exact⟨s++List.replicate (X[k+d]'ad).oi ((k+d:Nat):Int),by rw[show k+(d+1)=(k+d)+1 from rfl,i6 hm,hs,Gq]⟩
theorem Eh(h:X[k]?=some m){e:Nat}(ac:elems (X.take k)≤e)(J:(e:Int)<elems (X.take k)+m.num):(own X)[e]?=some (k:Int):=by
 have ap:k<X.length:=(List.getElem?_eq_some_iff.1 h).1;obtain⟨s,hs⟩:=lq X (k+1) (X.length - (k+1)) ad;rw[own,show X.length=k+1+(X.length - (k+1)) from by omega,hs,i6 h];have hl:=gV X k ad;have hn:=m.qp;rw[Gq,List.getElem?_append_right ad,List.getElem?_append_left (by rw[List.length_replicate];omega),List.getElem?_replicate,if_pos ad]
def bG(X:List bF)(e:Int):Int:=if e<0 then -1 else ((own X)[e.toNat]?).getD (-1)
theorem jG(h:e<0):bG X e = -1:=if_pos h
theorem jF(h:X[k]?=some m)(h0:0≤e)(ac:elems (X.take k)≤e)(J:e<elems (X.take k)+m.num):bG X e=k:=by
 unfold bG;rw[if_neg ad,Eh h (e:=e.toNat) ad ad];rfl
theorem jH(h:elems X≤e):bG X e = -1:=by
 unfold bG;split
 ·rfl
 ·rw[List.getElem?_eq_none (aB (eY X))];rfl
theorem oq(X:List bF):∀(k:Nat),k≤X.length→∀e:Int,0≤e→e<elems (X.take k)→∃i m,i<k∧X[i]?=some m∧elems (X.take i)≤e∧e<elems (X.take i)+m.num
 | 0,_,e,h0,h=>by simp[elems] at h;omega
 | k+1,ap,e,h0,h=>by
  have hm:X[k]?=some (X[k]'ad):=List.getElem?_eq_getElem _;by_cases ao:e<elems (X.take k)
  ·obtain⟨i,m,aJ,hx,ac,J⟩:=oq X k ad e h0 ao;exact⟨i,m,ad,hx,ac,J⟩
  ·refine⟨k,_,ad,hm,ad,?_⟩;rw[bo hm,hk] at h;exact h
theorem lk(h:0≤bG X e):∃i m,bG X e=(i:Nat)∧X[i]?=some m∧0≤e∧elems (X.take i)≤e∧e<elems (X.take i)+m.num:=by
 have h0:0≤e:=by
  rcases Int.lt_or_le e 0 with F|F
  ·rw[jG F] at h;omega
  ·exact F
 have ao:e<elems X:=by
  rcases Int.lt_or_le e (elems X) with F|F
  ·exact F
  ·rw[jH F] at h;omega
 obtain⟨i,m,_,hm,ac,J⟩:=oq X X.length (Gb _) e h0 (by rwa [List.take_length]);exact⟨i,m,jF hm h0 ac J,hm,h0,ac,J⟩
theorem kJ(h0:0≤e)(h:e<elems X):0≤bG X e:=by
 obtain⟨i,m,_,hm,ac,J⟩:=oq X X.length (Gb _) e h0 (by rwa [List.take_length]);rw[jF hm h0 ac J];omega
theorem e7:0≤bG X e↔0≤e∧e<elems X:=by
 constructor
 ·intro h;refine⟨?_,?_⟩
  ·rcases Int.lt_or_le e 0 with F|F
   ·rw[jG F] at h;omega
   ·exact F
  ·rcases Int.lt_or_le e (elems X) with F|F
   ·exact F
   ·rw[jH F] at h;omega
 ·exact fun h=>kJ h.1 h.2
def fP(X:List bF)(m:Int):Int:=if m<0∨(X.length:Int)≤m then -1 else elems (X.take m.toNat)
theorem nI{m:Int}(h:m<0∨(X.length:Int)≤m):fP X m = -1:=if_pos h
theorem o8(h:k<X.length):fP X k=elems (X.take k):=by
 unfold fP;rw[if_neg ad];rfl
section
attribute [local go_sem ↓] fv fw
theorem jc(b:Bool)(w:World):Calls prog 157 #[.bool b] w fun e ab=>e=.returned (.int .i64 (gj b))∧w=ab:=by
 cases b<;>(go_enter func157,ntmps157;go_wp2;go_ret;exact⟨rfl,rfl⟩)
theorem mj(A:GR)(n c:Nat)(l:List Int)(k:Int)(w:World)(h:cG (EF dB) 1 w w.heap.size A n l)(h0:0≤k)(ac:k<n) :
  Calls prog 156 #[.slice A n c,.int .i64 k] w fun e ab=>e=.returned (.int .i64 (l.getD k.toNat 0))∧w=ab:=by
 obtain⟨j,rfl⟩:=Gg h0;obtain⟨b,o,x,rfl,O,hx,hc⟩:=h.int (show j<n by omega);have ba:j<n:=ad;have aU:=ae (show l.getD (j:Int).toNat 0=x by rw[Gy,List.getD_eq_getElem?_getD,hx];rfl);clear hx h;go_enter func156,ntmps156;go_wp2;go_ret;exact⟨ret_int (by rw[aU.o]),rfl⟩
def jn(w:World)(r:Int×Int)(e:Ending)(ab:World):Prop:=e=.returned (.tuple #[.int .i64 r.1,.int .i64 r.2])∧Below w.heap.size w ab
theorem jn.mk'{r:Int×Int}{a b:Int}(aX:r=(a,b))(O:Below w.heap.size w ab):jn w r (.returned (.tuple #[.int .i64 a,.int .i64 b])) ab:=by
 subst aX;exact⟨rfl,O⟩
theorem nE(op a b:Int)(h:5≤op∧op≤15)(w:World) :
  Calls prog 158 #[.int .i64 op,.int .i64 a,.int .i64 b] w (jn w (arith op a b)):=by
 by_cases hdiv:(op=6∨op=7)∧b=0
 ·obtain⟨ct,rfl⟩:=hdiv;rcases ct with rfl|rfl
  all_goals
   go_enter func158,ntmps158;go_wp2
   go_ret2
   exact jn.mk' rfl (Below.refl _ _)
 ·obtain rfl|rfl|rfl|rfl|rfl|rfl|rfl|rfl|rfl|rfl|rfl:op=5∨op=6∨op=7∨op=8∨op=9∨op=10∨op=11∨op=12∨op=13∨op=14∨op=15:=ad
  case inr.inl=>
   have O:b≠0:=fun aj=>hdiv ⟨.inl rfl,aj⟩;have b5:(b == 0)=false:=by simpa using O
   have HA:=ae (show arith 6 a b=(wrap64 (a.tdiv b),0) by unfold arith;simp[O]);clear hdiv h;go_enter func158,ntmps158;go_wp2
   go_ret2
   exact jn.mk' HA.o (Below.refl _ _)
  case inr.inr.inl=>
   have O:b≠0:=fun aj=>hdiv ⟨.inr rfl,aj⟩;have b5:(b == 0)=false:=by simpa using O
   have HA:=ae (show arith 7 a b=(a.tmod b,0) by unfold arith;simp[O]);clear hdiv h;go_enter func158,ntmps158;go_wp2
   go_ret2
   exact jn.mk' HA.o (Below.refl _ _)
  all_goals
   clear hdiv h;go_enter func158,ntmps158;go_wp2_with ((go_at_call 157;refine(jc _ _).mono ?_;rintro e ab ⟨rfl,rfl⟩))
   go_ret2
   exact jn.mk' rfl (Below.refl _ _)
end
section
attribute [local go_sem ↓] fv fw
structure kU(w:World)(G L:GR)(ng nl:Nat)(g l:List Int)(e:VE)(cs:List Value):Prop where
 gs:cG (EF dB) 1 w w.heap.size G ng g
 ls:cG (EF dB) 1 w w.heap.size L nl l
 ok:e.ok ng nl
 rep:e.at_ w cs
theorem kU.on{G L:GR}{ng nl:Nat}{g l:List Int}{e:VE}(h:kU w G L ng nl g l e cs)(O:Below w.heap.size w ab):kU ab G L ng nl g l e cs:=
 ⟨h.gs.cZ O O.size,h.ls.cZ O O.size,h.ok,VE.EV h.rep O⟩
def iu(e:VE):Prop:=∀(w:World) (G L:GR) (ng nl cg cl:Nat) (g l:List Int) (c0 c1 c2 c3:Value),kU w G L ng nl g l e [c0,c1,c2,c3]→
 Calls prog 121 #[.agg #[.slice G ng cg,.slice L nl cl],.agg #[c0,c1,c2,c3]] w (jn w (ev g l e))
def iR(e:VE):Prop:=∀(w:World) (G L:GR) (ng nl cg cl:Nat) (g l:List Int) (c0 c1 c2 c3:Value),kU w G L ng nl g l e [c0,c1,c2,c3]→
 Calls prog 143 #[.agg #[.slice G ng cg,.slice L nl cl],.agg #[c0,c1,c2,c3]] w (jn w (ev g l e))
def nn(e:VE):Prop:=∀(w:World) (G L:GR) (ng nl cg cl:Nat) (g l:List Int) (c0 c1 c2 c3:Value),kU w G L ng nl g l e [c0,c1,c2,c3]→
 Calls prog 144 #[.agg #[.slice G ng cg,.slice L nl cl],.agg #[c0,c1,c2,c3]] w (jn w (ev g l e))
theorem kv(a b:Obj):Below w.heap.size w ((w.alloc a).alloc b):=((Below.refl _ _).alloc (Gb _) _).alloc (by simp) _
theorem tC(n:Int):iR (.num n):=by
 intro w G L ng nl cg cl g l c0 c1 c2 c3 h;obtain⟨nm,A,c,T⟩:=h.rep;injection T with h0 T;injection T with ac T;injection T with J T;injection T with aS T;subst h0 ac J aS;clear h T;go_enter func143,ntmps143;go_wp2
 go_ret2
 exact jn.mk' rfl (kv _ _)
namespace yj
theorem xJ(h:p:=by
 have t:=ae bK;clear aA e0 e1 e2 e3 bK;have ao:∀V:World,Below W.heap.size W V→V.cell? ⟨w.heap.size,0,none⟩=some (.slice G ng cg)∧V.cell? ⟨w.heap.size,1,none⟩=some (.slice L nl cl)∧V.cell? ⟨w.heap.size+1,0,none⟩=some (.int .i64 op)∧V.cell? ⟨w.heap.size+1,3,none⟩=some (.slice (some ⟨b,o,none⟩) 1 c)∧
   V.cell? ⟨b,o,none⟩=some bD∧V.cell? ⟨b,o+1,none⟩=some Z∧V.cell? ⟨b,o+2,none⟩=some ay∧V.cell? ⟨b,o+3,none⟩=some E:=fun V hV=>by
  have bN:=t.o;have U:b<W.heap.size:=by have:=O;omega
  exact⟨(hV.cell (p:=⟨w.heap.size,0,none⟩) (by simp only[];omega)).trans a0,(hV.cell (p:=⟨w.heap.size,1,none⟩) (by simp only[];omega)).trans j,(hV.cell (p:=⟨w.heap.size+1,0,none⟩) (by simp only[];omega)).trans a7,(hV.cell (p:=⟨w.heap.size+1,3,none⟩) (by simp only[];omega)).trans i,
   (hV.cell (p:=⟨b,o,none⟩) U).trans a6,(hV.cell (p:=⟨b,o+1,none⟩) U).trans ca,(hV.cell (p:=⟨b,o+2,none⟩) U).trans aP,(hV.cell (p:=⟨b,o+3,none⟩) U).trans cx⟩
 have cI:=ae ao;clear ao a0 j a7 i a6 ca aP cx;go_region_held3 (fun V=>V.cell? ⟨w.heap.size,0,none⟩=some (.slice G ng cg)∧V.cell? ⟨w.heap.size,1,none⟩=some (.slice L nl cl)∧V.cell? ⟨w.heap.size+1,0,none⟩=some (.int .i64 op)∧V.cell? ⟨w.heap.size+1,3,none⟩=some (.slice (some ⟨b,o,none⟩) 1 c)∧
   V.cell? ⟨b,o,none⟩=some bD∧V.cell? ⟨b,o+1,none⟩=some Z∧V.cell? ⟨b,o+2,none⟩=some ay∧V.cell? ⟨b,o+3,none⟩=some E)
  (first|exact cI.o _ (Below.refl _ _)|exact cI.o _ (Below.refl _ _).drew|exact cI.o _ bt)
  (first|(go_at_call 121;refine(cW.o _ G L ng nl cg cl g l bD Z ay E ?_).mono ?_;(exact bg.on (Below.refl _ _).drew);rintro r ab ⟨rfl,d⟩;have bt:Below W.heap.size W ab:=(Below.refl W.heap.size W).drew.trans d;clear d))
 have aw:=(a.trans (bt.mono a.size))
 have bh:=ae (show ev g l (.un op x)=if (ev g l x).2≠0 then (0,(ev g l x).2) else if op=3 then (wrap64 (-(ev g l x).1),0) else (gj ((ev g l x).1 == 0),0) from rfl);generalize ev g l x=fg at *;obtain⟨v1,aF⟩:=fg;clear cI cW bg;by_cases N:aF=0
 case neg=>
  have co:(aF != 0)=true:=by simpa using N
  have aW:=ae (show ev g l (.un op x)=(0,aF) by rw[bh.o];simp[N]);clear N;go_wp2
  go_ret2
  exact jn.mk' aW.o aw
 have co:(aF != 0)=false:=by simpa using N
 rcases cO.o with aS|bo
 ·have aW:=ae (show ev g l (.un op x)=(wrap64 (-v1),0) by rw[bh.o];simp[N,aS]);subst aS;clear N;go_wp2
  go_ret2
  exact jn.mk' aW.o aw
 ·have aW:=ae (show ev g l (.un op x)=(gj (v1 == 0),0) by rw[bh.o];simp[N,bo]);subst bo;clear N;go_wp2_with ((go_at_call 157;refine(jc _ _).mono ?_;rintro e ab ⟨rfl,rfl⟩))
  go_ret2
  exact jn.mk' aW.o aw
 ):p:=h
end yj
open yj in
theorem vL(op:Int)(x:VE)(dw:iu x):iR (.un op x):=by
 intro w G L ng nl cg cl g l c0 c1 c2 c3 h;obtain⟨n,nm,b,o,c,bD,Z,ay,E,T,O,hx,e0,e1,e2,e3⟩:=h.rep;injection T with h0 T;injection T with ac T;injection T with J T;injection T with aS T;subst h0 ac J aS;clear T;have ct:=h.ok.1;have aA:kU w G L ng nl g l x [bD,Z,ay,E]:=⟨h.gs,h.ls,h.ok.2,hx⟩
 have cW:=ae dw;have cO:=ae ct;clear h hx dw;have b4:(op == 1)=false:=by simp;omega
 have g2:(op == 18)=false:=by simp;omega
 have cD:(op == 19)=false:=by simp;omega
 clear ct;go_enter func143,ntmps143;go_wp2;have a:=kv (w:=w) (.cells #[.slice G ng cg,.slice L nl cl] 205) (.cells #[.int .i64 op,.int .i64 n,.string nm,.slice (some ⟨b,o,none⟩) 1 c] 55);have a0:((w.alloc (.cells #[.slice G ng cg,.slice L nl cl] 205)).alloc (.cells #[.int .i64 op,.int .i64 n,.string nm,.slice (some ⟨b,o,none⟩) 1 c] 55)).cell? ⟨w.heap.size,0,none⟩=some (.slice G ng cg):=by simp[go_sem]
 have j:((w.alloc (.cells #[.slice G ng cg,.slice L nl cl] 205)).alloc (.cells #[.int .i64 op,.int .i64 n,.string nm,.slice (some ⟨b,o,none⟩) 1 c] 55)).cell? ⟨w.heap.size,1,none⟩=some (.slice L nl cl):=by simp[go_sem]
 have a7:((w.alloc (.cells #[.slice G ng cg,.slice L nl cl] 205)).alloc (.cells #[.int .i64 op,.int .i64 n,.string nm,.slice (some ⟨b,o,none⟩) 1 c] 55)).cell? ⟨w.heap.size+1,0,none⟩=some (.int .i64 op):=by simp[go_sem]
 have i:((w.alloc (.cells #[.slice G ng cg,.slice L nl cl] 205)).alloc (.cells #[.int .i64 op,.int .i64 n,.string nm,.slice (some ⟨b,o,none⟩) 1 c] 55)).cell? ⟨w.heap.size+1,3,none⟩=some (.slice (some ⟨b,o,none⟩) 1 c):=by simp[go_sem]
 have bK:((w.alloc (.cells #[.slice G ng cg,.slice L nl cl] 205)).alloc (.cells #[.int .i64 op,.int .i64 n,.string nm,.slice (some ⟨b,o,none⟩) 1 c] 55)).heap.size=w.heap.size+2:=by simp
 generalize (w.alloc (.cells #[.slice G ng cg,.slice L nl cl] 205)).alloc (.cells #[.int .i64 op,.int .i64 n,.string nm,.slice (some ⟨b,o,none⟩) 1 c] 55)=W at *;have bg:=aA.on a;exact xI
theorem oF(e:VE)(k:Int)(he:e=.loc k∨e=.hR k):iR e:=by
 intro w G L ng nl cg cl g l c0 c1 c2 c3 h;have a:=kv (w:=w) (.cells #[.slice G ng cg,.slice L nl cl] 205) (.cells #[c0,c1,c2,c3] 55);have bZ:=h.gs.cZ a a.size;have ck:=h.ls.cZ a a.size;clear a;have ch:=h.ok;rcases he with rfl|rfl
 all_goals
  obtain⟨nm,A,c,T⟩:=h.rep;injection T with h0 T;injection T with ac T;injection T with J T;injection T with aS T;subst h0 ac J aS;clear h T;obtain⟨aG,bF⟩:=ch;go_enter func143,ntmps143;go_wp2_with (fail)
  first
  | refine(mj L nl cl l k _ ck aG bF).mono ?_
  | refine(mj G ng cg g k _ bZ aG bF).mono ?_
  rintro e ab ⟨rfl,rfl⟩;go_wp2
  go_ret2
  exact jn.mk' rfl (kv _ _)
namespace yk
theorem xJ(h:p:=by
 have dd:=(a.cell (p:=⟨b,o+4,none⟩) O).trans ch;have de:=(a.cell (p:=⟨b,o+5,none⟩) O).trans bT;have dm:=(a.cell (p:=⟨b,o+6,none⟩) O).trans a4;have dn:=(a.cell (p:=⟨b,o+7,none⟩) O).trans k;have t:=ae bK;clear aA m e0 e1 e2 e3 ch bT a4 k bK;have ao:∀V:World,Below W.heap.size W V→V.cell? ⟨w.heap.size,0,none⟩=some (.slice G ng cg)∧V.cell? ⟨w.heap.size,1,none⟩=some (.slice L nl cl)∧V.cell? ⟨w.heap.size+1,0,none⟩=some (.int .i64 op)∧V.cell? ⟨w.heap.size+1,3,none⟩=some (.slice (some ⟨b,o,none⟩) 2 c)∧V.cell? ⟨b,o,none⟩=some bD∧V.cell? ⟨b,o+1,none⟩=some Z∧V.cell? ⟨b,o+2,none⟩=some ay∧V.cell? ⟨b,o+3,none⟩=some E∧V.cell? ⟨b,o+4,none⟩=some b8∧V.cell? ⟨b,o+5,none⟩=some b2∧V.cell? ⟨b,o+6,none⟩=some bu∧V.cell? ⟨b,o+7,none⟩=some bA:=fun V hV=>by
  have bN:=t.o;have U:b<W.heap.size:=by have:=O;omega
  exact⟨(hV.cell (p:=⟨w.heap.size,0,none⟩) (by simp only[];omega)).trans a0,(hV.cell (p:=⟨w.heap.size,1,none⟩) (by simp only[];omega)).trans j,(hV.cell (p:=⟨w.heap.size+1,0,none⟩) (by simp only[];omega)).trans a7,(hV.cell (p:=⟨w.heap.size+1,3,none⟩) (by simp only[];omega)).trans i,(hV.cell (p:=⟨b,o,none⟩) U).trans a6,(hV.cell (p:=⟨b,o+1,none⟩) U).trans ca,(hV.cell (p:=⟨b,o+2,none⟩) U).trans aP,(hV.cell (p:=⟨b,o+3,none⟩) U).trans cx,(hV.cell (p:=⟨b,o+4,none⟩) U).trans dd,(hV.cell (p:=⟨b,o+5,none⟩) U).trans de,(hV.cell (p:=⟨b,o+6,none⟩) U).trans dm,(hV.cell (p:=⟨b,o+7,none⟩) U).trans dn⟩
 have cI:=ae ao;clear ao a0 j a7 i a6 ca aP cx dd de dm dn;go_region_held3 (fun V=>V.cell? ⟨w.heap.size,0,none⟩=some (.slice G ng cg)∧V.cell? ⟨w.heap.size,1,none⟩=some (.slice L nl cl)∧V.cell? ⟨w.heap.size+1,0,none⟩=some (.int .i64 op)∧V.cell? ⟨w.heap.size+1,3,none⟩=some (.slice (some ⟨b,o,none⟩) 2 c)∧V.cell? ⟨b,o,none⟩=some bD∧V.cell? ⟨b,o+1,none⟩=some Z∧V.cell? ⟨b,o+2,none⟩=some ay∧V.cell? ⟨b,o+3,none⟩=some E∧V.cell? ⟨b,o+4,none⟩=some b8∧V.cell? ⟨b,o+5,none⟩=some b2∧V.cell? ⟨b,o+6,none⟩=some bu∧V.cell? ⟨b,o+7,none⟩=some bA)
  (first|exact cI.o _ (Below.refl _ _)|exact cI.o _ (Below.refl _ _).drew|exact cI.o _ bt|exact cI.o _ bt|exact cI.o _ bt.drew)
  (first|(go_at_call 121;refine(cW.o _ G L ng nl cg cl g l bD Z ay E ?_).mono ?_;(exact bg.on (Below.refl _ _).drew);rintro r aQ ⟨rfl,d⟩;have bt:Below W.heap.size W aQ:=(Below.refl W.heap.size W).drew.trans (d.mono (Gb _));clear d))
 have aw:=(a.trans (bt.mono a.size))
 have bh:=ae (show ev g l (.bin op x y)=if (ev g l x).2≠0 then (0,(ev g l x).2) else if op=16∧(ev g l x).1=0 then (0,0) else if op=17∧(ev g l x).1≠0 then (1,0) else if (ev g l y).2≠0 then (0,(ev g l y).2) else if op=16∨op=17 then (gj ((ev g l y).1 != 0),0) else arith op (ev g l x).1 (ev g l y).1 from rfl);generalize ev g l x=fg at *;obtain⟨v1,aF⟩:=fg;clear cW bg;by_cases N:aF=0
 case neg=>
  have co:(aF != 0)=true:=by simpa using N
  have aW:=ae (show ev g l (.bin op x y)=(0,aF) by rw[bh.o];simp[N]);clear N;go_wp2
  go_ret2
  exact jn.mk' aW.o aw
 have co:(aF != 0)=false:=by simpa using N
 have aa:=ae N;clear N;by_cases aV:op=16∧v1=0
 ·obtain⟨rfl,rfl⟩:=aV;have aW:=ae (show ev g l (.bin 16 x y)=(0,0) by rw[bh.o];simp[aa.o]);go_wp2
  go_ret2
  exact jn.mk' aW.o aw
 by_cases bi:op=17∧v1≠0
 ·obtain⟨rfl,bC⟩:=bi;have ej:(v1 != 0)=true:=by simpa using bC
  have aW:=ae (show ev g l (.bin 17 x y)=(1,0) by rw[bh.o];simp[aa.o,bC]);clear bC;go_wp2
  go_ret2
  exact jn.mk' aW.o aw
 have b6:=ae (show ev g l (.bin op x y)=if (ev g l y).2≠0 then (0,(ev g l y).2) else if op=16∨op=17 then (gj ((ev g l y).1 != 0),0) else arith op v1 (ev g l y).1 by rw[bh.o];simp only[aa.o,ne_eq,not_true_eq_false,if_false];rw[if_neg aV,if_neg bi]);have HA:=ae aV;have cO:=ae bi;clear bh;have split:(op == 16)=true∧(v1 == 0)=false∧(op == 17)=false∨(op == 16)=false∧(op == 17)=true∧(v1 != 0)=false∨(op == 16)=false∧(op == 17)=false:=by
  by_cases ac:op=16
  ·refine .inl ⟨by simpa using ac,?_,by simp;omega⟩;have:v1≠0:=fun aj=>aV ⟨ac,aj⟩;simpa using this
  ·by_cases J:op=17
   ·refine .inr (.inl ⟨by simpa using ac,by simpa using J,?_⟩);by_cases bC:v1=0
    ·simpa using bC
    ·exact absurd ⟨J,bC⟩ bi
   ·exact .inr (.inr ⟨by simpa using ac,by simpa using J⟩)
 clear aV bi;have a8:=ae split;clear split;rcases a8.o with⟨cc,aR,ds⟩|⟨cc,aR,ds⟩|⟨cc,aR⟩
 all_goals
  go_wp2;go_region_held3 (fun V=>V.cell? ⟨w.heap.size,0,none⟩=some (.slice G ng cg)∧V.cell? ⟨w.heap.size,1,none⟩=some (.slice L nl cl)∧V.cell? ⟨w.heap.size+1,0,none⟩=some (.int .i64 op)∧V.cell? ⟨w.heap.size+1,3,none⟩=some (.slice (some ⟨b,o,none⟩) 2 c)∧V.cell? ⟨b,o,none⟩=some bD∧V.cell? ⟨b,o+1,none⟩=some Z∧V.cell? ⟨b,o+2,none⟩=some ay∧V.cell? ⟨b,o+3,none⟩=some E∧V.cell? ⟨b,o+4,none⟩=some b8∧V.cell? ⟨b,o+5,none⟩=some b2∧V.cell? ⟨b,o+6,none⟩=some bu∧V.cell? ⟨b,o+7,none⟩=some bA)
   (first|exact cI.o _ (Below.refl _ _)|exact cI.o _ (Below.refl _ _).drew|exact cI.o _ bz|exact cI.o _ bt|exact cI.o _ bt.drew)
   (first|(go_at_call 121;refine(f.o _ G L ng nl cg cl g l b8 b2 bu bA ?_).mono ?_;(exact(bU.on bt).on (Below.refl _ _).drew);rintro r bJ ⟨rfl,d⟩;have bz:Below W.heap.size W bJ:=bt.drew.trans (d.mono bt.size);clear d))
  have aw:=(a.trans (bz.mono a.size))
  generalize ev g l y=gN at *;obtain⟨v2,eL⟩:=gN;by_cases aq:eL=0
  case neg=>
   have cT:(eL != 0)=true:=by simpa using aq
   have cu:=ae (show ev g l (.bin op x y)=(0,eL) by rw[b6.o];simp[aq]);clear aq;go_wp2
   go_ret2
   exact jn.mk' cu.o aw
  have cT:(eL != 0)=false:=by simpa using aq
  have cu:=ae (show ev g l (.bin op x y)=if op=16∨op=17 then (gj (v2 != 0),0) else arith op v1 v2 by rw[b6.o];simp[aq]);clear aq b6
  first
  | (have X:=ae (show ev g l (.bin op x y)=(gj (v2 != 0),0) by rw[cu.o,if_pos (by first|exact .inl (by simpa using cc)|exact .inr (by simpa using aR))]);go_wp2_with ((go_at_call 157;refine(jc _ _).mono ?_;rintro e ab ⟨rfl,rfl⟩));go_ret2;exact jn.mk' X.o aw)
  | (have a2:op≠16∧op≠17:=⟨by simpa using cc,by simpa using aR⟩;have X:=ae (show ev g l (.bin op x y)=arith op v1 v2 by rw[cu.o,if_neg ad]);go_wp2_with (fail);refine(nE op v1 v2 ad _).mono ?_;rintro e cy ⟨rfl,u⟩;go_wp2;go_ret2;exact jn.mk' (by rw[X.o]) (aw.trans (u.mono aw.size)))
 ):p:=h
end yk
open yk in
theorem sQ(op:Int)(x y:VE)(q:iu x)(s:iu y):nn (.bin op x y):=by
 intro w G L ng nl cg cl g l c0 c1 c2 c3 h;obtain⟨n,nm,b,o,c,bD,Z,ay,E,b8,b2,bu,bA,T,O,hx,a3,e0,e1,e2,e3,ch,bT,a4,k⟩:=h.rep;injection T with h0 T;injection T with ac T;injection T with J T;injection T with aS T;subst h0 ac J aS;clear T;have ct:=h.ok.1;have aA:kU w G L ng nl g l x [bD,Z,ay,E]:=⟨h.gs,h.ls,h.ok.2.1,hx⟩
 have m:kU w G L ng nl g l y [b8,b2,bu,bA]:=⟨h.gs,h.ls,h.ok.2.2,a3⟩
 have cW:=ae q;have f:=ae s;clear h hx a3 q s;go_enter func144,ntmps144;go_wp2;have a:=kv (w:=w) (.cells #[.slice G ng cg,.slice L nl cl] 205) (.cells #[.int .i64 op,.int .i64 n,.string nm,.slice (some ⟨b,o,none⟩) 2 c] 55);have a0:((w.alloc (.cells #[.slice G ng cg,.slice L nl cl] 205)).alloc (.cells #[.int .i64 op,.int .i64 n,.string nm,.slice (some ⟨b,o,none⟩) 2 c] 55)).cell? ⟨w.heap.size,0,none⟩=some (.slice G ng cg):=by simp[go_sem]
 have j:((w.alloc (.cells #[.slice G ng cg,.slice L nl cl] 205)).alloc (.cells #[.int .i64 op,.int .i64 n,.string nm,.slice (some ⟨b,o,none⟩) 2 c] 55)).cell? ⟨w.heap.size,1,none⟩=some (.slice L nl cl):=by simp[go_sem]
 have a7:((w.alloc (.cells #[.slice G ng cg,.slice L nl cl] 205)).alloc (.cells #[.int .i64 op,.int .i64 n,.string nm,.slice (some ⟨b,o,none⟩) 2 c] 55)).cell? ⟨w.heap.size+1,0,none⟩=some (.int .i64 op):=by simp[go_sem]
 have i:((w.alloc (.cells #[.slice G ng cg,.slice L nl cl] 205)).alloc (.cells #[.int .i64 op,.int .i64 n,.string nm,.slice (some ⟨b,o,none⟩) 2 c] 55)).cell? ⟨w.heap.size+1,3,none⟩=some (.slice (some ⟨b,o,none⟩) 2 c):=by simp[go_sem]
 have bK:((w.alloc (.cells #[.slice G ng cg,.slice L nl cl] 205)).alloc (.cells #[.int .i64 op,.int .i64 n,.string nm,.slice (some ⟨b,o,none⟩) 2 c] 55)).heap.size=w.heap.size+2:=by simp
 generalize (w.alloc (.cells #[.slice G ng cg,.slice L nl cl] 205)).alloc (.cells #[.int .i64 op,.int .i64 n,.string nm,.slice (some ⟨b,o,none⟩) 2 c] 55)=W at *;have bg:=aA.on a;have bU:=m.on a;exact xI
theorem k8(e:VE)(S:iR e)(hl:∀w cs,e.at_ w cs→∃op n nm A k c,cs=[.int .i64 op,.int .i64 n,.string nm,.slice A k c]∧k≤1):iu e:=by
 intro w G L ng nl cg cl g l c0 c1 c2 c3 h;obtain⟨op,n,nm,A,k,c,T,ap⟩:=hl _ _ h.rep;injection T with h0 T;injection T with ac T;injection T with J T;injection T with aS T;subst h0 ac J aS;clear T;have a8:=ae S;clear S hl;have q:((k:Int) == 2)=false:=by simp;omega
 have o:(k == 2)=false:=by simp;omega
 clear ap;go_enter func121,ntmps121;go_wp2_with (fail);have a:=kv (w:=w) (.cells #[.slice G ng cg,.slice L nl cl] 205) (.cells #[.int .i64 op,.int .i64 n,.string nm,.slice A k c] 55);have aA:=h.on a;clear h;refine(a8.o _ G L ng nl cg cl g l _ _ _ _ aA).mono ?_;rintro r ab ⟨rfl,O⟩;go_wp2
 go_ret2
 exact jn.mk' rfl (a.trans (O.mono a.size))
theorem Aq(op:Int)(x y:VE)(S:nn (.bin op x y)):iu (.bin op x y):=by
 intro w G L ng nl cg cl g l c0 c1 c2 c3 h;obtain⟨n,nm,b,o,c,bD,Z,ay,E,b8,b2,bu,bA,T,_⟩:=h.rep;injection T with h0 T;injection T with ac T;injection T with J T;injection T with aS T;subst h0 ac J aS;clear T;have a8:=ae S;clear S;go_enter func121,ntmps121;go_wp2_with (fail);have a:=kv (w:=w) (.cells #[.slice G ng cg,.slice L nl cl] 205) (.cells #[.int .i64 op,.int .i64 n,.string nm,.slice (some ⟨b,o,none⟩) 2 c] 55);have aA:=h.on a;clear h;refine(a8.o _ G L ng nl cg cl g l _ _ _ _ aA).mono ?_;rintro r ab ⟨rfl,O⟩;go_wp2
 go_ret2
 exact jn.mk' rfl (a.trans (O.mono a.size))
theorem m2:∀e:VE,iu e
 | .num n=>k8 _ (tC n) (fun w cs h=>by obtain⟨nm,A,c,rfl⟩:=h;exact⟨_,_,_,_,_,_,rfl,ad⟩)
 | .ga s=>fun w G L ng nl cg cl g l c0 c1 c2 c3 h=>h.ok.elim
 | .loc k=>k8 _ (oF _ k (.inl rfl)) (fun w cs h=>by obtain⟨nm,A,c,rfl⟩:=h;exact⟨_,_,_,_,_,_,rfl,ad⟩)
 | .hR k=>k8 _ (oF _ k (.inr rfl)) (fun w cs h=>by obtain⟨nm,A,c,rfl⟩:=h;exact⟨_,_,_,_,_,_,rfl,ad⟩)
 | .un op x=>k8 _ (vL op x (m2 x)) (fun w cs h=>by obtain⟨n,nm,b,o,c,bD,Z,ay,E,rfl,_⟩:=h;exact⟨_,_,_,_,_,_,rfl,ad⟩)
 | .bin op x y=>Aq op x y (sQ op x y (m2 x) (m2 y))
theorem nr(e:VE)(w:World)(G L:GR)(ng nl cg cl:Nat)(g l:List Int)(c0 c1 c2 c3:Value)(h:kU w G L ng nl g l e [c0,c1,c2,c3]) :
  Calls prog 94 #[.agg #[c0,c1,c2,c3],.slice G ng cg,.slice L nl cl] w (jn w (ev g l e)):=by
 have bh:=ae (m2 e);go_enter func94,ntmps94;go_wp2_with (fail);have a:=(Below.refl w.heap.size w).alloc (Gb _) (.cells #[c0,c1,c2,c3] 55);have aA:=h.on a;clear h;refine(bh.o _ G L ng nl cg cl g l _ _ _ _ aA).mono ?_;rintro r ab ⟨rfl,O⟩;go_wp2
 go_ret2
 exact jn.mk' rfl (a.trans (O.mono a.size))
end
def ED(w:World)(x:VE)(e:Ending)(ab:World):Prop:=∃c0 c1 c2 c3,e=.returned (.agg #[c0,c1,c2,c3])∧x.rep ab (fun b=>w.heap.size≤b∧b<ab.heap.size) [c0,c1,c2,c3]∧Below w.heap.size w ab
variable{x:VE}
theorem ED.mk'{y:VE}{c0 c1 c2 c3:Value}(hx:x=y)(h:y.rep ab (fun b=>w.heap.size≤b∧b<ab.heap.size) [c0,c1,c2,c3])(O:Below w.heap.size w ab):ED w x (.returned (.agg #[c0,c1,c2,c3])) ab:=by
 subst hx;exact⟨_,_,_,_,rfl,h,O⟩
def Ef(n:Int):VE:=if 0≤n then .num n else .bin 9 (.un 3 (.num (wrap64 (-(wrap64 (n+1)))))) (.num 1)
theorem kU.new(h:x.rep ab (fun b=>B≤b∧b<ab.heap.size) cs)(ch:x.ok 0 0):kU ab none none 0 0 [] [] x cs:=
 ⟨cG.bu _,cG.bu _,ch,VE.aP (fun _ h=>h.2) _ _ h⟩
section
attribute [local go_sem ↓] fv fw
def within(x n:Int):Int:=x % n
theorem vS{x:Int}(h:0<n):(x.tmod n+n).tmod n=within x n:=by
 unfold within;have ac:=Int.emod_nonneg x (show n≠0 by omega);have J:=Int.emod_lt_of_pos x h;have key:∀y:Int,0≤y→y.tmod n=y % n:=fun y a3=>Int.tmod_eq_emod_of_nonneg a3;rcases Int.lt_or_le x 0 with hx|hx
 ·have e1:x.tmod n = -((-x) % n):=by
   have:=key (-x) ad;rw[Int.neg_tmod] at this;omega
  have aS:=Int.emod_nonneg (-x) (show n≠0 by omega);have bo:=Int.emod_lt_of_pos (-x) h;rw[e1,key _ ad];rw[Int.add_emod_right];have cr:(-((-x) % n)) % n=x % n:=by
   have aY:-((-x) % n)=x+n*((-x) / n):=by
    have:=Int.emod_add_mul_ediv (-x) n;omega
   rw[aY,Int.add_mul_emod_self_left]
  exact cr
 ·rw[key x hx,key _ ad,Int.add_emod_right,Int.emod_emod_of_dvd _ (Int.dvd_refl n)]
theorem qK{x:Int}(h:0<n):0≤within x n∧within x n<n:=⟨Int.emod_nonneg x ad,Int.emod_lt_of_pos x h⟩
theorem cG.E6{n:Nat}{l:List bF}(h:cG (EF hi) 3 w B A n l)(ap:k<n):
  ∃b o m,A=some ⟨b,o,none⟩∧b<B∧l[k]?=some m∧w.cell? ⟨b,o+k*3,none⟩=some (.string m.name)∧w.cell? ⟨b,o+k*3+1,none⟩=some (.bool m.re)∧w.cell? ⟨b,o+k*3+2,none⟩=some (.int .i64 m.size):=by
 obtain⟨b,o,m,bb,O,hm,_,hc⟩:=h.EU ap;exact⟨b,o,m,bb,O,hm,hc 0 _ rfl,hc 1 _ rfl,hc 2 _ rfl⟩
theorem cG.hold{n:Nat}{l:List ct}(h:cG (EF bZ) 2 w B A n l)(ap:k<n):
  ∃b o m,A=some ⟨b,o,none⟩∧b<B∧l[k]?=some m∧w.cell? ⟨b,o+k*2,none⟩=some (.int .i64 m.owner)∧w.cell? ⟨b,o+k*2+1,none⟩=some (.int .i64 m.depth):=by
 obtain⟨b,o,m,bb,O,hm,_,hc⟩:=h.EU ap;exact⟨b,o,m,bb,O,hm,hc 0 _ rfl,hc 1 _ rfl⟩
theorem AH(l:List bF):∀x∈l,(hi x).length=3:=fun _ _=>rfl
theorem g4(l:List ct):∀x∈l,(bZ x).length=2:=fun _ _=>rfl
theorem AX(l:List bF):∀x∈l,∀u∈hi x,u.oneCell'=true:=fun x _ u hu=>by
 simp only[hi,Gt,List.not_mem_nil,or_false] at hu;rcases hu with rfl|rfl|rfl<;>rfl
theorem vC(l:List ct):∀x∈l,∀u∈bZ x,u.oneCell'=true:=fun x _ u hu=>by
 simp only[bZ,Gt,List.not_mem_nil,or_false] at hu;rcases hu with rfl|rfl<;>rfl
theorem rA(l:List Int):∀x∈l,∀u∈dB x,u.oneCell'=true:=fun x _ u hu=>by
 simp only[dB,Gt,List.not_mem_nil,or_false] at hu;subst hu;rfl
theorem p1:b0 prog 37 87 (.agg #[.int .i64 0,.int .i64 0]) 2 16:=b0.mk' Tryz.underlying37 (by kernel_rfl) rfl ad
theorem kx:b0 prog 24 133 (.agg #[.string ⟨#[]⟩,.bool false,.int .i64 0]) 3 32:=b0.mk' Tryz.underlying24 (by kernel_rfl) rfl ad
theorem tY(x n:Int)(hn:0<n)(O:n≤4611686018427387904)(w:World) :
  Calls prog 49 #[.int .i64 x,.int .i64 n] w fun e ab=>e=.returned (.int .i64 (within x n))∧w=ab:=by
 have bv:(n == 0)=false:=by simp;omega
 go_enter func49,ntmps49;go_wp2;go_ret;refine⟨ret_int ?_,rfl⟩;have ac:=Int.lt_tmod_of_pos x hn;have J:=Int.tmod_lt_of_pos x hn;rw[←vS hn];congr 1
 unfold RowKit.wrap64;omega
theorem gR(A:GR)(n c:Nat)(X:List bF)(w:World)(h:cG (EF hi) 3 w w.heap.size A n X)(ah:oQ X) :
  Calls prog 41 #[.slice A n c] w fun e ab=>e=.returned (.int .i64 (elems X))∧Below w.heap.size w ab:=by
 have hl:=h.1;have hn:=ah.1;go_enter func41,ntmps41;go_wp2;go_loopw [3,8] (fun s i wr=>∃k:Nat,k≤n∧i=.int .i64 k∧s=.int .i64 (elems (X.take k))∧Below w.heap.size w wr) (fun _ i _=>n - (intOf i).toNat)
 case atStart=>exact⟨0,Gz _,rfl,rfl,Below.refl _ _⟩
 case round=>
  obtain⟨k,ap,rfl,rfl,O⟩:=hrel;by_cases ao:k<n
  ·obtain⟨b,o,m,rfl,U,hm,c0,c1,c2⟩:=(h.d9 O).E6 ao;have N:=ah.mW k;have bQ:=ah.at_ hm;have bN:=O.size;have a8:=ae (show elems (X.take (k+1))=elems (X.take k)+max m.size 1 by rw[bo hm,hk];rfl);clear hm;go_wp2;go_roundw
   case rel=>exact⟨k+1,ad,by go_num,by rw[a8.o],((O.alloc bN _).alloc (by simp;omega) _)⟩
   case measure=>simp[intOf];omega
  ·go_wp2;go_ret;exact⟨ret_int (by first|rfl|rw[Gj ad]),O⟩
theorem z7(A:GR)(n c:Nat)(X:List bF)(m:Int)(w:World)(h:cG (EF hi) 3 w w.heap.size A n X)(ah:oQ X)(aL:n≤c) :
  Calls prog 69 #[.slice A n c,.int .i64 m] w fun e ab=>e=.returned (.int .i64 (fP X m))∧Below w.heap.size w ab:=by
 have hl:=h.1;by_cases hm:m<0
 ·have a4:=ae (show fP X m = -1 from nI (.inl hm));clear h ah hl;go_enter func69,ntmps69;exact sa
 by_cases L:(n:Int)≤m
 ·have a4:=ae (show fP X m = -1 from nI (.inr ad));clear h ah hl;go_enter func69,ntmps69;exact sa
 obtain⟨k,rfl⟩:=Gg (show 0≤m by omega);have a4:=ae (show fP X k=elems (X.take k) from o8 ad);have F:cG (EF hi) 3 w w.heap.size A k (X.take k):=by
  refine⟨by simp;omega,fun ap=>?_⟩;obtain⟨b,o,bb,O,hc⟩:=h.2 ad;refine⟨b,o,bb,O,fun j x hx=>hc j x ?_⟩;rw[List.getElem?_take] at hx;split at hx
  ·exact hx
  ·cases hx
 have ap:k<n:=ad;have a:=ah.take k;clear h ah hl hm L;go_enter func69,ntmps69;go_wp2_with (fail);refine(gR A k k _ w F a).mono ?_;rintro e ab ⟨rfl,O⟩;go_wp2;go_ret;exact⟨ret_int (by rw[a4.o]),O⟩
theorem mA(A:GR)(n c:Nat)(X:List bF)(e:Int)(w:World)(h:cG (EF hi) 3 w w.heap.size A n X)(ah:oQ X)(he:e≤9223372036854775807) :
  Calls prog 82 #[.slice A n c,.int .i64 e] w fun r ab=>r=.returned (.int .i64 (bG X e))∧Below w.heap.size w ab:=by
 have hl:=h.1;have hn:=ah.1;by_cases a:e<0
 ·have a4:=ae (show bG X e = -1 from jG a);clear h ah hl;go_enter func82,ntmps82;exact sa
 go_enter func82,ntmps82;go_wp2;go_loopw [1,11] (fun s i wr=>∃k:Nat,k≤n∧i=.int .i64 k∧s=.int .i64 (e - elems (X.take k))∧elems (X.take k)≤e∧Below w.heap.size w wr) (fun _ i _=>n - (intOf i).toNat)
 case atStart=>exact⟨0,Gz _,rfl,AF (by simp[elems]),by simp[elems];omega,Below.refl _ _⟩
 case round=>
  obtain⟨k,ap,rfl,rfl,hle,O⟩:=hrel;by_cases ao:k<n
  ·obtain⟨b,o,m,rfl,U,hm,c0,c1,c2⟩:=(h.d9 O).E6 ao;have N:=ah.mW k;have bQ:=ah.at_ hm;have bN:=O.size;have a8:=ae (show elems (X.take (k+1))=elems (X.take k)+max m.size 1 by rw[bo hm,hk];rfl);have dr:=ae hm;clear hm;by_cases aA:e - elems (X.take k)<max m.size 1
   ·have aZ:=ae (show bG X e=k from jF dr.o ad hle (by unfold bF.num;omega));go_wp2;go_ret;exact⟨ret_int (by rw[aZ.o]),((O.alloc bN _).alloc (by simp;omega) _)⟩
   ·go_wp2;go_roundw
    case rel=>exact⟨k+1,ad,by go_num,AF (by rw[a8.o];omega),by rw[a8.o];omega,(((O.alloc bN _).alloc (by simp;omega) _).alloc (by simp;omega) _)⟩
    case measure=>simp[intOf];omega
  ·have aZ:=ae (show bG X e = -1 from jH (by rwa [Gj ad] at hle));go_wp2;go_ret;exact⟨ret_int (by rw[aZ.o]),O⟩
end
end Go.Proofs.YtjhgbdckgkppnaaGreat

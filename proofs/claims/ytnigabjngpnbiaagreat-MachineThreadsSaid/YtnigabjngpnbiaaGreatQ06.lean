/- Part 6 of the proof. No condition of its own. -/
import Derived.Test.YtnigabjngpnbiaaGreatQ01
namespace Go.Proofs.YtnigabjngpnbiaaGreat
open Go.RowKit Go.Proofs.Tryz
set_option maxRecDepth 1000000
set_option maxHeartbeats 25600000
set_option linter.unusedVariables false
variable{e:Int}{k:Nat}
inductive VE where
 | num (n:Int)
 | eP (s:ByteArray)
 | loc (k:Int)
 | hP (k:Int)
 | un (op:Int) (x:VE)
 | bin (op:Int) (x y:VE)
def VE.rep(w:World)(P:Nat->Prop):VE->List Value->Prop
 | .num n=>λcs=>∃nm A c,cs=[.int .i64 1,.int .i64 n,.string nm,.slice A 0 c]
 | .eP s=>λcs=>∃n A c,cs=[.int .i64 2,.int .i64 n,.string s,.slice A 0 c]
 | .loc k=>λcs=>∃nm A c,cs=[.int .i64 18,.int .i64 k,.string nm,.slice A 0 c]
 | .hP k=>λcs=>∃nm A c,cs=[.int .i64 19,.int .i64 k,.string nm,.slice A 0 c]
 | .un op x=>λcs=>∃n nm b o c bl Z U F,cs=[.int .i64 op,.int .i64 n,.string nm,.slice (some ⟨b,o,none⟩) 1 c]/\P b/\x.rep w P [bl,Z,U,F]/\
   w.cell? ⟨b,o,none⟩=some bl/\w.cell? ⟨b,o+1,none⟩=some Z/\w.cell? ⟨b,o+2,none⟩=some U/\w.cell? ⟨b,o+3,none⟩=some F
 | .bin op x y=>λcs=>∃n nm b o c bl Z U F cD b5 b3 bA,cs=[.int .i64 op,.int .i64 n,.string nm,.slice (some ⟨b,o,none⟩) 2 c]/\P b/\x.rep w P [bl,Z,U,F]/\y.rep w P [cD,b5,b3,bA]/\
   w.cell? ⟨b,o,none⟩=some bl/\w.cell? ⟨b,o+1,none⟩=some Z/\w.cell? ⟨b,o+2,none⟩=some U/\w.cell? ⟨b,o+3,none⟩=some F/\
   w.cell? ⟨b,o+4,none⟩=some cD/\w.cell? ⟨b,o+5,none⟩=some b5/\w.cell? ⟨b,o+6,none⟩=some b3/\w.cell? ⟨b,o+7,none⟩=some bA
theorem VE.aD{w J:World}{P:Nat->Prop}(aj:∀b,P b->J.heap[b]?=w.heap[b]?):∀(e:VE) (cs:List Value),e.rep w P cs->e.rep J P cs
 | .num _,_,h=>h
 | .eP _,_,h=>h
 | .loc _,_,h=>h
 | .hP _,_,h=>h
 | .un op x,cs,h=>by
  obtain⟨n,nm,b,o,c,bl,Z,U,F,aB,O,hx,c0,c1,c2,c3⟩:=h;have hc:∀j,J.cell? ⟨b,j,none⟩=w.cell? ⟨b,j,none⟩:=λj=>World.cell?_of_block (w:=w) (aj b O)
  exact⟨n,nm,b,o,c,bl,Z,U,F,aB,O,VE.aD aj x _ hx,(hc _).trans c0,(hc _).trans c1,(hc _).trans c2,(hc _).trans c3⟩
 | .bin op x y,cs,h=>by
  obtain⟨n,nm,b,o,c,bl,Z,U,F,cD,b5,b3,bA,aB,O,hx,aa,c0,c1,c2,c3,d0,d1,d2,d3⟩:=h;have hc:∀j,J.cell? ⟨b,j,none⟩=w.cell? ⟨b,j,none⟩:=λj=>World.cell?_of_block (w:=w) (aj b O);exact⟨n,nm,b,o,c,bl,Z,U,F,cD,b5,b3,bA,aB,O,VE.aD aj x _ hx,VE.aD aj y _ aa,(hc _).trans c0,(hc _).trans c1,(hc _).trans c2,(hc _).trans c3,(hc _).trans d0,(hc _).trans d1,(hc _).trans d2,(hc _).trans d3⟩
theorem VE.aA{w:World}{P c5:Nat->Prop}(hp:∀b,P b->c5 b):∀(e:VE) (cs:List Value),e.rep w P cs->e.rep w c5 cs
 | .num _,_,h=>h
 | .eP _,_,h=>h
 | .loc _,_,h=>h
 | .hP _,_,h=>h
 | .un op x,cs,h=>by
  obtain⟨n,nm,b,o,c,bl,Z,U,F,aB,O,hx,hc⟩:=h
  exact⟨n,nm,b,o,c,bl,Z,U,F,aB,hp b O,VE.aA hp x _ hx,hc⟩
 | .bin op x y,cs,h=>by
  obtain⟨n,nm,b,o,c,bl,Z,U,F,cD,b5,b3,bA,aB,O,hx,aa,hc⟩:=h;exact⟨n,nm,b,o,c,bl,Z,U,F,cD,b5,b3,bA,aB,hp b O,VE.aA hp x _ hx,VE.aA hp y _ aa,hc⟩
abbrev VE.at_(w:World)(e:VE)(cs:List Value):Prop:=e.rep w (·<w.heap.size) cs
theorem VE.Hm{w J:World}{e:VE}{cs:List Value}(h:e.at_ w cs)(O:Below w.heap.size w J):e.at_ J cs:=
 VE.aA (λ_ aq=>JJ aq O.size) _ _ (VE.aD (λb aq=>O.block b aq) _ _ h)
def VE.ok(ng nl:Nat):VE->Prop
 | .num _=>True
 | .eP _=>False
 | .loc k=>0<=k/\k<nl
 | .hP k=>0<=k/\k<ng
 | .un op x=>(op=3\/op=4)/\x.ok ng nl
 | .bin op x y=>(5<=op/\op<=17)/\x.ok ng nl/\y.ok ng nl
def eH(b:Bool):Int:=if b then 1 else 0
def arith(op a b:Int):Int×Int:=
 if op=5 then (wrap64 (a*b),0) else if op=8 then (wrap64 (a+b),0) else if op=9 then (wrap64 (a - b),0)
 else if op=6 then (if b=0 then (0,1) else (wrap64 (a.tdiv b),0))
 else if op=7 then (if b=0 then (0,1) else (a.tmod b,0))
 else if op=10 then (eH (decide (a<b)),0) else if op=11 then (eH (decide (a<=b)),0)
 else if op=12 then (eH (decide (b<a)),0) else if op=13 then (eH (decide (b<=a)),0)
 else if op=14 then (eH (a == b),0) else if op=15 then (eH (a != b),0) else (0,0)
def ev(g l:List Int):VE->Int×Int
 | .num n=>(n,0)
 | .eP _=>(0,0)
 | .loc k=>(l.getD k.toNat 0,0)
 | .hP k=>(g.getD k.toNat 0,0)
 | .un op x=>if (ev g l x).2≠0 then (0,(ev g l x).2) else if op=3 then (wrap64 (-(ev g l x).1),0) else (eH ((ev g l x).1 == 0),0)
 | .bin op x y=>
  if (ev g l x).2≠0 then (0,(ev g l x).2)
  else if op=16/\(ev g l x).1=0 then (0,0)
  else if op=17/\(ev g l x).1≠0 then (1,0)
  else if (ev g l y).2≠0 then (0,(ev g l y).2)
  else if op=16\/op=17 then (eH ((ev g l y).1 != 0),0)
  else arith op (ev g l x).1 (ev g l y).1
structure bI where
 name:ByteArray
 re:Bool
 size:Int
structure cp where
 owner:Int
 depth:Int
 deriving DecidableEq
def fO(m:bI):List Value:=[.string m.name,.bool m.re,.int .i64 m.size]
def bA(h:cp):List Value:=[.int .i64 h.owner,.int .i64 h.depth]
def bI.num(m:bI):Int:=max m.size 1
def bI.oH(m:bI):Nat:=(max m.size 1).toNat
theorem bI.nz(m:bI):1<=m.num:=by unfold bI.num;omega
theorem bI.rA(m:bI):(m.oH:Int)=m.num:=by unfold bI.num bI.oH;omega
def l5(X:List bI):Prop:=X.length<=64/\∀m∈X,0<=m.size/\m.size<=64
def elems(X:List bI):Int:=(X.map bI.num).sum
theorem ob(m:bI)(X:List bI):elems (m::X)=m.num+elems X:=by simp[elems]
theorem w5(X Y:List bI):elems (X++Y)=elems X+elems Y:=by simp[elems]
theorem hJ(X:List bI)(m:bI):elems (X++[m])=elems X+m.num:=by simp[elems]
theorem mL:∀(X:List bI),(∀m∈X,0<=m.size/\m.size<=64)->(X.length:Int)<=elems X/\elems X<=64*X.length
 | [],_=>by simp[elems]
 | m::X,h=>by
  have ac:=h m (by simp);have ap:=mL X (λm hm=>h m (by simp[hm]));rw[ob];simp only[JV];have:=m.nz;unfold bI.num at *;omega
theorem l5.take{X:List bI}(h:l5 X)(k:Nat):l5 (X.take k):=
 ⟨by have:=h.1;simp;omega,λm hm=>h.2 m (List.mem_of_mem_take hm)⟩
variable{X:List bI}
theorem l5.bound(h:l5 X):0<=elems X/\elems X<=4096:=by
 have:=mL X h.2;have:=h.1;omega
theorem l5.lA(h:l5 X)(k:Nat):0<=elems (X.take k)/\elems (X.take k)<=4096:=(h.take k).bound
variable{m:bI}
theorem l5.at_(h:l5 X)(hm:X[k]?=some m):0<=m.size/\m.size<=64:=h.2 m (JL hm)
theorem pG(X:List bI)(k:Nat):elems (X.take k)<=elems X:=by
 have h:=w5 (X.take k) (X.drop k);rw[List.take_append_drop] at h;have:∀Y:List bI,0<=elems Y:=λY=>by
  induction Y with
  | nil=>simp[elems]
  | cons m Y ab=>rw[ob];have:=m.nz;omega
 have:=this (X.drop k);omega
def h3(X:List bI)(k:Nat):List Int:=(X.take k).zipIdx.flatMap λp=>List.replicate p.1.oH (p.2:Int)
def own(X:List bI):List Int:=h3 X X.length
theorem oK(X:List bI):h3 X 0=[]:=by simp[h3]
theorem js(h:X[k]?=some m):h3 X (k+1)=h3 X k++List.replicate m.oH (k:Int):=by
 have aj:k<X.length:=(List.getElem?_eq_some_iff.1 h).1;unfold h3;rw[aX h,List.zipIdx_append,List.flatMap_append];congr 1
 simp[Nat.min_eq_left (Nat.le_of_lt aj)]
theorem fG(X:List bI):∀k,k<=X.length->((h3 X k).length:Int)=elems (X.take k)
 | 0,_=>by simp[oK,elems]
 | k+1,h=>by
  have hm:X[k]?=some (X[k]'ad):=List.getElem?_eq_getElem _;rw[js hm,aX hm,hJ,JK,List.length_replicate,Int.natCast_add,fG X k ad,bI.rA]
theorem dR(X:List bI):((own X).length:Int)=elems X:=by
 rw[own,fG X _ (JI _),List.take_length]
theorem cq(h:l5 X):(own X).length<=4096:=by
 have:=dR X;have:=h.bound;omega
theorem lQ(X:List bI)(k:Nat):∀d,k+d<=X.length->∃s,h3 X (k+d)=h3 X k++s
 | 0,_=>⟨[],by simp⟩
 | d+1,h=>by
  obtain⟨s,hs⟩:=lQ X k d ad;have hm:X[k+d]?=some (X[k+d]'ad):=List.getElem?_eq_getElem _;exact⟨s++List.replicate (X[k+d]'ad).oH ((k+d:Nat):Int),by rw[show k+(d+1)=(k+d)+1 from rfl,js hm,hs,JW]⟩
theorem uG(h:X[k]?=some m){e:Nat}(ac:elems (X.take k)<=e)(ap:(e:Int)<elems (X.take k)+m.num):(own X)[e]?=some (k:Int):=by
 have aj:k<X.length:=(List.getElem?_eq_some_iff.1 h).1;obtain⟨s,hs⟩:=lQ X (k+1) (X.length - (k+1)) ad;rw[own,show X.length=k+1+(X.length - (k+1)) from by omega,hs,js h];have hl:=fG X k ad;have hn:=m.rA;rw[JW,List.getElem?_append_right ad,List.getElem?_append_left (by rw[List.length_replicate];omega),List.getElem?_replicate,if_pos ad]
def bh(X:List bI)(e:Int):Int:=if e<0 then -1 else ((own X)[e.toNat]?).getD (-1)
theorem ib(h:e<0):bh X e = -1:=if_pos h
theorem j3(h:X[k]?=some m)(h0:0<=e)(ac:elems (X.take k)<=e)(ap:e<elems (X.take k)+m.num):bh X e=k:=by
 unfold bh;rw[if_neg ad,uG h (e:=e.toNat) ad ad];rfl
theorem ie(h:elems X<=e):bh X e = -1:=by
 unfold bh;split
 .rfl
 .rw[List.getElem?_eq_none (aC (dR X))];rfl
theorem lR(X:List bI):∀(k:Nat),k<=X.length->∀e:Int,0<=e->e<elems (X.take k)->∃i m,i<k/\X[i]?=some m/\elems (X.take i)<=e/\e<elems (X.take i)+m.num
 | 0,_,e,h0,h=>by simp[elems] at h;omega
 | k+1,aj,e,h0,h=>by
  have hm:X[k]?=some (X[k]'ad):=List.getElem?_eq_getElem _;by_cases aq:e<elems (X.take k)
  .obtain⟨i,m,I,hx,ac,ap⟩:=lR X k ad e h0 aq;exact⟨i,m,ad,hx,ac,ap⟩
  .refine⟨k,_,ad,hm,ad,?_⟩;rw[aX hm,hJ] at h;exact h
theorem lL(h:0<=bh X e):∃i m,bh X e=(i:Nat)/\X[i]?=some m/\0<=e/\elems (X.take i)<=e/\e<elems (X.take i)+m.num:=by
 have h0:0<=e:=by
  rcases Int.lt_or_le e 0 with F|F
  .rw[ib F] at h;omega
  .exact F
 have aq:e<elems X:=by
  rcases Int.lt_or_le e (elems X) with F|F
  .exact F
  .rw[ie F] at h;omega
 obtain⟨i,m,_,hm,ac,ap⟩:=lR X X.length (JI _) e h0 (by rwa [List.take_length]);exact⟨i,m,j3 hm h0 ac ap,hm,h0,ac,ap⟩
theorem k4(h0:0<=e)(h:e<elems X):0<=bh X e:=by
 obtain⟨i,m,_,hm,ac,ap⟩:=lR X X.length (JI _) e h0 (by rwa [List.take_length]);rw[j3 hm h0 ac ap];omega
theorem fp:0<=bh X e↔0<=e/\e<elems X:=by
 constructor
 .intro h;refine⟨?_,?_⟩
  .rcases Int.lt_or_le e 0 with F|F
   .rw[ib F] at h;omega
   .exact F
  .rcases Int.lt_or_le e (elems X) with F|F
   .exact F
   .rw[ie F] at h;omega
 .exact λh=>k4 h.1 h.2
def eh(X:List bI)(m:Int):Int:=if m<0\/(X.length:Int)<=m then -1 else elems (X.take m.toNat)
theorem kW{m:Int}(h:m<0\/(X.length:Int)<=m):eh X m = -1:=if_pos h
theorem mb(h:k<X.length):eh X k=elems (X.take k):=by
 unfold eh;rw[if_neg ad];rfl
theorem qq(aj:k<X.length):(own X)[(elems (X.take k)).toNat]?=some (k:Int):=by
 have hm:X[k]?=some (X[k]'aj):=List.getElem?_eq_getElem _;have h0:0<=elems (X.take k):=by have:=fG X k ad;omega
 exact uG hm ad (by have:=(X[k]'aj).nz;omega)
theorem ED{e:Nat}{v:Int}(h:(own X)[e]?=some v):∃k m,v=(k:Nat)/\X[k]?=some m/\elems (X.take k)<=e/\(e:Int)<elems (X.take k)+m.num:=by
 have hl:=dR X;have he:=(List.getElem?_eq_some_iff.1 h).1;obtain⟨i,m,_,hm,ac,ap⟩:=lR X X.length (JI _) e ad (by rw[List.take_length];omega);have:=uG hm ac ap;rw[h] at this;injection this with this;exact⟨i,m,this,hm,ac,ap⟩
structure eR where
 name:ByteArray
 idx:Option VE
inductive dh where
 | mx (r:eR)
 | ex (e:VE)
inductive an where
 | nil
 | set (isVar:Bool) (n:ByteArray) (e:VE) (rest:an)
 | call (a:Bool) (n:ByteArray) (args:List dh) (rest:an)
 | lock (un:Bool) (r:eR) (rest:an)
 | ite (e:VE) (th el rest:an)
 | fL (e:VE) (th rest:an)
 | ret (rest:an)
structure a1 where
 name:ByteArray
 params:List (ByteArray×Bool)
 body:an
structure bC where
 globals:List (ByteArray×Int)
 af:List bI
 funcs:List a1
structure bN where
 param:Bool
 index:Int
 at_:Option VE
structure ax where
 op:Int
 target:Int
 c5:Bool
 expr:Option VE
 place:bN
 ints:List VE
 places:List bN
structure cG where
 name:ByteArray
 ints:Int
 aq:Int
 locals:Int
 code:List ax
structure ay where
 globals:List Int
 af:List bI
 procs:List cG
 main:Int
structure ai where
 proc:Int
 pc:Int
 ints:List Int
 aq:List Int
structure ah where
 globals:List Int
 table:List cp
 threads:List (List ai)
 fault:Int
end Go.Proofs.YtnigabjngpnbiaaGreat

/- Part 3 of the proof. No condition of its own. -/
import Derived.Test.YtnigabjngpnbiabGreatF01
namespace Go.Proofs.YtnigabjngpnbiabGreat
open Go.RowKit Go.Proofs.Tryz
set_option maxRecDepth 1000000
set_option maxHeartbeats 25600000
set_option linter.unusedVariables false
variable{e:Int}{k:Nat}
inductive VE where
 | num (n:Int)
 | gU (s:ByteArray)
 | loc (k:Int)
 | ij (k:Int)
 | un (op:Int) (x:VE)
 | bin (op:Int) (x y:VE)
def VE.rep(w:World)(P:Nat->Prop):VE->List Value->Prop
 | .num n=>λcs=>∃nm A c,cs=[.int .i64 1,.int .i64 n,.string nm,.slice A 0 c]
 | .gU s=>λcs=>∃n A c,cs=[.int .i64 2,.int .i64 n,.string s,.slice A 0 c]
 | .loc k=>λcs=>∃nm A c,cs=[.int .i64 18,.int .i64 k,.string nm,.slice A 0 c]
 | .ij k=>λcs=>∃nm A c,cs=[.int .i64 19,.int .i64 k,.string nm,.slice A 0 c]
 | .un op x=>λcs=>∃n nm b o c b0 Z a9 H,cs=[.int .i64 op,.int .i64 n,.string nm,.slice (some ⟨b,o,none⟩) 1 c]/\P b/\x.rep w P [b0,Z,a9,H]/\
   w.cell? ⟨b,o,none⟩=some b0/\w.cell? ⟨b,o+1,none⟩=some Z/\w.cell? ⟨b,o+2,none⟩=some a9/\w.cell? ⟨b,o+3,none⟩=some H
 | .bin op x y=>λcs=>∃n nm b o c b0 Z a9 H ci cr cf bv,cs=[.int .i64 op,.int .i64 n,.string nm,.slice (some ⟨b,o,none⟩) 2 c]/\P b/\x.rep w P [b0,Z,a9,H]/\y.rep w P [ci,cr,cf,bv]/\
   w.cell? ⟨b,o,none⟩=some b0/\w.cell? ⟨b,o+1,none⟩=some Z/\w.cell? ⟨b,o+2,none⟩=some a9/\w.cell? ⟨b,o+3,none⟩=some H/\
   w.cell? ⟨b,o+4,none⟩=some ci/\w.cell? ⟨b,o+5,none⟩=some cr/\w.cell? ⟨b,o+6,none⟩=some cf/\w.cell? ⟨b,o+7,none⟩=some bv
theorem VE.aO{w ab:World}{P:Nat->Prop}(aj:∀b,P b->ab.heap[b]?=w.heap[b]?):∀(e:VE) (cs:List Value),e.rep w P cs->e.rep ab P cs
 | .num _,_,h=>h
 | .gU _,_,h=>h
 | .loc _,_,h=>h
 | .ij _,_,h=>h
 | .un op x,cs,h=>by
  obtain⟨n,nm,b,o,c,b0,Z,a9,H,T,O,hx,c0,c1,c2,c3⟩:=h;have hc:∀j,ab.cell? ⟨b,j,none⟩=w.cell? ⟨b,j,none⟩:=λj=>World.cell?_of_block (w:=w) (aj b O)
  exact⟨n,nm,b,o,c,b0,Z,a9,H,T,O,VE.aO aj x _ hx,(hc _).trans c0,(hc _).trans c1,(hc _).trans c2,(hc _).trans c3⟩
 | .bin op x y,cs,h=>by
  obtain⟨n,nm,b,o,c,b0,Z,a9,H,ci,cr,cf,bv,T,O,hx,bb,c0,c1,c2,c3,d0,d1,d2,d3⟩:=h;have hc:∀j,ab.cell? ⟨b,j,none⟩=w.cell? ⟨b,j,none⟩:=λj=>World.cell?_of_block (w:=w) (aj b O);exact⟨n,nm,b,o,c,b0,Z,a9,H,ci,cr,cf,bv,T,O,VE.aO aj x _ hx,VE.aO aj y _ bb,(hc _).trans c0,(hc _).trans c1,(hc _).trans c2,(hc _).trans c3,(hc _).trans d0,(hc _).trans d1,(hc _).trans d2,(hc _).trans d3⟩
theorem VE.aM{w:World}{P cU:Nat->Prop}(hp:∀b,P b->cU b):∀(e:VE) (cs:List Value),e.rep w P cs->e.rep w cU cs
 | .num _,_,h=>h
 | .gU _,_,h=>h
 | .loc _,_,h=>h
 | .ij _,_,h=>h
 | .un op x,cs,h=>by
  obtain⟨n,nm,b,o,c,b0,Z,a9,H,T,O,hx,hc⟩:=h
  exact⟨n,nm,b,o,c,b0,Z,a9,H,T,hp b O,VE.aM hp x _ hx,hc⟩
 | .bin op x y,cs,h=>by
  obtain⟨n,nm,b,o,c,b0,Z,a9,H,ci,cr,cf,bv,T,O,hx,bb,hc⟩:=h;exact⟨n,nm,b,o,c,b0,Z,a9,H,ci,cr,cf,bv,T,hp b O,VE.aM hp x _ hx,VE.aM hp y _ bb,hc⟩
abbrev VE.at_(w:World)(e:VE)(cs:List Value):Prop:=e.rep w (·<w.heap.size) cs
theorem VE.ED{w ab:World}{e:VE}{cs:List Value}(h:e.at_ w cs)(O:Below w w ab):e.at_ ab cs:=
 VE.aM (λ_ ap=>M0 ap O.size) _ _ (VE.aO (λb ap=>O.block b ap) _ _ h)
def VE.ok(ng nl:Nat):VE->Prop
 | .num _=>True
 | .gU _=>False
 | .loc k=>0<=k/\k<nl
 | .ij k=>0<=k/\k<ng
 | .un op x=>(op=3\/op=4)/\x.ok ng nl
 | .bin op x y=>(5<=op/\op<=17)/\x.ok ng nl/\y.ok ng nl
def fB(b:Bool):Int:=if b then 1 else 0
def arith(op a b:Int):Int×Int:=
 if op=5 then (wrap64 (a*b),0) else if op=8 then (wrap64 (a+b),0) else if op=9 then (wrap64 (a - b),0)
 else if op=6 then (if b=0 then (0,1) else (wrap64 (a.tdiv b),0))
 else if op=7 then (if b=0 then (0,1) else (a.tmod b,0))
 else if op=10 then (fB (decide (a<b)),0) else if op=11 then (fB (decide (a<=b)),0)
 else if op=12 then (fB (decide (b<a)),0) else if op=13 then (fB (decide (b<=a)),0)
 else if op=14 then (fB (a == b),0) else if op=15 then (fB (a != b),0) else (0,0)
def ev(g l:List Int):VE->Int×Int
 | .num n=>(n,0)
 | .gU _=>(0,0)
 | .loc k=>(l.getD k.toNat 0,0)
 | .ij k=>(g.getD k.toNat 0,0)
 | .un op x=>if (ev g l x).2≠0 then (0,(ev g l x).2) else if op=3 then (wrap64 (-(ev g l x).1),0) else (fB ((ev g l x).1 == 0),0)
 | .bin op x y=>
  if (ev g l x).2≠0 then (0,(ev g l x).2)
  else if op=16/\(ev g l x).1=0 then (0,0)
  else if op=17/\(ev g l x).1≠0 then (1,0)
  else if (ev g l y).2≠0 then (0,(ev g l y).2)
  else if op=16\/op=17 then (fB ((ev g l y).1 != 0),0)
  else arith op (ev g l x).1 (ev g l y).1
structure bM where
 name:ByteArray
 re:Bool
 size:Int
structure di where
 owner:Int
 depth:Int
 deriving DecidableEq
def hA(m:bM):List Value:=[.string m.name,.bool m.re,.int .i64 m.size]
def ch(h:di):List Value:=[.int .i64 h.owner,.int .i64 h.depth]
def bM.num(m:bM):Int:=max m.size 1
def bM.qN(m:bM):Nat:=(max m.size 1).toNat
theorem bM.pF(m:bM):1<=m.num:=by unfold bM.num;omega
theorem bM.tR(m:bM):(m.qN:Int)=m.num:=by unfold bM.num bM.qN;omega
def po(X:List bM):Prop:=X.length<=64/\∀m∈X,0<=m.size/\m.size<=64
def elems(X:List bM):Int:=(X.map bM.num).sum
theorem qn(m:bM)(X:List bM):elems (m::X)=m.num+elems X:=by simp[elems]
theorem zB(X Y:List bM):elems (X++Y)=elems X+elems Y:=by simp[elems]
theorem iP(X:List bM)(m:bM):elems (X++[m])=elems X+m.num:=by simp[elems]
theorem oB:∀(X:List bM),(∀m∈X,0<=m.size/\m.size<=64)->(X.length:Int)<=elems X/\elems X<=64*X.length
 | [],_=>by simp[elems]
 | m::X,h=>by
  have ac:=h m (by simp);have az:=oB X (λm hm=>h m (by simp[hm]));rw[qn];simp only[Nh];have:=m.pF;unfold bM.num at *;omega
theorem po.take{X:List bM}(h:po X)(k:Nat):po (X.take k):=
 ⟨by have:=h.1;simp;omega,λm hm=>h.2 m (List.mem_of_mem_take hm)⟩
variable{X:List bM}
theorem po.bound(h:po X):0<=elems X/\elems X<=4096:=by
 have:=oB X h.2;have:=h.1;omega
theorem po.mR(h:po X)(k:Nat):0<=elems (X.take k)/\elems (X.take k)<=4096:=(h.take k).bound
variable{m:bM}
theorem po.at_(h:po X)(hm:X[k]?=some m):0<=m.size/\m.size<=64:=h.2 m (M4 hm)
theorem rO(X:List bM)(k:Nat):elems (X.take k)<=elems X:=by
 have h:=zB (X.take k) (X.drop k);rw[List.take_append_drop] at h;have:∀Y:List bM,0<=elems Y:=λY=>by
  induction Y with
  | nil=>simp[elems]
  | cons m Y aq=>rw[qn];have:=m.pF;omega
 have:=this (X.drop k);omega
def iZ(X:List bM)(k:Nat):List Int:=(X.take k).zipIdx.flatMap λp=>List.replicate p.1.qN (p.2:Int)
def own(X:List bM):List Int:=iZ X X.length
theorem qR(X:List bM):iZ X 0=[]:=by simp[iZ]
theorem kn(h:X[k]?=some m):iZ X (k+1)=iZ X k++List.replicate m.qN (k:Int):=by
 have aj:k<X.length:=(List.getElem?_eq_some_iff.1 h).1;unfold iZ;rw[aU h,List.zipIdx_append,List.flatMap_append];congr 1
 simp[Nat.min_eq_left (Nat.le_of_lt aj)]
theorem gG(X:List bM):∀k,k<=X.length->((iZ X k).length:Int)=elems (X.take k)
 | 0,_=>by simp[qR,elems]
 | k+1,h=>by
  have hm:X[k]?=some (X[k]'ad):=List.getElem?_eq_getElem _;rw[kn hm,aU hm,iP,M3,List.length_replicate,Int.natCast_add,gG X k ad,bM.tR]
theorem gf(X:List bM):((own X).length:Int)=elems X:=by
 rw[own,gG X _ (MU _),List.take_length]
theorem dx(h:po X):(own X).length<=4096:=by
 have:=gf X;have:=h.bound;omega
theorem m8(X:List bM)(k:Nat):∀d,k+d<=X.length->∃s,iZ X (k+d)=iZ X k++s
 | 0,_=>⟨[],by simp⟩
 | d+1,h=>by
  obtain⟨s,hs⟩:=m8 X k d ad;have hm:X[k+d]?=some (X[k+d]'ad):=List.getElem?_eq_getElem _;exact⟨s++List.replicate (X[k+d]'ad).qN ((k+d:Nat):Int),by rw[show k+(d+1)=(k+d)+1 from rfl,kn hm,hs,Ni]⟩
theorem xx(h:X[k]?=some m){e:Nat}(ac:elems (X.take k)<=e)(az:(e:Int)<elems (X.take k)+m.num):(own X)[e]?=some (k:Int):=by
 have aj:k<X.length:=(List.getElem?_eq_some_iff.1 h).1;obtain⟨s,hs⟩:=m8 X (k+1) (X.length - (k+1)) ad;rw[own,show X.length=k+1+(X.length - (k+1)) from by omega,hs,kn h];have hl:=gG X k ad;have hn:=m.tR;rw[Ni,List.getElem?_append_right ad,List.getElem?_append_left (by rw[List.length_replicate];omega),List.getElem?_replicate,if_pos ad]
def bF(X:List bM)(e:Int):Int:=if e<0 then -1 else ((own X)[e.toNat]?).getD (-1)
theorem jr(h:e<0):bF X e = -1:=if_pos h
theorem k1(h:X[k]?=some m)(h0:0<=e)(ac:elems (X.take k)<=e)(az:e<elems (X.take k)+m.num):bF X e=k:=by
 unfold bF;rw[if_neg ad,xx h (e:=e.toNat) ad ad];rfl
theorem js(h:elems X<=e):bF X e = -1:=by
 unfold bF;split
 .rfl
 .rw[List.getElem?_eq_none (ax (gf X))];rfl
theorem m9(X:List bM):∀(k:Nat),k<=X.length->∀e:Int,0<=e->e<elems (X.take k)->∃i m,i<k/\X[i]?=some m/\elems (X.take i)<=e/\e<elems (X.take i)+m.num
 | 0,_,e,h0,h=>by simp[elems] at h;omega
 | k+1,aj,e,h0,h=>by
  have hm:X[k]?=some (X[k]'ad):=List.getElem?_eq_getElem _;by_cases ap:e<elems (X.take k)
  .obtain⟨i,m,aN,hx,ac,az⟩:=m9 X k ad e h0 ap;exact⟨i,m,ad,hx,ac,az⟩
  .refine⟨k,_,ad,hm,ad,?_⟩;rw[aU hm,iP] at h;exact h
theorem tP(h:0<=bF X e):∃i m,bF X e=(i:Nat)/\X[i]?=some m/\0<=e/\elems (X.take i)<=e/\e<elems (X.take i)+m.num:=by
 have h0:0<=e:=by
  rcases Int.lt_or_le e 0 with q|q
  .rw[jr q] at h;omega
  .exact q
 have ap:e<elems X:=by
  rcases Int.lt_or_le e (elems X) with q|q
  .exact q
  .rw[js q] at h;omega
 obtain⟨i,m,_,hm,ac,az⟩:=m9 X X.length (MU _) e h0 (by rwa [List.take_length]);exact⟨i,m,k1 hm h0 ac az,hm,h0,ac,az⟩
theorem qK(h0:0<=e)(h:e<elems X):0<=bF X e:=by
 obtain⟨i,m,_,hm,ac,az⟩:=m9 X X.length (MU _) e h0 (by rwa [List.take_length]);rw[k1 hm h0 ac az];omega
theorem gm:0<=bF X e↔0<=e/\e<elems X:=by
 constructor
 .intro h;refine⟨?_,?_⟩
  .rcases Int.lt_or_le e 0 with q|q
   .rw[jr q] at h;omega
   .exact q
  .rcases Int.lt_or_le e (elems X) with q|q
   .exact q
   .rw[js q] at h;omega
 .exact λh=>qK h.1 h.2
def e6(X:List bM)(m:Int):Int:=if m<0\/(X.length:Int)<=m then -1 else elems (X.take m.toNat)
theorem mj{m:Int}(h:m<0\/(X.length:Int)<=m):e6 X m = -1:=if_pos h
theorem nM(h:k<X.length):e6 X k=elems (X.take k):=by
 unfold e6;rw[if_neg ad];rfl
theorem sD(aj:k<X.length):(own X)[(elems (X.take k)).toNat]?=some (k:Int):=by
 have hm:X[k]?=some (X[k]'aj):=List.getElem?_eq_getElem _;have h0:0<=elems (X.take k):=by have:=gG X k ad;omega
 exact xx hm ad (by have:=(X[k]'aj).pF;omega)
theorem Hg{e:Nat}{v:Int}(h:(own X)[e]?=some v):∃k m,v=(k:Nat)/\X[k]?=some m/\elems (X.take k)<=e/\(e:Int)<elems (X.take k)+m.num:=by
 have hl:=gf X;have he:=(List.getElem?_eq_some_iff.1 h).1;obtain⟨i,m,_,hm,ac,az⟩:=m9 X X.length (MU _) e ad (by rw[List.take_length];omega);have:=xx hm ac az;rw[h] at this;injection this with this;exact⟨i,m,this,hm,ac,az⟩
structure eY where
 name:ByteArray
 idx:Option VE
inductive dq where
 | mx (r:eY)
 | ex (e:VE)
inductive al where
 | nil
 | set (isVar:Bool) (n:ByteArray) (e:VE) (rest:al)
 | call (a:Bool) (n:ByteArray) (args:List dq) (rest:al)
 | lock (un:Bool) (r:eY) (rest:al)
 | ite (e:VE) (th el rest:al)
 | gM (e:VE) (th rest:al)
 | ret (rest:al)
structure aI where
 name:ByteArray
 params:List (ByteArray×Bool)
 body:al
structure bN where
 globals:List (ByteArray×Int)
 af:List bM
 funcs:List aI
structure bO where
 param:Bool
 index:Int
 at_:Option VE
structure aA where
 op:Int
 target:Int
 du:Bool
 expr:Option VE
 place:bO
 ints:List VE
 places:List bO
structure cR where
 name:ByteArray
 ints:Int
 az:Int
 locals:Int
 code:List aA
structure aw where
 globals:List Int
 af:List bM
 procs:List cR
 main:Int
structure ao where
 proc:Int
 pc:Int
 ints:List Int
 az:List Int
structure ai where
 globals:List Int
 table:List di
 threads:List (List ao)
 fault:Int
end Go.Proofs.YtnigabjngpnbiabGreat

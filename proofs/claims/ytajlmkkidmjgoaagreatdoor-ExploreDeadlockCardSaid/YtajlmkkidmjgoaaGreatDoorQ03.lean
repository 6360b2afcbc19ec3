/- Part 3 of the proof. No condition of its own. -/
import Derived.Test.YtajlmkkidmjgoaaGreatDoorQ01
namespace Go.Proofs.YtajlmkkidmjgoaaGreatDoor
open Go.RowKit Go.Proofs.Tryz
set_option maxRecDepth 1000000
set_option maxHeartbeats 25600000
set_option linter.unusedVariables false
variable{e:Int}{k:Nat}
inductive VE where
 | num (n:Int)
 | gI (s:ByteArray)
 | loc (k:Int)
 | iq (k:Int)
 | un (op:Int) (x:VE)
 | bin (op:Int) (x y:VE)
def VE.rep(w:World)(P:Nat->Prop):VE->List Value->Prop
 | .num n=>λcs=>∃nm A c,cs=[.int .i64 1,.int .i64 n,.string nm,.slice A 0 c]
 | .gI s=>λcs=>∃n A c,cs=[.int .i64 2,.int .i64 n,.string s,.slice A 0 c]
 | .loc k=>λcs=>∃nm A c,cs=[.int .i64 18,.int .i64 k,.string nm,.slice A 0 c]
 | .iq k=>λcs=>∃nm A c,cs=[.int .i64 19,.int .i64 k,.string nm,.slice A 0 c]
 | .un op x=>λcs=>∃n nm b o c bU Z ay F,cs=[.int .i64 op,.int .i64 n,.string nm,.slice (some ⟨b,o,none⟩) 1 c]/\P b/\x.rep w P [bU,Z,ay,F]/\
   w.cell? ⟨b,o,none⟩=some bU/\w.cell? ⟨b,o+1,none⟩=some Z/\w.cell? ⟨b,o+2,none⟩=some ay/\w.cell? ⟨b,o+3,none⟩=some F
 | .bin op x y=>λcs=>∃n nm b o c bU Z ay F b1 cj bp aJ,cs=[.int .i64 op,.int .i64 n,.string nm,.slice (some ⟨b,o,none⟩) 2 c]/\P b/\x.rep w P [bU,Z,ay,F]/\y.rep w P [b1,cj,bp,aJ]/\
   w.cell? ⟨b,o,none⟩=some bU/\w.cell? ⟨b,o+1,none⟩=some Z/\w.cell? ⟨b,o+2,none⟩=some ay/\w.cell? ⟨b,o+3,none⟩=some F/\
   w.cell? ⟨b,o+4,none⟩=some b1/\w.cell? ⟨b,o+5,none⟩=some cj/\w.cell? ⟨b,o+6,none⟩=some bp/\w.cell? ⟨b,o+7,none⟩=some aJ
theorem VE.aT{w ab:World}{P:Nat->Prop}(ap:∀b,P b->ab.heap[b]?=w.heap[b]?):∀(e:VE) (cs:List Value),e.rep w P cs->e.rep ab P cs
 | .num _,_,h=>h
 | .gI _,_,h=>h
 | .loc _,_,h=>h
 | .iq _,_,h=>h
 | .un op x,cs,h=>by
  obtain⟨n,nm,b,o,c,bU,Z,ay,F,T,O,hx,c0,c1,c2,c3⟩:=h;have hc:∀j,ab.cell? ⟨b,j,none⟩=w.cell? ⟨b,j,none⟩:=λj=>World.cell?_of_block (w:=w) (ap b O)
  exact⟨n,nm,b,o,c,bU,Z,ay,F,T,O,VE.aT ap x _ hx,(hc _).trans c0,(hc _).trans c1,(hc _).trans c2,(hc _).trans c3⟩
 | .bin op x y,cs,h=>by
  obtain⟨n,nm,b,o,c,bU,Z,ay,F,b1,cj,bp,aJ,T,O,hx,a4,c0,c1,c2,c3,d0,d1,d2,d3⟩:=h;have hc:∀j,ab.cell? ⟨b,j,none⟩=w.cell? ⟨b,j,none⟩:=λj=>World.cell?_of_block (w:=w) (ap b O);exact⟨n,nm,b,o,c,bU,Z,ay,F,b1,cj,bp,aJ,T,O,VE.aT ap x _ hx,VE.aT ap y _ a4,(hc _).trans c0,(hc _).trans c1,(hc _).trans c2,(hc _).trans c3,(hc _).trans d0,(hc _).trans d1,(hc _).trans d2,(hc _).trans d3⟩
theorem VE.aH{w:World}{P bW:Nat->Prop}(hp:∀b,P b->bW b):∀(e:VE) (cs:List Value),e.rep w P cs->e.rep w bW cs
 | .num _,_,h=>h
 | .gI _,_,h=>h
 | .loc _,_,h=>h
 | .iq _,_,h=>h
 | .un op x,cs,h=>by
  obtain⟨n,nm,b,o,c,bU,Z,ay,F,T,O,hx,hc⟩:=h
  exact⟨n,nm,b,o,c,bU,Z,ay,F,T,hp b O,VE.aH hp x _ hx,hc⟩
 | .bin op x y,cs,h=>by
  obtain⟨n,nm,b,o,c,bU,Z,ay,F,b1,cj,bp,aJ,T,O,hx,a4,hc⟩:=h;exact⟨n,nm,b,o,c,bU,Z,ay,F,b1,cj,bp,aJ,T,hp b O,VE.aH hp x _ hx,VE.aH hp y _ a4,hc⟩
abbrev VE.at_(w:World)(e:VE)(cs:List Value):Prop:=e.rep w (·<w.heap.size) cs
theorem VE.FO{w ab:World}{e:VE}{cs:List Value}(h:e.at_ w cs)(O:Below w.heap.size w ab):e.at_ ab cs:=
 VE.aH (λ_ al=>Hy al O.size) _ _ (VE.aT (λb al=>O.block b al) _ _ h)
def VE.ok(ng nl:Nat):VE->Prop
 | .num _=>True
 | .gI _=>False
 | .loc k=>0<=k/\k<nl
 | .iq k=>0<=k/\k<ng
 | .un op x=>(op=3\/op=4)/\x.ok ng nl
 | .bin op x y=>(5<=op/\op<=17)/\x.ok ng nl/\y.ok ng nl
def gQ(b:Bool):Int:=if b then 1 else 0
def arith(op a b:Int):Int×Int:=
 if op=5 then (wrap64 (a*b),0) else if op=8 then (wrap64 (a+b),0) else if op=9 then (wrap64 (a - b),0)
 else if op=6 then (if b=0 then (0,1) else (wrap64 (a.tdiv b),0))
 else if op=7 then (if b=0 then (0,1) else (a.tmod b,0))
 else if op=10 then (gQ (decide (a<b)),0) else if op=11 then (gQ (decide (a<=b)),0)
 else if op=12 then (gQ (decide (b<a)),0) else if op=13 then (gQ (decide (b<=a)),0)
 else if op=14 then (gQ (a == b),0) else if op=15 then (gQ (a != b),0) else (0,0)
def ev(g l:List Int):VE->Int×Int
 | .num n=>(n,0)
 | .gI _=>(0,0)
 | .loc k=>(l.getD k.toNat 0,0)
 | .iq k=>(g.getD k.toNat 0,0)
 | .un op x=>if (ev g l x).2≠0 then (0,(ev g l x).2) else if op=3 then (wrap64 (-(ev g l x).1),0) else (gQ ((ev g l x).1 == 0),0)
 | .bin op x y=>
  if (ev g l x).2≠0 then (0,(ev g l x).2)
  else if op=16/\(ev g l x).1=0 then (0,0)
  else if op=17/\(ev g l x).1≠0 then (1,0)
  else if (ev g l y).2≠0 then (0,(ev g l y).2)
  else if op=16\/op=17 then (gQ ((ev g l y).1 != 0),0)
  else arith op (ev g l x).1 (ev g l y).1
structure bJ where
 name:ByteArray
 re:Bool
 size:Int
structure cQ where
 owner:Int
 depth:Int
 deriving DecidableEq
def iM(m:bJ):List Value:=[.string m.name,.bool m.re,.int .i64 m.size]
def ca(h:cQ):List Value:=[.int .i64 h.owner,.int .i64 h.depth]
def bJ.num(m:bJ):Int:=max m.size 1
def bJ.BA(m:bJ):Nat:=(max m.size 1).toNat
theorem bJ.ry(m:bJ):1<=m.num:=by unfold bJ.num;omega
theorem bJ.wo(m:bJ):(m.BA:Int)=m.num:=by unfold bJ.num bJ.BA;omega
def rY(X:List bJ):Prop:=X.length<=64/\∀m∈X,0<=m.size/\m.size<=64
def elems(X:List bJ):Int:=(X.map bJ.num).sum
theorem oK(m:bJ)(X:List bJ):elems (m::X)=m.num+elems X:=by simp[elems]
theorem w1(X Y:List bJ):elems (X++Y)=elems X+elems Y:=by simp[elems]
theorem hO(X:List bJ)(m:bJ):elems (X++[m])=elems X+m.num:=by simp[elems]
theorem np:∀(X:List bJ),(∀m∈X,0<=m.size/\m.size<=64)->(X.length:Int)<=elems X/\elems X<=64*X.length
 | [],_=>by simp[elems]
 | m::X,h=>by
  have ac:=h m (by simp);have J:=np X (λm hm=>h m (by simp[hm]));rw[oK];simp only[Im];have:=m.ry;unfold bJ.num at *;omega
theorem rY.take{X:List bJ}(h:rY X)(k:Nat):rY (X.take k):=
 ⟨by have:=h.1;simp;omega,λm hm=>h.2 m (List.mem_of_mem_take hm)⟩
variable{X:List bJ}
theorem rY.bound(h:rY X):0<=elems X/\elems X<=4096:=by
 have:=np X h.2;have:=h.1;omega
theorem rY.q6(h:rY X)(k:Nat):0<=elems (X.take k)/\elems (X.take k)<=4096:=(h.take k).bound
variable{m:bJ}
theorem rY.at_(h:rY X)(hm:X[k]?=some m):0<=m.size/\m.size<=64:=h.2 m (Ia hm)
theorem pX(X:List bJ)(k:Nat):elems (X.take k)<=elems X:=by
 have h:=w1 (X.take k) (X.drop k);rw[List.take_append_drop] at h;have:∀Y:List bJ,0<=elems Y:=λY=>by
  induction Y with
  | nil=>simp[elems]
  | cons m Y aa=>rw[oK];have:=m.ry;omega
 have:=this (X.drop k);omega
def mh(X:List bJ)(k:Nat):List Int:=(X.take k).zipIdx.flatMap λp=>List.replicate p.1.BA (p.2:Int)
def own(X:List bJ):List Int:=mh X X.length
theorem uG(X:List bJ):mh X 0=[]:=by simp[mh]
theorem lF(h:X[k]?=some m):mh X (k+1)=mh X k++List.replicate m.BA (k:Int):=by
 have ap:k<X.length:=(List.getElem?_eq_some_iff.1 h).1;unfold mh;rw[a0 h,List.zipIdx_append,List.flatMap_append];congr 1
 simp[Nat.min_eq_left (Nat.le_of_lt ap)]
theorem jD(X:List bJ):∀k,k<=X.length->((mh X k).length:Int)=elems (X.take k)
 | 0,_=>by simp[uG,elems]
 | k+1,h=>by
  have hm:X[k]?=some (X[k]'ad):=List.getElem?_eq_getElem _;rw[lF hm,a0 hm,hO,Hz,List.length_replicate,Int.natCast_add,jD X k ad,bJ.wo]
theorem fv(X:List bJ):((own X).length:Int)=elems X:=by
 rw[own,jD X _ (Hx _),List.take_length]
theorem eZ(h:rY X):(own X).length<=4096:=by
 have:=fv X;have:=h.bound;omega
theorem mi(X:List bJ)(k:Nat):∀d,k+d<=X.length->∃s,mh X (k+d)=mh X k++s
 | 0,_=>⟨[],by simp⟩
 | d+1,h=>by
  obtain⟨s,hs⟩:=mi X k d ad;have hm:X[k+d]?=some (X[k+d]'ad):=List.getElem?_eq_getElem _;exact⟨s++List.replicate (X[k+d]'ad).BA ((k+d:Nat):Int),by rw[show k+(d+1)=(k+d)+1 from rfl,lF hm,hs,Io]⟩
theorem E5(h:X[k]?=some m){e:Nat}(ac:elems (X.take k)<=e)(J:(e:Int)<elems (X.take k)+m.num):(own X)[e]?=some (k:Int):=by
 have ap:k<X.length:=(List.getElem?_eq_some_iff.1 h).1;obtain⟨s,hs⟩:=mi X (k+1) (X.length - (k+1)) ad;rw[own,show X.length=k+1+(X.length - (k+1)) from by omega,hs,lF h];have hl:=jD X k ad;have hn:=m.wo;rw[Io,List.getElem?_append_right ad,List.getElem?_append_left (by rw[List.length_replicate];omega),List.getElem?_replicate,if_pos ad]
def bU(X:List bJ)(e:Int):Int:=if e<0 then -1 else ((own X)[e.toNat]?).getD (-1)
theorem kh(h:e<0):bU X e = -1:=if_pos h
theorem kf(h:X[k]?=some m)(h0:0<=e)(ac:elems (X.take k)<=e)(J:e<elems (X.take k)+m.num):bU X e=k:=by
 unfold bU;rw[if_neg ad,E5 h (e:=e.toNat) ad ad];rfl
theorem ki(h:elems X<=e):bU X e = -1:=by
 unfold bU;split
 .rfl
 .rw[List.getElem?_eq_none (aC (fv X))];rfl
theorem pk(X:List bJ):∀(k:Nat),k<=X.length->∀e:Int,0<=e->e<elems (X.take k)->∃i m,i<k/\X[i]?=some m/\elems (X.take i)<=e/\e<elems (X.take i)+m.num
 | 0,_,e,h0,h=>by simp[elems] at h;omega
 | k+1,ap,e,h0,h=>by
  have hm:X[k]?=some (X[k]'ad):=List.getElem?_eq_getElem _;by_cases al:e<elems (X.take k)
  .obtain⟨i,m,ak,hx,ac,J⟩:=pk X k ad e h0 al;exact⟨i,m,ad,hx,ac,J⟩
  .refine⟨k,_,ad,hm,ad,?_⟩;rw[a0 hm,hO] at h;exact h
theorem rr(h:0<=bU X e):∃i m,bU X e=(i:Nat)/\X[i]?=some m/\0<=e/\elems (X.take i)<=e/\e<elems (X.take i)+m.num:=by
 have h0:0<=e:=by
  rcases Int.lt_or_le e 0 with F|F
  .rw[kh F] at h;omega
  .exact F
 have al:e<elems X:=by
  rcases Int.lt_or_le e (elems X) with F|F
  .exact F
  .rw[ki F] at h;omega
 obtain⟨i,m,_,hm,ac,J⟩:=pk X X.length (Hx _) e h0 (by rwa [List.take_length]);exact⟨i,m,kf hm h0 ac J,hm,h0,ac,J⟩
theorem pd(h0:0<=e)(h:e<elems X):0<=bU X e:=by
 obtain⟨i,m,_,hm,ac,J⟩:=pk X X.length (Hx _) e h0 (by rwa [List.take_length]);rw[kf hm h0 ac J];omega
theorem fE:0<=bU X e↔0<=e/\e<elems X:=by
 constructor
 .intro h;refine⟨?_,?_⟩
  .rcases Int.lt_or_le e 0 with F|F
   .rw[kh F] at h;omega
   .exact F
  .rcases Int.lt_or_le e (elems X) with F|F
   .exact F
   .rw[ki F] at h;omega
 .exact λh=>pd h.1 h.2
def gm(X:List bJ)(m:Int):Int:=if m<0\/(X.length:Int)<=m then -1 else elems (X.take m.toNat)
theorem oC{m:Int}(h:m<0\/(X.length:Int)<=m):gm X m = -1:=if_pos h
theorem p9(h:k<X.length):gm X k=elems (X.take k):=by
 unfold gm;rw[if_neg ad];rfl
structure eC where
 name:ByteArray
 idx:Option VE
inductive cW where
 | mx (r:eC)
 | ex (e:VE)
inductive ak where
 | nil
 | set (isVar:Bool) (n:ByteArray) (e:VE) (rest:ak)
 | call (a:Bool) (n:ByteArray) (args:List cW) (rest:ak)
 | lock (un:Bool) (r:eC) (rest:ak)
 | ite (e:VE) (th el rest:ak)
 | fY (e:VE) (th rest:ak)
 | ret (rest:ak)
structure aE where
 name:ByteArray
 params:List (ByteArray×Bool)
 body:ak
structure bC where
 globals:List (ByteArray×Int)
 af:List bJ
 funcs:List aE
structure bK where
 param:Bool
 index:Int
 at_:Option VE
structure az where
 op:Int
 target:Int
 dw:Bool
 expr:Option VE
 place:bK
 ints:List VE
 places:List bK
structure c7 where
 name:ByteArray
 ints:Int
 aw:Int
 locals:Int
 code:List az
structure ax where
 globals:List Int
 af:List bJ
 procs:List c7
 main:Int
structure ao where
 proc:Int
 pc:Int
 ints:List Int
 aw:List Int
structure ah where
 globals:List Int
 table:List cQ
 threads:List (List ao)
 fault:Int
end Go.Proofs.YtajlmkkidmjgoaaGreatDoor

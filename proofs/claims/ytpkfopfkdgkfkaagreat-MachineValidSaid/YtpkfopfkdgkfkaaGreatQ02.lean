/- Part 2 of the proof. No condition of its own. -/
import Derived.Test.YtpkfopfkdgkfkaaGreatQ01
namespace Go.Proofs.YtpkfopfkdgkfkaaGreat
open Go.RowKit Go.Proofs.Tryz
set_option maxRecDepth 1000000
set_option maxHeartbeats 25600000
set_option linter.unusedVariables false
variable{e:Int}{k:Nat}
inductive VE where
 | num (n:Int)
 | hg (s:ByteArray)
 | loc (k:Int)
 | iI (k:Int)
 | un (op:Int) (x:VE)
 | bin (op:Int) (x y:VE)
def VE.rep(w:World)(P:Nat->Prop):VE->List Value->Prop
 | .num n=>λcs=>∃nm A c,cs=[.int .i64 1,.int .i64 n,.string nm,.slice A 0 c]
 | .hg s=>λcs=>∃n A c,cs=[.int .i64 2,.int .i64 n,.string s,.slice A 0 c]
 | .loc k=>λcs=>∃nm A c,cs=[.int .i64 18,.int .i64 k,.string nm,.slice A 0 c]
 | .iI k=>λcs=>∃nm A c,cs=[.int .i64 19,.int .i64 k,.string nm,.slice A 0 c]
 | .un op x=>λcs=>∃n nm b o c ci aK a4 E,cs=[.int .i64 op,.int .i64 n,.string nm,.slice (some ⟨b,o,none⟩) 1 c]/\P b/\x.rep w P [ci,aK,a4,E]/\
   w.cell? ⟨b,o,none⟩=some ci/\w.cell? ⟨b,o+1,none⟩=some aK/\w.cell? ⟨b,o+2,none⟩=some a4/\w.cell? ⟨b,o+3,none⟩=some E
 | .bin op x y=>λcs=>∃n nm b o c ci aK a4 E cK cp cX bx,cs=[.int .i64 op,.int .i64 n,.string nm,.slice (some ⟨b,o,none⟩) 2 c]/\P b/\x.rep w P [ci,aK,a4,E]/\y.rep w P [cK,cp,cX,bx]/\
   w.cell? ⟨b,o,none⟩=some ci/\w.cell? ⟨b,o+1,none⟩=some aK/\w.cell? ⟨b,o+2,none⟩=some a4/\w.cell? ⟨b,o+3,none⟩=some E/\
   w.cell? ⟨b,o+4,none⟩=some cK/\w.cell? ⟨b,o+5,none⟩=some cp/\w.cell? ⟨b,o+6,none⟩=some cX/\w.cell? ⟨b,o+7,none⟩=some bx
theorem VE.aS{w ab:World}{P:Nat->Prop}(aj:∀b,P b->ab.heap[b]?=w.heap[b]?):∀(e:VE) (cs:List Value),e.rep w P cs->e.rep ab P cs
 | .num _,_,h=>h
 | .hg _,_,h=>h
 | .loc _,_,h=>h
 | .iI _,_,h=>h
 | .un op x,cs,h=>by
  obtain⟨n,nm,b,o,c,ci,aK,a4,E,T,O,hx,c0,c1,c2,c3⟩:=h;have hc:∀j,ab.cell? ⟨b,j,none⟩=w.cell? ⟨b,j,none⟩:=λj=>World.cell?_of_block (w:=w) (aj b O)
  exact⟨n,nm,b,o,c,ci,aK,a4,E,T,O,VE.aS aj x _ hx,(hc _).trans c0,(hc _).trans c1,(hc _).trans c2,(hc _).trans c3⟩
 | .bin op x y,cs,h=>by
  obtain⟨n,nm,b,o,c,ci,aK,a4,E,cK,cp,cX,bx,T,O,hx,bb,c0,c1,c2,c3,d0,d1,d2,d3⟩:=h;have hc:∀j,ab.cell? ⟨b,j,none⟩=w.cell? ⟨b,j,none⟩:=λj=>World.cell?_of_block (w:=w) (aj b O);exact⟨n,nm,b,o,c,ci,aK,a4,E,cK,cp,cX,bx,T,O,VE.aS aj x _ hx,VE.aS aj y _ bb,(hc _).trans c0,(hc _).trans c1,(hc _).trans c2,(hc _).trans c3,(hc _).trans d0,(hc _).trans d1,(hc _).trans d2,(hc _).trans d3⟩
theorem VE.aK{w:World}{P de:Nat->Prop}(hp:∀b,P b->de b):∀(e:VE) (cs:List Value),e.rep w P cs->e.rep w de cs
 | .num _,_,h=>h
 | .hg _,_,h=>h
 | .loc _,_,h=>h
 | .iI _,_,h=>h
 | .un op x,cs,h=>by
  obtain⟨n,nm,b,o,c,ci,aK,a4,E,T,O,hx,hc⟩:=h
  exact⟨n,nm,b,o,c,ci,aK,a4,E,T,hp b O,VE.aK hp x _ hx,hc⟩
 | .bin op x y,cs,h=>by
  obtain⟨n,nm,b,o,c,ci,aK,a4,E,cK,cp,cX,bx,T,O,hx,bb,hc⟩:=h;exact⟨n,nm,b,o,c,ci,aK,a4,E,cK,cp,cX,bx,T,hp b O,VE.aK hp x _ hx,VE.aK hp y _ bb,hc⟩
abbrev VE.at_(w:World)(e:VE)(cs:List Value):Prop:=e.rep w (·<w.heap.size) cs
theorem VE.Jq{w ab:World}{e:VE}{cs:List Value}(h:e.at_ w cs)(O:Below w w ab):e.at_ ab cs:=
 VE.aK (λ_ an=>LL an O.size) _ _ (VE.aS (λb an=>O.block b an) _ _ h)
def VE.ok(ng nl:Nat):VE->Prop
 | .num _=>True
 | .hg _=>False
 | .loc k=>0<=k/\k<nl
 | .iI k=>0<=k/\k<ng
 | .un op x=>(op=3\/op=4)/\x.ok ng nl
 | .bin op x y=>(5<=op/\op<=17)/\x.ok ng nl/\y.ok ng nl
def fx(b:Bool):Int:=if b then 1 else 0
def arith(op a b:Int):Int×Int:=
 if op=5 then (wrap64 (a*b),0) else if op=8 then (wrap64 (a+b),0) else if op=9 then (wrap64 (a - b),0)
 else if op=6 then (if b=0 then (0,1) else (wrap64 (a.tdiv b),0))
 else if op=7 then (if b=0 then (0,1) else (a.tmod b,0))
 else if op=10 then (fx (decide (a<b)),0) else if op=11 then (fx (decide (a<=b)),0)
 else if op=12 then (fx (decide (b<a)),0) else if op=13 then (fx (decide (b<=a)),0)
 else if op=14 then (fx (a == b),0) else if op=15 then (fx (a != b),0) else (0,0)
def ev(g l:List Int):VE->Int×Int
 | .num n=>(n,0)
 | .hg _=>(0,0)
 | .loc k=>(l.getD k.toNat 0,0)
 | .iI k=>(g.getD k.toNat 0,0)
 | .un op x=>if (ev g l x).2≠0 then (0,(ev g l x).2) else if op=3 then (wrap64 (-(ev g l x).1),0) else (fx ((ev g l x).1 == 0),0)
 | .bin op x y=>
  if (ev g l x).2≠0 then (0,(ev g l x).2)
  else if op=16/\(ev g l x).1=0 then (0,0)
  else if op=17/\(ev g l x).1≠0 then (1,0)
  else if (ev g l y).2≠0 then (0,(ev g l y).2)
  else if op=16\/op=17 then (fx ((ev g l y).1 != 0),0)
  else arith op (ev g l x).1 (ev g l y).1
structure bM where
 name:ByteArray
 re:Bool
 size:Int
structure cx where
 owner:Int
 depth:Int
 deriving DecidableEq
def gu(m:bM):List Value:=[.string m.name,.bool m.re,.int .i64 m.size]
def bO(h:cx):List Value:=[.int .i64 h.owner,.int .i64 h.depth]
def bM.num(m:bM):Int:=max m.size 1
def bM.qk(m:bM):Nat:=(max m.size 1).toNat
theorem bM.oZ(m:bM):1<=m.num:=by unfold bM.num;omega
theorem bM.tb(m:bM):(m.qk:Int)=m.num:=by unfold bM.num bM.qk;omega
def mr(X:List bM):Prop:=X.length<=64/\∀m∈X,0<=m.size/\m.size<=64
def elems(X:List bM):Int:=(X.map bM.num).sum
theorem pR(m:bM)(X:List bM):elems (m::X)=m.num+elems X:=by simp[elems]
theorem yJ(X Y:List bM):elems (X++Y)=elems X+elems Y:=by simp[elems]
theorem iE(X:List bM)(m:bM):elems (X++[m])=elems X+m.num:=by simp[elems]
theorem nY:∀(X:List bM),(∀m∈X,0<=m.size/\m.size<=64)->(X.length:Int)<=elems X/\elems X<=64*X.length
 | [],_=>by simp[elems]
 | m::X,h=>by
  have ac:=h m (by simp);have ap:=nY X (λm hm=>h m (by simp[hm]));rw[pR];simp only[LZ];have:=m.oZ;unfold bM.num at *;omega
theorem mr.take{X:List bM}(h:mr X)(k:Nat):mr (X.take k):=
 ⟨by have:=h.1;simp;omega,λm hm=>h.2 m (List.mem_of_mem_take hm)⟩
variable{X:List bM}
theorem mr.bound(h:mr X):0<=elems X/\elems X<=4096:=by
 have:=nY X h.2;have:=h.1;omega
theorem mr.mz(h:mr X)(k:Nat):0<=elems (X.take k)/\elems (X.take k)<=4096:=(h.take k).bound
variable{m:bM}
theorem mr.at_(h:mr X)(hm:X[k]?=some m):0<=m.size/\m.size<=64:=h.2 m (LN hm)
theorem q8(X:List bM)(k:Nat):elems (X.take k)<=elems X:=by
 have h:=yJ (X.take k) (X.drop k);rw[List.take_append_drop] at h;have:∀Y:List bM,0<=elems Y:=λY=>by
  induction Y with
  | nil=>simp[elems]
  | cons m Y Z=>rw[pR];have:=m.oZ;omega
 have:=this (X.drop k);omega
def iP(X:List bM)(k:Nat):List Int:=(X.take k).zipIdx.flatMap λp=>List.replicate p.1.qk (p.2:Int)
def own(X:List bM):List Int:=iP X X.length
theorem qo(X:List bM):iP X 0=[]:=by simp[iP]
theorem j9(h:X[k]?=some m):iP X (k+1)=iP X k++List.replicate m.qk (k:Int):=by
 have aj:k<X.length:=(List.getElem?_eq_some_iff.1 h).1;unfold iP;rw[aY h,List.zipIdx_append,List.flatMap_append];congr 1
 simp[Nat.min_eq_left (Nat.le_of_lt aj)]
theorem gC(X:List bM):∀k,k<=X.length->((iP X k).length:Int)=elems (X.take k)
 | 0,_=>by simp[qo,elems]
 | k+1,h=>by
  have hm:X[k]?=some (X[k]'ad):=List.getElem?_eq_getElem _;rw[j9 hm,aY hm,iE,LM,List.length_replicate,Int.natCast_add,gC X k ad,bM.tb]
theorem dU(X:List bM):((own X).length:Int)=elems X:=by
 rw[own,gC X _ (LK _),List.take_length]
theorem cm(h:mr X):(own X).length<=4096:=by
 have:=dU X;have:=h.bound;omega
theorem mR(X:List bM)(k:Nat):∀d,k+d<=X.length->∃s,iP X (k+d)=iP X k++s
 | 0,_=>⟨[],by simp⟩
 | d+1,h=>by
  obtain⟨s,hs⟩:=mR X k d ad;have hm:X[k+d]?=some (X[k+d]'ad):=List.getElem?_eq_getElem _;exact⟨s++List.replicate (X[k+d]'ad).qk ((k+d:Nat):Int),by rw[show k+(d+1)=(k+d)+1 from rfl,j9 hm,hs,L3]⟩
theorem wT(h:X[k]?=some m){e:Nat}(ac:elems (X.take k)<=e)(ap:(e:Int)<elems (X.take k)+m.num):(own X)[e]?=some (k:Int):=by
 have aj:k<X.length:=(List.getElem?_eq_some_iff.1 h).1;obtain⟨s,hs⟩:=mR X (k+1) (X.length - (k+1)) ad;rw[own,show X.length=k+1+(X.length - (k+1)) from by omega,hs,j9 h];have hl:=gC X k ad;have hn:=m.tb;rw[L3,List.getElem?_append_right ad,List.getElem?_append_left (by rw[List.length_replicate];omega),List.getElem?_replicate,if_pos ad]
def a9(X:List bM)(e:Int):Int:=if e<0 then -1 else ((own X)[e.toNat]?).getD (-1)
theorem jc(h:e<0):a9 X e = -1:=if_pos h
theorem kP(h:X[k]?=some m)(h0:0<=e)(ac:elems (X.take k)<=e)(ap:e<elems (X.take k)+m.num):a9 X e=k:=by
 unfold a9;rw[if_neg ad,wT h (e:=e.toNat) ad ad];rfl
theorem jd(h:elems X<=e):a9 X e = -1:=by
 unfold a9;split
 .rfl
 .rw[List.getElem?_eq_none (ay (dU X))];rfl
theorem mS(X:List bM):∀(k:Nat),k<=X.length->∀e:Int,0<=e->e<elems (X.take k)->∃i m,i<k/\X[i]?=some m/\elems (X.take i)<=e/\e<elems (X.take i)+m.num
 | 0,_,e,h0,h=>by simp[elems] at h;omega
 | k+1,aj,e,h0,h=>by
  have hm:X[k]?=some (X[k]'ad):=List.getElem?_eq_getElem _;by_cases an:e<elems (X.take k)
  .obtain⟨i,m,aX,hx,ac,ap⟩:=mS X k ad e h0 an;exact⟨i,m,ad,hx,ac,ap⟩
  .refine⟨k,_,ad,hm,ad,?_⟩;rw[aY hm,iE] at h;exact h
theorem mN(h:0<=a9 X e):∃i m,a9 X e=(i:Nat)/\X[i]?=some m/\0<=e/\elems (X.take i)<=e/\e<elems (X.take i)+m.num:=by
 have h0:0<=e:=by
  rcases Int.lt_or_le e 0 with E|E
  .rw[jc E] at h;omega
  .exact E
 have an:e<elems X:=by
  rcases Int.lt_or_le e (elems X) with E|E
  .exact E
  .rw[jd E] at h;omega
 obtain⟨i,m,_,hm,ac,ap⟩:=mS X X.length (LK _) e h0 (by rwa [List.take_length]);exact⟨i,m,kP hm h0 ac ap,hm,h0,ac,ap⟩
theorem ma(h0:0<=e)(h:e<elems X):0<=a9 X e:=by
 obtain⟨i,m,_,hm,ac,ap⟩:=mS X X.length (LK _) e h0 (by rwa [List.take_length]);rw[kP hm h0 ac ap];omega
theorem eC:0<=a9 X e↔0<=e/\e<elems X:=by
 constructor
 .intro h;refine⟨?_,?_⟩
  .rcases Int.lt_or_le e 0 with E|E
   .rw[jc E] at h;omega
   .exact E
  .rcases Int.lt_or_le e (elems X) with E|E
   .exact E
   .rw[jd E] at h;omega
 .exact λh=>ma h.1 h.2
def e5(X:List bM)(m:Int):Int:=if m<0\/(X.length:Int)<=m then -1 else elems (X.take m.toNat)
theorem lZ{m:Int}(h:m<0\/(X.length:Int)<=m):e5 X m = -1:=if_pos h
theorem np(h:k<X.length):e5 X k=elems (X.take k):=by
 unfold e5;rw[if_neg ad];rfl
theorem rV(aj:k<X.length):(own X)[(elems (X.take k)).toNat]?=some (k:Int):=by
 have hm:X[k]?=some (X[k]'aj):=List.getElem?_eq_getElem _;have h0:0<=elems (X.take k):=by have:=gC X k ad;omega
 exact wT hm ad (by have:=(X[k]'aj).oZ;omega)
theorem Gz{e:Nat}{v:Int}(h:(own X)[e]?=some v):∃k m,v=(k:Nat)/\X[k]?=some m/\elems (X.take k)<=e/\(e:Int)<elems (X.take k)+m.num:=by
 have hl:=dU X;have he:=(List.getElem?_eq_some_iff.1 h).1;obtain⟨i,m,_,hm,ac,ap⟩:=mS X X.length (LK _) e ad (by rw[List.take_length];omega);have:=wT hm ac ap;rw[h] at this;injection this with this;exact⟨i,m,this,hm,ac,ap⟩
structure e4 where
 name:ByteArray
 idx:Option VE
inductive dt where
 | mx (r:e4)
 | ex (e:VE)
inductive ao where
 | nil
 | set (isVar:Bool) (n:ByteArray) (e:VE) (rest:ao)
 | call (a:Bool) (n:ByteArray) (args:List dt) (rest:ao)
 | lock (un:Bool) (r:e4) (rest:ao)
 | ite (e:VE) (th el rest:ao)
 | gI (e:VE) (th rest:ao)
 | ret (rest:ao)
structure aL where
 name:ByteArray
 params:List (ByteArray×Bool)
 body:ao
structure bQ where
 globals:List (ByteArray×Int)
 af:List bM
 funcs:List aL
structure bU where
 param:Bool
 index:Int
 at_:Option VE
structure aC where
 op:Int
 target:Int
 dv:Bool
 expr:Option VE
 place:bU
 ints:List VE
 places:List bU
structure cM where
 name:ByteArray
 ints:Int
 an:Int
 locals:Int
 code:List aC
structure aA where
 globals:List Int
 af:List bM
 procs:List cM
 main:Int
structure al where
 proc:Int
 pc:Int
 ints:List Int
 an:List Int
structure ak where
 globals:List Int
 table:List cx
 threads:List (List al)
 fault:Int
def pj(c:UInt8):Bool:=c == 32 || c == 9 || c == 10 || c == 13
def bZ(c:UInt8):Bool:=(decide (97<=c.toNat) && decide (c.toNat<=122)) || (decide (65<=c.toNat) && decide (c.toNat<=90)) || decide (c.toNat=95)
def bB(c:UInt8):Bool:=decide (48<=c.toNat) && decide (c.toNat<=57)
def ck(c:UInt8):Bool:=bZ c || bB c
def tB:List (List UInt8):=[[118,97,114],[109,117,116,101,120],[114,109,117,116,101,120],[102,117,110,99],[108,111,99,107],[117,110,108,111,99,107],[103,111],[105,102],[101,108,115,101],[119,104,105,108,101],[114,101,116,117,114,110]]
def dA(s:List UInt8):Bool:=decide (s∈tB)
def bD(s:List UInt8):Bool:=(match s with|[]=>false|c::l=>bZ c && l.all ck) && decide (s.length<=16) && !dA s
def fE:List (List UInt8):=[[60,61],[62,61],[61,61],[33,61],[38,38],[124,124]]
def eX:List (List UInt8):=[[40],[41],[123],[125],[91],[93],[44],[59],[61],[43],[45],[42],[47],[37],[60],[62],[33]]
def fi(l:List UInt8):Nat:=if decide (l.take 2∈fE) && decide (2<=l.length) then 2 else if decide (l.take 1∈eX) then 1 else 0
def aT:Bool->List UInt8->List UInt8
 | _,[]=>[]
 | true,c::l=>if c=10 then aT false l else aT true l
 | false,c::l=>if pj c then aT false l else if c=47/\l.head?=some 47 then aT true l else c::l
theorem jO:∀(b:Bool) (l:List UInt8),(aT b l).length<=l.length
 | _,[]=>by unfold aT;simp
 | true,c::l=>by
  unfold aT;split
  .have:=jO false l;simp;omega
  .have:=jO true l;simp;omega
 | false,c::l=>by
  unfold aT;split
  .have:=jO false l;simp;omega
  .split
   .have:=jO true l;simp;omega
   .simp
def iN:Int->List UInt8->Int
 | n,[]=>n
 | n,c::l=>if n > (9223372036854775807 - ((c.toNat:Int) - 48)) / 10 then -1 else iN (10*n+((c.toNat:Int) - 48)) l
def oF(l:List UInt8):Int:=iN 0 l
structure Tok where
 kind:Int
 text:List UInt8
 num:Int
 pos:Int
def fK:Nat->Nat->List UInt8->List Tok->List Tok×Int×Int
 | 0,_,_,_=>([],0,1)
 | f+1,n,l,acc=>
  match aT false l with
  | []=>(acc++[⟨5,[],0,n⟩],n,0)
  | c::r=>
   let at_:Int:=(n:Int) - (r.length+1)
   if bZ c then
    let t:=(c::r).takeWhile ck
    if !dA t && decide (16<t.length) then ([],at_,3)
    else if acc.length=4000 then ([],at_,3)
    else fK f n ((c::r).dropWhile ck) (acc++[⟨if dA t then 3 else 1,t,0,at_⟩])
   else if bB c then
    let t:=(c::r).takeWhile bB
    if oF t<0 then ([],at_,2)
    else if acc.length=4000 then ([],at_,3)
    else fK f n ((c::r).dropWhile bB) (acc++[⟨2,t,oF t,at_⟩])
   else if fi (c::r)=0 then ([],at_,1)
   else if acc.length=4000 then ([],at_,3)
   else fK f n ((c::r).drop (fi (c::r))) (acc++[⟨4,(c::r).take (fi (c::r)),0,at_⟩])
def dE(l:List UInt8):List Tok×Int×Int:=if 262144<l.length then ([],262144,3) else fK (l.length+1) l.length l []
inductive Atom where
 | ws (c:UInt8)
 | word (s:List UInt8)
 | num (s:List UInt8)
 | sg (s:List UInt8)
def Atom.bytes:Atom->List UInt8
 | .ws c=>[c]
 | .word s=>s
 | .num s=>s
 | .sg s=>s
def Atom.gk:Atom->Prop
 | .ws c=>pj c=true
 | .word s=>(∃c l,s=c::l/\bZ c=true/\l.all ck=true)/\(dA s=true\/s.length<=16)
 | .num s=>(∃c l,s=c::l)/\s.all bB=true/\0<=oF s
 | .sg s=>s∈fE\/s∈eX
def Atom.kB:Atom->Bool
 | .word _=>true
 | .num _=>true
 | _=>false
def Atom.head:Atom->Option UInt8
 | .ws c=>some c
 | .word s=>s.head?
 | .num s=>s.head?
 | .sg s=>s.head?
def Atom.fits(a b:Atom):Prop:=
 (a.kB=true->b.kB=false)/\∀s,a=.sg s->s∈eX->∀c,b.head=some c->(s++[c])∉fE/\¬(s=[47]/\c=47)
def Atom.count:List Atom->Nat
 | []=>0
 | .ws _::l=>Atom.count l
 | _::l=>Atom.count l+1
def Atom.chain:List Atom->Prop
 | []=>True
 | [a]=>a.gk
 | a::b::l=>a.gk/\a.fits b/\Atom.chain (b::l)
theorem xB(c:UInt8)(h:pj c=true):bZ c=false/\bB c=false:=by
 simp only[pj,Bool.or_eq_true,beq_iff_eq] at h;rcases h with((rfl|rfl)|rfl)|rfl<;>decide
theorem wA(c:UInt8)(h:bZ c=true):pj c=false/\c≠47:=by
 refine⟨?_,?_⟩
 .cases hw:pj c with
  | false=>rfl
  | true=>have:=(xB c hw).1;rw[h] at this;cases this
 .rintro rfl;revert h;decide
theorem yH(c:UInt8)(h:bB c=true):pj c=false/\c≠47/\bZ c=false:=by
 refine⟨?_,?_,?_⟩
 .cases hw:pj c with
  | false=>rfl
  | true=>have:=(xB c hw).2;rw[h] at this;cases this
 .rintro rfl;revert h;decide
 .simp only[bB,LY,Ml] at h;simp only[bZ,Bool.or_eq_false_iff,Bool.and_eq_false_iff,decide_eq_false_iff_not];omega
theorem hi{α:Type}{p:α->Bool}{s r:List α}(h:s.all p=true)(a5:∀c,r.head?=some c->p c=false):(s++r).takeWhile p=s/\(s++r).dropWhile p=r:=by
 induction s with
 | nil=>
  cases r with
  | nil=>simp
  | cons c r=>have:=a5 c rfl;simp[this]
 | cons a s Z=>
  simp only[List.all_cons,LY] at h;have:=Z h.2;simp[h.1,this]
def r9(n:Nat):List Atom->List Tok
 | []=>[⟨5,[],0,n⟩]
 | .ws _::l=>r9 n l
 | .word s::l=>⟨if dA s then 3 else 1,s,0,(n:Int) - ((s++l.flatMap Atom.bytes).length:Int)⟩::r9 n l
 | .num s::l=>⟨2,s,oF s,(n:Int) - ((s++l.flatMap Atom.bytes).length:Int)⟩::r9 n l
 | .sg s::l=>⟨4,s,0,(n:Int) - ((s++l.flatMap Atom.bytes).length:Int)⟩::r9 n l
theorem pO{acc L:List Tok}{k m q p:Int}{t u:List UInt8}{R:List Tok×Int×Int}{n:Int}(h:R=((acc++[⟨k,t,m,p⟩])++L,n,0))(hu:t=u)(hp:p=q):R=(acc++⟨k,u,m,q⟩::L,n,0):=by
 subst hu hp;rw[h,L3];rfl
theorem jI:∀(aW:List Atom) (f n:Nat) (acc:List Tok),Atom.chain aW->(aW.flatMap Atom.bytes).length<f->acc.length+Atom.count aW<=4000->fK f n (aW.flatMap Atom.bytes) acc=(acc++r9 n aW,(n:Int),0)
 | [],f,n,acc,_,J,_=>by
  cases f with
  | zero=>omega
  | succ f=>simp[fK,aT,r9]
 | a::aW,f,n,acc,hc,J,hn=>by
  have aR:a.gk:=by cases aW<;>simp only[Atom.chain] at hc<;>first|exact hc|exact hc.1
  have o:Atom.chain aW:=by
   cases aW with
   | nil=>trivial
   | cons b l=>exact hc.2.2
  have i:∀b l,aW=b::l->a.fits b:=λb l h=>by subst h;exact hc.2.1
  have q:∀c,(aW.flatMap Atom.bytes).head?=some c->∃b l,aW=b::l/\b.head=some c/\b.gk:=by
   intro c h
   cases aW with
   | nil=>simp at h
   | cons b l=>
    have j:b.gk:=by cases l<;>simp only[Atom.chain] at o<;>first|exact o|exact o.1
    refine⟨b,l,rfl,?_,j⟩
    cases b with
    | ws d=>simpa[Atom.bytes,Atom.head] using h
    | word s=>
     obtain⟨⟨d,m,rfl,_⟩,_⟩:=j
     simpa[Atom.bytes,Atom.head] using h
    | num s=>
     obtain⟨⟨d,m,rfl⟩,_⟩:=j
     simpa[Atom.bytes,Atom.head] using h
    | sg s=>
     have:∃d m,s=d::m:=by
      cases s with
      | nil=>rcases j with h|h<;>simp[fE,eX] at h
      | cons d m=>exact⟨d,m,rfl⟩
     obtain⟨d,m,rfl⟩:=this;simpa[Atom.bytes,Atom.head] using h
  have v:∀b:Atom,b.kB=false->b.gk->∀c,b.head=some c->ck c=false:=by
   intro b O j c hc
   cases b with
   | ws d=>
    simp only[Atom.head,Mj] at hc;subst hc;have:=xB d j
    simp[ck,this.1,this.2]
   | word s=>simp[Atom.kB] at O
   | num s=>simp[Atom.kB] at O
   | sg s=>
    have key:∀s∈fE++eX,∀c,s.head?=some c->ck c=false:=by decide
    refine key s ?_ c hc;rcases j with h|h<;>simp[h]
  cases f with
  | zero=>omega
  | succ f=>
   have hl:((a::aW).flatMap Atom.bytes).length=a.bytes.length+(aW.flatMap Atom.bytes).length:=by rw[Mb,LM]
   cases a with
   | ws c=>
    have hw:pj c=true:=aR;have hlen:(aW.flatMap Atom.bytes).length<f+1:=ad;have Z:=jI aW (f+1) n acc o hlen (by simpa[Atom.count] using hn);have hs:aT false (c::aW.flatMap Atom.bytes)=aT false (aW.flatMap Atom.bytes):=by
     rw[aT,if_pos hw]
    simp only[Mb,Atom.bytes,List.singleton_append];unfold fK at Z ⊢;rw[hs]
    exact Z
   | word s=>
    obtain⟨⟨c,l,rfl,bh,G⟩,aj⟩:=aR;have c8:=wA c bh;have u:∀d,(aW.flatMap Atom.bytes).head?=some d->ck d=false:=λd hd=>by
     obtain⟨b,l,has,O,j⟩:=q d hd;exact v b ((i b l has).1 rfl) j d O
    have e:=hi (p:=ck) (s:=c::l) (r:=aW.flatMap Atom.bytes) (by simp[G,ck,bh]) u;simp only[L4] at e;have g:aT false (c::(l++aW.flatMap Atom.bytes))=c::(l++aW.flatMap Atom.bytes):=by
     rw[aT,if_neg (by simp[c8.1]),if_neg (by simp[c8.2])]
    simp only[Atom.count] at hn;have Z:=λt=>jI aW f n (acc++[t]) o (by simp only[Atom.bytes,LZ] at hl;omega) (by simp;omega);simp only[Mb,Atom.bytes,L4];unfold fK;simp only[g,bh,if_true,e.1,e.2];rw[if_neg ?_,if_neg ad]
    .exact pO (Z _) rfl (by simp)
    .rcases aj with h|h
     .simp[h]
     .have ak:¬16<(c::l).length:=ad
      simp only[ak,decide_false,Bool.and_false,Mm,not_false_eq_true]
   | num s=>
    obtain⟨⟨c,l,rfl⟩,hd,bE⟩:=aR;simp only[List.all_cons,LY] at hd;have c8:=yH c hd.1;have u:∀d,(aW.flatMap Atom.bytes).head?=some d->bB d=false:=λd hd=>by
     obtain⟨b,l,has,O,j⟩:=q d hd;have:=v b ((i b l has).1 rfl) j d O;simp only[ck,Bool.or_eq_false_iff] at this;exact this.2
    have e:=hi (p:=bB) (s:=c::l) (r:=aW.flatMap Atom.bytes) (by simp[hd]) u;simp only[L4] at e;have g:aT false (c::(l++aW.flatMap Atom.bytes))=c::(l++aW.flatMap Atom.bytes):=by
     rw[aT,if_neg (by simp[c8.1]),if_neg (by simp[c8.2.1])]
    simp only[Atom.count] at hn;have Z:=λt=>jI aW f n (acc++[t]) o (by simp only[Atom.bytes,LZ] at hl;omega) (by simp;omega);simp only[Mb,Atom.bytes,L4];unfold fK;simp only[g,c8.2.2,Mm,if_false,hd.1,if_true,e.1,e.2];rw[if_neg ad,if_neg ad]
    exact pO (Z _) rfl (by simp)
   | sg s=>
    simp only[Atom.count] at hn;have Z:=λt=>jI aW f n (acc++[t]) o (by
     have:1<=s.length:=by
      cases s with
      | nil=>rcases aR with h|h<;>simp[fE,eX] at h
      | cons d m=>simp
     simp only[Atom.bytes] at hl;omega) (by simp;omega)
    have ap:∀s∈fE,∃c d,s=[c,d]/\pj c=false/\c≠47/\bZ c=false/\bB c=false:=by
     intro s hs;simp only[fE,L5,List.not_mem_nil,or_false] at hs;rcases hs with rfl|rfl|rfl|rfl|rfl|rfl<;>exact⟨_,_,rfl,by decide,by decide,by decide,by decide⟩
    have ac:∀s∈eX,∃c,s=[c]/\pj c=false/\bZ c=false/\bB c=false:=by
     intro s hs;simp only[eX,L5,List.not_mem_nil,or_false] at hs;rcases hs with rfl|rfl|rfl|rfl|rfl|rfl|rfl|rfl|rfl|rfl|rfl|rfl|rfl|rfl|rfl|rfl|rfl<;>exact⟨_,rfl,by decide,by decide,by decide⟩
    by_cases bS:s∈fE
    .obtain⟨c,d,rfl,cx,bY,b9,H⟩:=ap s bS;have g:aT false (c::d::aW.flatMap Atom.bytes)=c::d::aW.flatMap Atom.bytes:=by
      rw[aT,if_neg (by simp[cx]),if_neg (by simp[bY])]
     have k:fi (c::d::aW.flatMap Atom.bytes)=2:=by simp[fi,bS]
     exact zF
    .have cq:s∈eX:=aR.resolve_left bS;obtain⟨c,rfl,cx,b9,H⟩:=ac s cq;have c3:∀d,(aW.flatMap Atom.bytes).head?=some d->[c,d]∉fE/\¬(c=47/\d=47):=λd hd=>by
      obtain⟨b,l,has,O,_⟩:=q d hd;have:=(i b l has).2 [c] rfl cq d O;simpa using this
     have g:aT false (c::aW.flatMap Atom.bytes)=c::aW.flatMap Atom.bytes:=by
      rw[aT,if_neg (by simp[cx]),if_neg ?_];rintro⟨e1,e2⟩;exact(c3 47 e2).2 ⟨e1,rfl⟩
     have k:fi (c::aW.flatMap Atom.bytes)=1:=by
      unfold fi;rw[if_neg ?_,if_pos (decide_eq_true (by simpa using cq))];intro h;simp only[LY,Ml,LZ] at h
      cases a5:aW.flatMap Atom.bytes with
      | nil=>rw[a5] at h;simp at h
      | cons d r=>
       rw[a5] at h;exact(c3 d (by rw[a5];rfl)).1 (by simpa using h.1)
     exact zF
theorem wB(aW:List Atom)(f n:Nat)(acc:List Tok)(h:Atom.chain aW)(J:(aW.flatMap Atom.bytes).length<f)(hn:acc.length+Atom.count aW<=4000):(fK f n (aW.flatMap Atom.bytes) acc).2.2=0:=by
 rw[jI aW f n acc h J hn]
def jz(n:Nat):List UInt8:=if n<10 then [UInt8.ofNat (48+n)] else jz (n / 10)++[UInt8.ofNat (48+n % 10)]
 termination_by n
theorem mB(d:Nat)(h:d<10):(UInt8.ofNat (48+d)).toNat=48+d:=by simp;omega
theorem tR(n:Nat):(jz n).all bB=true/\∃c l,jz n=c::l:=by
 induction n using Nat.strongRecOn with
 | _ n Z=>
  rw[jz];split
  .rename_i h;refine⟨?_,_,_,rfl⟩;simp only[List.all_cons,List.all_nil,Bool.and_true,bB,mB n h,LY,Ml];omega
  .obtain⟨ac,c,l,ap⟩:=Z (n / 10) ad;refine⟨?_,c,l++[UInt8.ofNat (48+n % 10)],by rw[ap];rfl⟩;simp only[List.all_append,ac,List.all_cons,List.all_nil,Bool.and_true,Bool.true_and,bB,mB (n % 10) ad,LY,Ml];omega
theorem rT:∀(bY c7:List UInt8) (n:Int),0<=n->bY.all bB=true->iN n (bY++c7)=if iN n bY<0 then -1 else iN (iN n bY) c7
 | [],c7,n,hn,_=>by
  have h0:iN n []=n:=rfl
  rw[Mh,h0,if_neg ad]
 | c::bY,c7,n,hn,h=>by
  simp only[List.all_cons,LY] at h;have hd:48<=c.toNat:=by have:=h.1;simp only[bB,LY,Ml] at this;exact this.1
  simp only[L4,iN];split
  .simp
  .exact rT bY c7 _ ad h.2
theorem y4(n:Nat)(h:n<=9223372036854775807):oF (jz n)=n:=by
 unfold oF
 induction n using Nat.strongRecOn with
 | _ n Z=>
  rw[jz];split
  .rename_i h;simp only[iN,mB n h];rw[if_neg ad];omega
  .have i:=Z (n / 10) ad ad;rw[rT _ _ _ ad (tR _).1,i,if_neg ad];simp only[iN,mB (n % 10) ad];rw[if_neg ad];omega
def Atom.last(aW:List Atom):Option Atom:=aW.getLast?
theorem eF:∀(aW f:List Atom),Atom.chain aW->Atom.chain f->(∀a b,aW.getLast?=some a->f.head?=some b->a.fits b)->Atom.chain (aW++f)
 | [],f,_,O,_=>O
 | [a],[],aZ,_,_=>aZ
 | [a],b::f,aZ,O,J=>⟨aZ,J a b rfl rfl,O⟩
 | a::r::aW,f,aZ,O,J=>by
  have Z:=eF (r::aW) f aZ.2.2 O (λx y hx bb=>J x y (by rw[List.getLast?_cons_cons];exact hx) bb);exact⟨aZ.1,aZ.2.1,Z⟩
theorem count_append:∀(aW f:List Atom),Atom.count (aW++f)=Atom.count aW+Atom.count f
 | [],f=>by simp[Atom.count]
 | a::aW,f=>by
  have Z:=count_append aW f;cases a<;>simp only[L4,Atom.count,Z]<;>omega
def aV(aW:List Atom):List UInt8:=aW.flatMap Atom.bytes
theorem bh(aW f:List Atom):aV (aW++f)=aV aW++aV f:=List.flatMap_append
theorem a5(a:Atom)(f:List Atom):aV (a::f)=a.bytes++aV f:=Mb
theorem pk(c:UInt8)(b:Atom):(Atom.ws c).fits b:=⟨λh=>by simp[Atom.kB] at h,λs h=>by cases h⟩
theorem oU(a:Atom)(c:UInt8)(h:pj c=true):a.fits (.ws c):=by
 refine⟨λ_=>rfl,λs _ _ d hd=>?_⟩;simp only[Atom.head,Mj] at hd;subst hd;have key:∀s∈eX,∀d:UInt8,(d=32\/d=9\/d=10\/d=13)->(s++[d])∉fE/\¬(s=[47]/\d=47):=by
  intro s hs d hd;rcases hd with rfl|rfl|rfl|rfl<;>revert s<;>decide
 refine key s (by assumption) c ?_;simp only[pj,Bool.or_eq_true,beq_iff_eq] at h;rcases h with((h|h)|h)|h<;>simp[h]
theorem xS(a b:Atom)(aZ:a.kB=true)(O:b.kB=false):a.fits b:=⟨λ_=>O,λs h=>by subst h;simp[Atom.kB] at aZ⟩
def tr(a:Atom):Prop:=a.kB=true/\a.gk\/a=.sg [45]\/a=.sg [33]\/a=.sg [40]
def HL(a:Atom):Prop:=a.kB=true\/a=.sg [41]\/a=.sg [93]
theorem Gk(a:Atom)(h:a.kB=true)(aR:a.gk)(c:UInt8)(hc:a.head=some c):ck c=true:=by
 cases a with
 | ws _=>simp[Atom.kB] at h
 | sg _=>simp[Atom.kB] at h
 | word s=>
  obtain⟨⟨d,l,rfl,ac,_⟩,_⟩:=aR;simp only[Atom.head,List.head?_cons,Mj] at hc;subst hc
  simp[ck,ac]
 | num s=>
  obtain⟨⟨d,l,rfl⟩,ac,_⟩:=aR;simp only[Atom.head,List.head?_cons,Mj] at hc;subst hc;simp only[List.all_cons,LY] at ac;simp[ck,ac.1]
theorem nK(s:List UInt8)(hs:s=[45]\/s=[33]\/s=[40]\/s=[91])(b:Atom)(O:tr b):(Atom.sg s).fits b:=by
 refine⟨λh=>by simp[Atom.kB] at h,λt ht _ c hc=>?_⟩;injection ht with ht;subst ht;have a4:ck c=true\/c=45\/c=33\/c=40:=by
  rcases O with⟨ac,ap⟩|rfl|rfl|rfl
  .exact .inl (Gk b ac ap c hc)
  all_goals simp[Atom.head] at hc;subst hc;simp
 have bi:c≠61/\c≠38/\c≠124/\c≠47:=by
  rcases a4 with h|rfl|rfl|rfl
  .refine⟨?_,?_,?_,?_⟩<;>(rintro rfl;revert h;decide)
  all_goals decide
 rcases hs with rfl|rfl|rfl|rfl<;>simp[fE,bi]
theorem oS(a:Atom)(aZ:HL a)(s:List UInt8)(hs:s=[41]\/s=[93]\/s=[59]\/s=[44]):a.fits (.sg s):=by
 rcases aZ with h|rfl|rfl
 .exact xS _ _ h rfl
 all_goals
  refine⟨λh=>by simp[Atom.kB] at h,λt ht _ c hc=>?_⟩;injection ht with ht;subst ht;rcases hs with rfl|rfl|rfl|rfl<;>(simp[Atom.head] at hc;subst hc;decide)
end Go.Proofs.YtpkfopfkdgkfkaaGreat

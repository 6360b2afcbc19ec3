/- Part 2 of the proof. No condition of its own. -/
import Derived.Test.YtflecliffjbleaaGreatS01
namespace Go.Proofs.YtflecliffjbleaaGreat
open Go.RowKit Go.Proofs.Tryz
set_option maxRecDepth 1000000
set_option maxHeartbeats 25600000
set_option linter.unusedVariables false
variable{b:Bool}{e x:Int}{xs:List Value}{B base c k n sz:Nat}{A:Mk}{p:Prop}{ab w:World}
inductive VE where
 | num (n:Int)
 | ha (s:ByteArray)
 | loc (k:Int)
 | iK (k:Int)
 | un (op:Int) (x:VE)
 | bin (op:Int) (x y:VE)
def VE.rep(w:World)(P:Nat->Prop):VE->List Value->Prop
 | .num n=>λcs=>∃nm A c,cs=[.int .i64 1,.int .i64 n,.string nm,.slice A 0 c]
 | .ha s=>λcs=>∃n A c,cs=[.int .i64 2,.int .i64 n,.string s,.slice A 0 c]
 | .loc k=>λcs=>∃nm A c,cs=[.int .i64 18,.int .i64 k,.string nm,.slice A 0 c]
 | .iK k=>λcs=>∃nm A c,cs=[.int .i64 19,.int .i64 k,.string nm,.slice A 0 c]
 | .un op x=>λcs=>∃n nm b o c bU Z bm E,cs=[.int .i64 op,.int .i64 n,.string nm,.slice (some ⟨b,o,none⟩) 1 c]/\P b/\x.rep w P [bU,Z,bm,E]/\
   w.cell? ⟨b,o,none⟩=some bU/\w.cell? ⟨b,o+1,none⟩=some Z/\w.cell? ⟨b,o+2,none⟩=some bm/\w.cell? ⟨b,o+3,none⟩=some E
 | .bin op x y=>λcs=>∃n nm b o c bU Z bm E b1 cn cm bv,cs=[.int .i64 op,.int .i64 n,.string nm,.slice (some ⟨b,o,none⟩) 2 c]/\P b/\x.rep w P [bU,Z,bm,E]/\y.rep w P [b1,cn,cm,bv]/\
   w.cell? ⟨b,o,none⟩=some bU/\w.cell? ⟨b,o+1,none⟩=some Z/\w.cell? ⟨b,o+2,none⟩=some bm/\w.cell? ⟨b,o+3,none⟩=some E/\
   w.cell? ⟨b,o+4,none⟩=some b1/\w.cell? ⟨b,o+5,none⟩=some cn/\w.cell? ⟨b,o+6,none⟩=some cm/\w.cell? ⟨b,o+7,none⟩=some bv
theorem VE.aP{w ab:World}{P:Nat->Prop}(aj:∀b,P b->ab.heap[b]?=w.heap[b]?):∀(e:VE) (cs:List Value),e.rep w P cs->e.rep ab P cs
 | .num _,_,h=>h
 | .ha _,_,h=>h
 | .loc _,_,h=>h
 | .iK _,_,h=>h
 | .un op x,cs,h=>by
  obtain⟨n,nm,b,o,c,bU,Z,bm,E,T,O,hx,c0,c1,c2,c3⟩:=h;have hc:∀j,ab.cell? ⟨b,j,none⟩=w.cell? ⟨b,j,none⟩:=λj=>World.cell?_of_block (w:=w) (aj b O)
  exact⟨n,nm,b,o,c,bU,Z,bm,E,T,O,VE.aP aj x _ hx,(hc _).trans c0,(hc _).trans c1,(hc _).trans c2,(hc _).trans c3⟩
 | .bin op x y,cs,h=>by
  obtain⟨n,nm,b,o,c,bU,Z,bm,E,b1,cn,cm,bv,T,O,hx,bb,c0,c1,c2,c3,d0,d1,d2,d3⟩:=h;have hc:∀j,ab.cell? ⟨b,j,none⟩=w.cell? ⟨b,j,none⟩:=λj=>World.cell?_of_block (w:=w) (aj b O);exact⟨n,nm,b,o,c,bU,Z,bm,E,b1,cn,cm,bv,T,O,VE.aP aj x _ hx,VE.aP aj y _ bb,(hc _).trans c0,(hc _).trans c1,(hc _).trans c2,(hc _).trans c3,(hc _).trans d0,(hc _).trans d1,(hc _).trans d2,(hc _).trans d3⟩
theorem VE.aK{w:World}{P cW:Nat->Prop}(hp:∀b,P b->cW b):∀(e:VE) (cs:List Value),e.rep w P cs->e.rep w cW cs
 | .num _,_,h=>h
 | .ha _,_,h=>h
 | .loc _,_,h=>h
 | .iK _,_,h=>h
 | .un op x,cs,h=>by
  obtain⟨n,nm,b,o,c,bU,Z,bm,E,T,O,hx,hc⟩:=h
  exact⟨n,nm,b,o,c,bU,Z,bm,E,T,hp b O,VE.aK hp x _ hx,hc⟩
 | .bin op x y,cs,h=>by
  obtain⟨n,nm,b,o,c,bU,Z,bm,E,b1,cn,cm,bv,T,O,hx,bb,hc⟩:=h;exact⟨n,nm,b,o,c,bU,Z,bm,E,b1,cn,cm,bv,T,hp b O,VE.aK hp x _ hx,VE.aK hp y _ bb,hc⟩
abbrev VE.at_(w:World)(e:VE)(cs:List Value):Prop:=e.rep w (·<w.heap.size) cs
theorem VE.Jf{e:VE}{cs:List Value}(h:e.at_ w cs)(O:Below w.heap.size w ab):e.at_ ab cs:=
 VE.aK (λ_ ap=>LC ap O.size) _ _ (VE.aP (λb ap=>O.block b ap) _ _ h)
def VE.ok(ng nl:Nat):VE->Prop
 | .num _=>True
 | .ha _=>False
 | .loc k=>0<=k/\k<nl
 | .iK k=>0<=k/\k<ng
 | .un op x=>(op=3\/op=4)/\x.ok ng nl
 | .bin op x y=>(5<=op/\op<=17)/\x.ok ng nl/\y.ok ng nl
def fy(b:Bool):Int:=if b then 1 else 0
def arith(op a b:Int):Int×Int:=
 if op=5 then (wrap64 (a*b),0) else if op=8 then (wrap64 (a+b),0) else if op=9 then (wrap64 (a - b),0)
 else if op=6 then (if b=0 then (0,1) else (wrap64 (a.tdiv b),0))
 else if op=7 then (if b=0 then (0,1) else (a.tmod b,0))
 else if op=10 then (fy (decide (a<b)),0) else if op=11 then (fy (decide (a<=b)),0)
 else if op=12 then (fy (decide (b<a)),0) else if op=13 then (fy (decide (b<=a)),0)
 else if op=14 then (fy (a == b),0) else if op=15 then (fy (a != b),0) else (0,0)
def ev(g l:List Int):VE->Int×Int
 | .num n=>(n,0)
 | .ha _=>(0,0)
 | .loc k=>(l.getD k.toNat 0,0)
 | .iK k=>(g.getD k.toNat 0,0)
 | .un op x=>if (ev g l x).2≠0 then (0,(ev g l x).2) else if op=3 then (wrap64 (-(ev g l x).1),0) else (fy ((ev g l x).1 == 0),0)
 | .bin op x y=>
  if (ev g l x).2≠0 then (0,(ev g l x).2)
  else if op=16/\(ev g l x).1=0 then (0,0)
  else if op=17/\(ev g l x).1≠0 then (1,0)
  else if (ev g l y).2≠0 then (0,(ev g l y).2)
  else if op=16\/op=17 then (fy ((ev g l y).1 != 0),0)
  else arith op (ev g l x).1 (ev g l y).1
structure bL where
 name:ByteArray
 re:Bool
 size:Int
structure dc where
 owner:Int
 depth:Int
 deriving DecidableEq
def hk(m:bL):List Value:=[.string m.name,.bool m.re,.int .i64 m.size]
def cb(h:dc):List Value:=[.int .i64 h.owner,.int .i64 h.depth]
def bL.num(m:bL):Int:=max m.size 1
def bL.qB(m:bL):Nat:=(max m.size 1).toNat
theorem bL.pr(m:bL):1<=m.num:=by unfold bL.num;omega
theorem bL.tm(m:bL):(m.qB:Int)=m.num:=by unfold bL.num bL.qB;omega
def oY(X:List bL):Prop:=X.length<=64/\∀m∈X,0<=m.size/\m.size<=64
def elems(X:List bL):Int:=(X.map bL.num).sum
theorem p9(m:bL)(X:List bL):elems (m::X)=m.num+elems X:=by simp[elems]
theorem yU(X Y:List bL):elems (X++Y)=elems X+elems Y:=by simp[elems]
theorem iG(X:List bL)(m:bL):elems (X++[m])=elems X+m.num:=by simp[elems]
theorem oq:∀(X:List bL),(∀m∈X,0<=m.size/\m.size<=64)->(X.length:Int)<=elems X/\elems X<=64*X.length
 | [],_=>by simp[elems]
 | m::X,h=>by
  have ac:=h m (by simp);have ax:=oq X (λm hm=>h m (by simp[hm]));rw[p9];simp only[LP];have:=m.pr;unfold bL.num at *;omega
theorem oY.take{X:List bL}(h:oY X)(k:Nat):oY (X.take k):=
 ⟨by have:=h.1;simp;omega,λm hm=>h.2 m (List.mem_of_mem_take hm)⟩
variable{X:List bL}
theorem oY.bound(h:oY X):0<=elems X/\elems X<=4096:=by
 have:=oq X h.2;have:=h.1;omega
theorem oY.mL(h:oY X)(k:Nat):0<=elems (X.take k)/\elems (X.take k)<=4096:=(h.take k).bound
variable{m:bL}
theorem oY.at_(h:oY X)(hm:X[k]?=some m):0<=m.size/\m.size<=64:=h.2 m (LF hm)
theorem rq(X:List bL)(k:Nat):elems (X.take k)<=elems X:=by
 have h:=yU (X.take k) (X.drop k);rw[List.take_append_drop] at h;have:∀Y:List bL,0<=elems Y:=λY=>by
  induction Y with
  | nil=>simp[elems]
  | cons m Y aq=>rw[p9];have:=m.pr;omega
 have:=this (X.drop k);omega
def iQ(X:List bL)(k:Nat):List Int:=(X.take k).zipIdx.flatMap λp=>List.replicate p.1.qB (p.2:Int)
def own(X:List bL):List Int:=iQ X X.length
theorem qF(X:List bL):iQ X 0=[]:=by simp[iQ]
theorem kb(h:X[k]?=some m):iQ X (k+1)=iQ X k++List.replicate m.qB (k:Int):=by
 have aj:k<X.length:=(List.getElem?_eq_some_iff.1 h).1;unfold iQ;rw[aU h,List.zipIdx_append,List.flatMap_append];congr 1
 simp[Nat.min_eq_left (Nat.le_of_lt aj)]
theorem gB(X:List bL):∀k,k<=X.length->((iQ X k).length:Int)=elems (X.take k)
 | 0,_=>by simp[qF,elems]
 | k+1,h=>by
  have hm:X[k]?=some (X[k]'ad):=List.getElem?_eq_getElem _;rw[kb hm,aU hm,iG,LD,List.length_replicate,Int.natCast_add,gB X k ad,bL.tm]
theorem ff(X:List bL):((own X).length:Int)=elems X:=by
 rw[own,gB X _ (Lz _),List.take_length]
theorem dt(h:oY X):(own X).length<=4096:=by
 have:=ff X;have:=h.bound;omega
theorem m1(X:List bL)(k:Nat):∀d,k+d<=X.length->∃s,iQ X (k+d)=iQ X k++s
 | 0,_=>⟨[],by simp⟩
 | d+1,h=>by
  obtain⟨s,hs⟩:=m1 X k d ad;have hm:X[k+d]?=some (X[k+d]'ad):=List.getElem?_eq_getElem _;exact⟨s++List.replicate (X[k+d]'ad).qB ((k+d:Nat):Int),by rw[show k+(d+1)=(k+d)+1 from rfl,kb hm,hs,LQ]⟩
theorem wT(h:X[k]?=some m){e:Nat}(ac:elems (X.take k)<=e)(ax:(e:Int)<elems (X.take k)+m.num):(own X)[e]?=some (k:Int):=by
 have aj:k<X.length:=(List.getElem?_eq_some_iff.1 h).1;obtain⟨s,hs⟩:=m1 X (k+1) (X.length - (k+1)) ad;rw[own,show X.length=k+1+(X.length - (k+1)) from by omega,hs,kb h];have hl:=gB X k ad;have hn:=m.tm;rw[LQ,List.getElem?_append_right ad,List.getElem?_append_left (by rw[List.length_replicate];omega),List.getElem?_replicate,if_pos ad]
def bD(X:List bL)(e:Int):Int:=if e<0 then -1 else ((own X)[e.toNat]?).getD (-1)
theorem ji(h:e<0):bD X e = -1:=if_pos h
theorem kU(h:X[k]?=some m)(h0:0<=e)(ac:elems (X.take k)<=e)(ax:e<elems (X.take k)+m.num):bD X e=k:=by
 unfold bD;rw[if_neg ad,wT h (e:=e.toNat) ad ad];rfl
theorem jj(h:elems X<=e):bD X e = -1:=by
 unfold bD;split
 .rfl
 .rw[List.getElem?_eq_none (aB (ff X))];rfl
theorem m2(X:List bL):∀(k:Nat),k<=X.length->∀e:Int,0<=e->e<elems (X.take k)->∃i m,i<k/\X[i]?=some m/\elems (X.take i)<=e/\e<elems (X.take i)+m.num
 | 0,_,e,h0,h=>by simp[elems] at h;omega
 | k+1,aj,e,h0,h=>by
  have hm:X[k]?=some (X[k]'ad):=List.getElem?_eq_getElem _;by_cases ap:e<elems (X.take k)
  .obtain⟨i,m,al,hx,ac,ax⟩:=m2 X k ad e h0 ap;exact⟨i,m,ad,hx,ac,ax⟩
  .refine⟨k,_,ad,hm,ad,?_⟩;rw[aU hm,iG] at h;exact h
theorem ti(h:0<=bD X e):∃i m,bD X e=(i:Nat)/\X[i]?=some m/\0<=e/\elems (X.take i)<=e/\e<elems (X.take i)+m.num:=by
 have h0:0<=e:=by
  rcases Int.lt_or_le e 0 with q|q
  .rw[ji q] at h;omega
  .exact q
 have ap:e<elems X:=by
  rcases Int.lt_or_le e (elems X) with q|q
  .exact q
  .rw[jj q] at h;omega
 obtain⟨i,m,_,hm,ac,ax⟩:=m2 X X.length (Lz _) e h0 (by rwa [List.take_length]);exact⟨i,m,kU hm h0 ac ax,hm,h0,ac,ax⟩
theorem qy(h0:0<=e)(h:e<elems X):0<=bD X e:=by
 obtain⟨i,m,_,hm,ac,ax⟩:=m2 X X.length (Lz _) e h0 (by rwa [List.take_length]);rw[kU hm h0 ac ax];omega
theorem gf:0<=bD X e↔0<=e/\e<elems X:=by
 constructor
 .intro h;refine⟨?_,?_⟩
  .rcases Int.lt_or_le e 0 with q|q
   .rw[ji q] at h;omega
   .exact q
  .rcases Int.lt_or_le e (elems X) with q|q
   .exact q
   .rw[jj q] at h;omega
 .exact λh=>qy h.1 h.2
def e4(X:List bL)(m:Int):Int:=if m<0\/(X.length:Int)<=m then -1 else elems (X.take m.toNat)
theorem ma{m:Int}(h:m<0\/(X.length:Int)<=m):e4 X m = -1:=if_pos h
theorem nD(h:k<X.length):e4 X k=elems (X.take k):=by
 unfold e4;rw[if_neg ad];rfl
theorem r9(aj:k<X.length):(own X)[(elems (X.take k)).toNat]?=some (k:Int):=by
 have hm:X[k]?=some (X[k]'aj):=List.getElem?_eq_getElem _;have h0:0<=elems (X.take k):=by have:=gB X k ad;omega
 exact wT hm ad (by have:=(X[k]'aj).pr;omega)
theorem Gd{e:Nat}{v:Int}(h:(own X)[e]?=some v):∃k m,v=(k:Nat)/\X[k]?=some m/\elems (X.take k)<=e/\(e:Int)<elems (X.take k)+m.num:=by
 have hl:=ff X;have he:=(List.getElem?_eq_some_iff.1 h).1;obtain⟨i,m,_,hm,ac,ax⟩:=m2 X X.length (Lz _) e ad (by rw[List.take_length];omega);have:=wT hm ac ax;rw[h] at this;injection this with this;exact⟨i,m,this,hm,ac,ax⟩
section
attribute [local go_sem ↓] gC gD
def within(x n:Int):Int:=x % n
theorem zB{n:Int}(h:0<n):(x.tmod n+n).tmod n=within x n:=by
 unfold within;have ac:=Int.emod_nonneg x (show n≠0 by omega);have ax:=Int.emod_lt_of_pos x h;have key:∀y:Int,0<=y->y.tmod n=y % n:=λy bb=>Int.tmod_eq_emod_of_nonneg bb;rcases Int.lt_or_le x 0 with hx|hx
 .have e1:x.tmod n = -((-x) % n):=by
   have:=key (-x) ad;rw[Int.neg_tmod] at this;omega
  have a1:=Int.emod_nonneg (-x) (show n≠0 by omega);have aU:=Int.emod_lt_of_pos (-x) h;rw[e1,key _ ad];rw[Int.add_emod_right];have cy:(-((-x) % n)) % n=x % n:=by
   have bQ:-((-x) % n)=x+n*((-x) / n):=by
    have:=Int.emod_add_mul_ediv (-x) n;omega
   rw[bQ,Int.add_mul_emod_self_left]
  exact cy
 .rw[key x hx,key _ ad,Int.add_emod_right,Int.emod_emod_of_dvd _ (Int.dvd_refl n)]
theorem tL{n:Int}(h:0<n):0<=within x n/\within x n<n:=⟨Int.emod_nonneg x ad,Int.emod_lt_of_pos x h⟩
theorem cA.JN{l:List bL}(h:cA (EF hk) 3 w B A n l)(aj:k<n):
  ∃b o m,A=some ⟨b,o,none⟩/\b<B/\l[k]?=some m/\w.cell? ⟨b,o+k*3,none⟩=some (.string m.name)/\w.cell? ⟨b,o+k*3+1,none⟩=some (.bool m.re)/\w.cell? ⟨b,o+k*3+2,none⟩=some (.int .i64 m.size):=by
 obtain⟨b,o,m,bO,O,hm,_,hc⟩:=h.Je aj;exact⟨b,o,m,bO,O,hm,hc 0 _ rfl,hc 1 _ rfl,hc 2 _ rfl⟩
theorem cA.hold{l:List dc}(h:cA (EF cb) 2 w B A n l)(aj:k<n):
  ∃b o m,A=some ⟨b,o,none⟩/\b<B/\l[k]?=some m/\w.cell? ⟨b,o+k*2,none⟩=some (.int .i64 m.owner)/\w.cell? ⟨b,o+k*2+1,none⟩=some (.int .i64 m.depth):=by
 obtain⟨b,o,m,bO,O,hm,_,hc⟩:=h.Je aj;exact⟨b,o,m,bO,O,hm,hc 0 _ rfl,hc 1 _ rfl⟩
theorem Eo(l:List bL):∀x∈l,(hk x).length=3:=λ_ _=>rfl
theorem eI(l:List dc):∀x∈l,(cb x).length=2:=λ_ _=>rfl
theorem EE(l:List bL):∀x∈l,∀u∈hk x,u.oneCell'=true:=λx _ u hu=>by
 simp only[hk,LS,List.not_mem_nil,or_false] at hu;rcases hu with rfl|rfl|rfl<;>rfl
theorem lF(l:List dc):∀x∈l,∀u∈cb x,u.oneCell'=true:=λx _ u hu=>by
 simp only[cb,LS,List.not_mem_nil,or_false] at hu;rcases hu with rfl|rfl<;>rfl
theorem m0(l:List Int):∀x∈l,∀u∈cd x,u.oneCell'=true:=λx _ u hu=>by
 simp only[cd,LS,List.not_mem_nil,or_false] at hu;subst hu;rfl
theorem mH:cm prog 27 95 (.agg #[.int .i64 0,.int .i64 0]) 2 16:=cm.mk' Tryz.underlying27 (by kernel_rfl) rfl ad
theorem l7:cm prog 23 131 (.agg #[.string ⟨#[]⟩,.bool false,.int .i64 0]) 3 32:=cm.mk' Tryz.underlying23 (by kernel_rfl) rfl ad
theorem mE(x n:Int)(hn:0<n)(O:n<=4611686018427387904)(w:World) :
  Calls prog 19 #[.int .i64 x,.int .i64 n] w λe ab=>e=.returned (.int .i64 (within x n))/\w=ab:=by
 have aG:(n == 0)=false:=by simp;omega
 go_enter func19,ntmps19;go_wp2;go_ret;refine⟨ret_int ?_,rfl⟩;have ac:=Int.lt_tmod_of_pos x hn;have ax:=Int.tmod_lt_of_pos x hn;rw[<-zB hn];congr 1
 unfold RowKit.wrap64;omega
theorem s0(A:Mk)(n c:Nat)(X:List bL)(w:World)(h:cA (EF hk) 3 w w.heap.size A n X)(hX:oY X) :
  Calls prog 114 #[.slice A n c] w λe ab=>e=.returned (.int .i64 (elems X))/\Below w.heap.size w ab:=by
 have hl:=h.1;have hn:=hX.1;go_enter func114,ntmps114;go_wp2;go_loopw [3,8] (λs i wr=>∃k:Nat,k<=n/\i=.int .i64 k/\s=.int .i64 (elems (X.take k))/\Below w.heap.size w wr) (λ_ i _=>n - (intOf i).toNat)
 case atStart=>exact⟨0,L3 _,rfl,rfl,Below.refl _ _⟩
 case round=>
  obtain⟨k,aj,rfl,rfl,O⟩:=hrel;by_cases ap:k<n
  .obtain⟨b,o,m,rfl,an,hm,c0,c1,c2⟩:=(h.fH O).JN ap;have u:=hX.mL k;have bX:=hX.at_ hm;have U:=O.size;have bM:=ae (show elems (X.take (k+1))=elems (X.take k)+max m.size 1 by rw[aU hm,iG];rfl);clear hm;go_wp2;go_roundw
   case rel=>exact⟨k+1,ad,by go_num,by rw[bM.o],((O.alloc U _).alloc (by simp;omega) _)⟩
   case measure=>exact aE
  .go_wp2;go_ret;exact⟨ret_int (by first|rfl|rw[LK ad]),O⟩
theorem DS(A:Mk)(n c:Nat)(X:List bL)(m:Int)(w:World)(h:cA (EF hk) 3 w w.heap.size A n X)(hX:oY X)(aK:n<=c) :
  Calls prog 78 #[.slice A n c,.int .i64 m] w λe ab=>e=.returned (.int .i64 (e4 X m))/\Below w.heap.size w ab:=by
 have hl:=h.1;by_cases hm:m<0
 .have bH:=ae (show e4 X m = -1 from ma (.inl hm));clear h hX hl;go_enter func78,ntmps78;exact vI
 by_cases ay:(n:Int)<=m
 .have bH:=ae (show e4 X m = -1 from ma (.inr ad));clear h hX hl;go_enter func78,ntmps78;exact vI
 obtain⟨k,rfl⟩:=LH (show 0<=m by omega);have bH:=ae (show e4 X k=elems (X.take k) from nD ad);have q:cA (EF hk) 3 w w.heap.size A k (X.take k):=by
  refine⟨by simp;omega,λaj=>?_⟩;obtain⟨b,o,bO,O,hc⟩:=h.2 ad;refine⟨b,o,bO,O,λj x hx=>hc j x ?_⟩;rw[List.getElem?_take] at hx;split at hx
  .exact hx
  .cases hx
 have aj:k<n:=ad;have a:=hX.take k;clear h hX hl hm ay;go_enter func78,ntmps78;go_wp2_with(fail);refine(s0 A k k _ w q a).mono ?_;rintro e ab ⟨rfl,O⟩;go_wp2;go_ret;exact⟨ret_int (by rw[bH.o]),O⟩
theorem uE(A:Mk)(n c:Nat)(X:List bL)(e:Int)(w:World)(h:cA (EF hk) 3 w w.heap.size A n X)(hX:oY X)(he:e<=9223372036854775807) :
  Calls prog 79 #[.slice A n c,.int .i64 e] w λr ab=>r=.returned (.int .i64 (bD X e))/\Below w.heap.size w ab:=by
 have hl:=h.1;have hn:=hX.1;by_cases I:e<0
 .have bH:=ae (show bD X e = -1 from ji I);clear h hX hl;go_enter func79,ntmps79;exact vI
 go_enter func79,ntmps79;go_wp2;go_loopw [1,11] (λs i wr=>∃k:Nat,k<=n/\i=.int .i64 k/\s=.int .i64 (e - elems (X.take k))/\elems (X.take k)<=e/\Below w.heap.size w wr) (λ_ i _=>n - (intOf i).toNat)
 case atStart=>exact⟨0,L3 _,rfl,Em (by simp[elems]),by simp[elems];omega,Below.refl _ _⟩
 case round=>
  obtain⟨k,aj,rfl,rfl,hle,O⟩:=hrel;by_cases ap:k<n
  .obtain⟨b,o,m,rfl,an,hm,c0,c1,c2⟩:=(h.fH O).JN ap;have u:=hX.mL k;have bX:=hX.at_ hm;have U:=O.size;have bM:=ae (show elems (X.take (k+1))=elems (X.take k)+max m.size 1 by rw[aU hm,iG];rfl);have eV:=ae hm;clear hm;by_cases az:e - elems (X.take k)<max m.size 1
   .have a2:=ae (show bD X e=k from kU eV.o ad hle (by unfold bL.num;omega));go_wp2;go_ret;exact⟨ret_int (by rw[a2.o]),((O.alloc U _).alloc (by simp;omega) _)⟩
   .go_wp2;go_roundw
    case rel=>exact⟨k+1,ad,by go_num,Em (by rw[bM.o];omega),by rw[bM.o];omega,(((O.alloc U _).alloc (by simp;omega) _).alloc (by simp;omega) _)⟩
    case measure=>exact aE
  .have a2:=ae (show bD X e = -1 from jj (by rwa [LK ad] at hle));exact rG
end
section
attribute [local go_sem ↓] gC gD
theorem qG{e:TypeId}(h:w.ownsRow base e sz (.slice A n c) n xs):n<=c/\(A=none->n=0):=by
 rcases h.2 with⟨bG,h0⟩|⟨g,cap,cur,bG,_,_,aK,_⟩
 .injection bG with ac ax a1;exact⟨ad,λ_=>h0⟩
 .injection bG with ac ax a1;subst ac a1;exact⟨aK,(λh=>nomatch h)⟩
theorem mv(A:Mk)(n c:Nat)(X:List bL)(w:World)(h:cA (EF hk) 3 w w.heap.size A n X)(hX:oY X) :
  Calls prog 113 #[.slice A n c] w λr ab=>∃I aD,r=.returned (.slice I (own X).length aD)/\(own X).length<=aD/\cA (EF cd) 1 ab ab.heap.size I (own X).length (own X)/\Below w.heap.size w ab:=by
 have hl:=h.1;have hn:=hX.1;go_enter func113,ntmps113;go_wp2;go_loopw [3,4] (λv i wr=>∃k:Nat,k<=n/\i=.int .i64 k/\wr.ownsRow w.heap.size 3 1 v (iQ X k).length ((iQ X k).flatMap cd)/\Below w.heap.size w wr) (λ_ i _=>n - (intOf i).toNat)
 case atStart=>exact⟨0,L3 _,rfl,by rw[qF];exact World.ownsRow_nil _ _ _ _,Below.refl _ _⟩
 case round=>
  obtain⟨k,aj,rfl,az,O⟩:=hrel;by_cases ap:k<n
  .have eV:∃m,X[k]?=some m:=⟨_,List.getElem?_eq_getElem ad⟩
   obtain⟨m,hm⟩:=eV;have bX:=hX.at_ hm;have eV:=ae hm;clear hm;go_wp2;obtain⟨T,rfl⟩:∃T:World,T=wr:=⟨_,rfl⟩
   go_loopw [3,5] (λv i wr=>∃j:Nat,j<=m.qB/\i=.int .i64 j/\wr.ownsRow w.heap.size 3 1 v ((iQ X k).length+j) ((iQ X k++List.replicate j (k:Int)).flatMap cd)/\Below w.heap.size w wr) (λ_ i _=>m.qB - (intOf i).toNat)
   case atStart=>exact⟨0,L3 _,rfl,by simpa using az,O⟩
   case round=>
    obtain⟨j,bi,rfl,f,a4⟩:=hrel;clear az;obtain⟨b,o,bS,rfl,an,hm,c0,c1,c2⟩:=(h.fH a4).JN ap;obtain rfl:bS=m:=by have:=eV.o;rw[hm] at this;injection this
    have ci:=a4.size;have K:(bS.qB:Int)=max bS.size 1:=bS.tm;have d:=gB X k ad;have u:=hX.mL k;clear hm;by_cases b3:j<bS.qB
    .have bm:(j:Int)<max bS.size 1:=ad;have e:(iQ X k).length+j+1<=5000:=ad;obtain⟨ca,a5⟩:=aH K d;clear K d;go_wp2_with(at_builtin;refine cy _ cU (by rfl) (.tmp 22) (.tmp 24) (by rfl) w.heap.size _ _ _ _ (by rfl) f (by rfl) (by rfl) (jO _ _) ad ad ci ?_;intro v1 aP ay aI b5);go_roundw
     case rel=>
      refine⟨j+1,ad,by go_num,?_,dX a4 f aI (Lz _) ci⟩;rw[List.replicate_succ',<-List.append_assoc,fF];exact ay
     case measure=>exact aE
    .obtain rfl:j=bS.qB:=ad;have a6:¬((bS.qB:Int)<max bS.size 1):=ad;obtain⟨ca,a5⟩:=aH K d;clear K d;go_wp2;go_roundw
     case rel=>
      refine⟨k+1,ad,by go_num,?_,a4⟩;rw[kb eV.o,LD,List.length_replicate];exact f
     case measure=>exact aE
  .obtain rfl:k=n:=ad;obtain⟨cp,c1,rfl,cN,_,_,_⟩:=bH az;have b2:=ae hl;clear hl;go_wp2;go_ret;have he:own X=iQ X k:=by unfold own;rw[b2.o]
   rw[he];exact⟨_,_,rfl,cN,hy az (ho _) rfl,O⟩
theorem uS(A:Mk)(n c:Nat)(X:List bL)(m:Int)(w:World)(h:cA (EF hk) 3 w w.heap.size A n X)(hX:oY X) :
  Calls prog 83 #[.slice A n c,.int .i64 m] w λr ab=>r=.returned (.int .i64 (e4 X m))/\Below w.heap.size w ab:=by
 go_enter func83,ntmps83;go_wp2_with(fail);refine(mv A n c X w h hX).mono ?_;rintro e aP ⟨cp,c1,rfl,cN,a9,O⟩;have U:=dt hX;have hl:=h.1;generalize hN:(own X).length=N at *;obtain⟨ca,b2⟩:=aH hN hl;clear hN hl;go_wp2
 go_loop [6] (λi=>∃k:Nat,k<=N/\i=.int .i64 k/\∀j,j<k->(own X)[j]?≠some m) (λi=>N - (intOf i).toNat)
 case atStart=>exact⟨0,L3 _,rfl,λj bi=>absurd bi ad⟩
 case round=>
  obtain⟨k,aj,rfl,bg⟩:=hrel;have aT:=ae bg;clear bg;by_cases ap:k<N
  .obtain⟨b,o,x,rfl,an,hx,c0⟩:=a9.int ap;have aR:=ae hx;clear hx;by_cases aI:x=m
   .subst aI;have a2:=ae (show e4 X x=k by
     obtain⟨i,g,bG,P,ac,ax⟩:=Gd aR.o;have al:i<X.length:=(List.getElem?_eq_some_iff.1 P).1;rw[bG,nD al];have J:=r9 al;rcases Int.lt_or_le (elems (X.take i)) k with ap|hle
     .exact absurd (by rw[J,bG]) (aT.o (elems (X.take i)).toNat (by have:=(hX.mL i).1;omega))
     .omega)
    exact rG
   .have bl:(x == m)=false:=by simpa using aI
    go_wp2
    go_round
    case rel=>
     refine⟨k+1,ad,by go_num,λj bi=>?_⟩;by_cases z:j<k
     .exact aT.o j z
     .obtain rfl:j=k:=ad;rw[aR.o];intro he;injection he with he;exact aI he
    case measure=>exact aE
  .obtain rfl:k=N:=ad;have a2:=ae (show e4 X m = -1 by
    apply ma
    rcases Int.lt_or_le m 0 with h0|h0
    .exact .inl h0
    .rcases Int.lt_or_le m X.length with ac|ac
     .exfalso;have J:=r9 (X:=X) (k:=m.toNat) ad;have ap:=(List.getElem?_eq_some_iff.1 J).1;rw[ca.o] at ap;exact aT.o _ ap (by rw[J];congr 1;omega)
     .exact .inr ac)
   exact rG
theorem kX(A:Mk)(n c:Nat)(X:List bL)(m:Int)(w:World)(h:cA (EF hk) 3 w w.heap.size A n X)(hX:oY X) :
  Calls prog 85 #[.slice A n c,.int .i64 m] w λr ab=>r=.returned (.int .i64 (bD X m))/\Below w.heap.size w ab:=by
 go_enter func85,ntmps85;go_wp2_with(fail);refine(mv A n c X w h hX).mono ?_;rintro e aP ⟨cp,c1,rfl,cN,a9,O⟩;have U:=dt hX;have bZ:=ff X;generalize hN:(own X).length=N at *;obtain⟨ca,bj⟩:=aH hN bZ;clear hN bZ;by_cases h0:m<0
 .have a2:=ae (show bD X m = -1 from ji h0);exact rG
 by_cases ac:(N:Int)<=m
 .have a2:=ae (show bD X m = -1 from jj (aB bj.o));exact rG
 obtain⟨k,rfl⟩:=LH (show 0<=m by omega);obtain⟨b,o,x,rfl,an,hx,c0⟩:=a9.int (show k<N by omega);have a2:=ae (show bD X k=x by unfold bD;rw[if_neg ad,LZ,hx];rfl);have d:k<N:=ad;clear hx ac h0;exact rG
end
variable{T:List dc}
section
attribute [local go_sem ↓] gC gD
def jK(T:List dc)(e:Int):dc:=(T[e.toNat]?).getD ⟨0,0⟩
def Gk(X:List bL)(i:Int):Bool:=((X[i.toNat]?).map bL.re).getD false
def free(X:List bL)(T:List dc)(e th:Int):Bool:=
 decide (0<=bD X e/\0<=th) && ((jK T e).owner == 0 || ((jK T e).owner == th+1 && Gk X (bD X e)))
def heldBy(X:List bL)(T:List dc)(e th:Int):Bool:=decide (0<=bD X e/\0<=th) && (jK T e).owner == th+1
def fJ(X:List bL)(T:List dc)(e th:Int):List dc:=if free X T e th then T.set e.toNat ⟨th+1,(jK T e).depth+1⟩ else T
def down(h:dc):dc:=⟨if h.depth - 1=0 then 0 else h.owner,h.depth - 1⟩
def cY(X:List bL)(T:List dc)(e th:Int):List dc:=if heldBy X T e th then T.set e.toNat (down (jK T e)) else T
structure Fz(X:List bL)(T:List dc):Prop where
 len:T.length=(own X).length
 bound:∀h∈T,0<=h.owner/\h.owner<=1000000000/\0<=h.depth/\h.depth<=1000000000
theorem Fz.at_(h:Fz X T)(he:0<=bD X e):∃k m hd,e=(k:Nat)/\k<T.length/\T[k]?=some hd/\jK T e=hd/\bD X e=(m:Nat)/\m<X.length:=by
 obtain⟨h0,ac⟩:=gf.1 he;obtain⟨i,g,al,hm,_⟩:=ti he;obtain⟨k,rfl⟩:=LH h0;have hl:=ff X;have aj:k<T.length:=by rw[h.len];omega
 exact⟨k,i,T[k],rfl,aj,List.getElem?_eq_getElem aj,by unfold jK;rw[LZ,List.getElem?_eq_getElem aj];rfl,al,(List.getElem?_eq_some_iff.1 hm).1⟩
theorem qj{th:Int}(h:¬(0<=bD X e/\0<=th)):free X T e th=false:=by
 unfold free;rw[decide_eq_false h];rfl
theorem j7{th:Int}(h:¬(0<=bD X e/\0<=th)):heldBy X T e th=false:=by
 unfold heldBy;rw[decide_eq_false h];rfl
theorem fp(X:List bL)(T:List dc)(e th:Int):(fJ X T e th).length=T.length:=by
 unfold fJ;split<;>simp
theorem fj(X:List bL)(T:List dc)(e th:Int):(cY X T e th).length=T.length:=by
 unfold cY;split<;>simp
namespace Cb
theorem AB(h:p:=by
 by_cases b1:hd.owner=th+1
 .have a5:=ae b1;have i:=ae bW;have a:(hd.owner - 1 == th)=true:=by simp;omega
  exact xO
 .have a5:=ae (show (hd.owner == th+1)=false by simpa using b1);have i:=ae bW;have a:(hd.owner - 1 == th)=false:=by simp;omega
  exact xO
 ):p:=h
end Cb
open Cb in
theorem ux(A A2:Mk)(n c n2 c2:Nat)(X:List bL)(T:List dc)(e th:Int)(w:World)(h:cA (EF hk) 3 w w.heap.size A n X)(hX:oY X)
  (ht:cA (EF cb) 2 w w.heap.size A2 n2 T) (hT:Fz X T) (he:e<=9223372036854775807) (aK:th<=4611686018427387904) :
  Calls prog 41 #[.slice A n c,.slice A2 n2 c2,.int .i64 e,.int .i64 th] w λr ab=>r=.returned (.bool (free X T e th))/\Below w.heap.size w ab:=by
 go_enter func41,ntmps41;go_wp2_with(fail);refine(uE A n c X e w h hX he).mono ?_;exact AA
namespace Cc
theorem AB(h:p:=by
 by_cases b1:hd.owner=th+1
 .have a5:=ae b1;have i:=ae bW;have a:(hd.owner == th+1)=true:=by simp;omega
  exact xO
 .have a5:=ae (show (hd.owner == th+1)=false by simpa using b1);have i:=ae bW;have a:(hd.owner == th+1)=false:=by simp;omega
  exact xO
 ):p:=h
end Cc
open Cc in
theorem oH(A A2:Mk)(n c n2 c2:Nat)(X:List bL)(T:List dc)(e th:Int)(w:World)(h:cA (EF hk) 3 w w.heap.size A n X)(hX:oY X)
  (ht:cA (EF cb) 2 w w.heap.size A2 n2 T) (hT:Fz X T) (aK:th<=4611686018427387904) :
  Calls prog 84 #[.slice A n c,.slice A2 n2 c2,.int .i64 e,.int .i64 th] w λr ab=>r=.returned (.bool (free X T e th))/\Below w.heap.size w ab:=by
 go_enter func84,ntmps84;go_wp2_with(fail);refine(kX A n c X e w h hX).mono ?_;exact AA
theorem nF(A:Mk)(n c:Nat)(T:List dc)(w:World)(ht:cA (EF cb) 2 w w.heap.size A n T)(hn:n<=5000) :
  Calls prog 87 #[.slice A n c] w λr ab=>∃I aD,r=.returned (.slice I n aD)/\ab.ownsRow w.heap.size 95 2 (.slice I n aD) n (T.flatMap cb)/\Below w.heap.size w ab:=by
 have heq:=λW=>sf (P:=prog) W 27 95 A n c 0 0 Tryz.underlying27;rcases A with _|a
 .have ai:n=0:=by
   rcases Nat.eq_zero_or_pos n with h0|h0
   .exact h0
   .obtain⟨b,o,h,_⟩:=ht.2 h0;cases h
  subst ai;have hT:T=[]:=List.eq_nil_of_length_eq_zero ht.1;subst hT;go_enter func87,ntmps87;exact Aj
 .have aw:=Src.lT ht (eI T) (lF T) ad;go_enter func87,ntmps87;go_wp2_with(at_builtin;refine gi _ mH (by rfl) (.tmp 5) (.tmp 6) (by rfl) (by rfl) _ _ _ _ (by rfl) aw ad ad (λh=>nomatch h) ?_;intro cp c1 aP ay bX);go_ret;exact⟨cp,c1,rfl,ay,bX⟩
theorem iR{a:Nat}{e:TypeId}{v:Value}(h:w.ownsRow base e sz v n xs)(O:a<=base):w.ownsRow a e sz v n xs:=by
 refine⟨h.1,?_⟩;rcases h.2 with ax|⟨g,cap,cur,rfl,j,rest⟩
 .exact .inl ax
 .exact .inr ⟨g,cap,cur,rfl,ad,rest⟩
def gQ(w:World)(T:List dc)(b:Bool)(r:Ending)(ab:World):Prop:=
 ∃I aD,r=.returned (.tuple #[.slice I T.length aD,.bool b])/\ab.ownsRow w.heap.size 95 2 (.slice I T.length aD) T.length (T.flatMap cb)/\Below w.heap.size w ab
theorem gQ.mk'{R:Bool}(hn:T.length=n)(az:ab.ownsRow w.heap.size 95 2 (.slice A n c) n (T.flatMap cb))(O:Below w.heap.size w ab)(an:b=R):
  gQ w T b (.returned (.tuple #[.slice A n c,.bool R])) ab:=by
 subst hn an;exact⟨A,c,rfl,az,O⟩
theorem gQ.open_{r:Ending}(h:gQ w T b r ab)(hn:T.length=n):
  ∃I aD,r=.returned (.tuple #[.slice I n aD,.bool b])/\n<=aD/\cA (EF cb) 2 ab ab.heap.size I n T/\ab.ownsRow w.heap.size 95 2 (.slice I n aD) n (T.flatMap cb)/\Below w.heap.size w ab:=by
 subst hn;obtain⟨A,c,a9,az,O⟩:=h;exact⟨A,c,a9,(qG az).1,hy az (eI T) rfl,az,O⟩
theorem jP{hd:dc}(h:w.ownsRow base 95 2 (.slice A n c) n (T.flatMap cb))(aj:k<n)(hx:T[k]?=some hd):
  ∃g,A=some ⟨g,0,none⟩/\base<=g/\g<w.heap.size/\w.cell? ⟨g,k*2,none⟩=some (.int .i64 hd.owner)/\w.cell? ⟨g,k*2+1,none⟩=some (.int .i64 hd.depth)/\(∀j,w.frozen? ⟨g,j,none⟩=false)/\
   (∀x,(w.setCell ⟨g,k*2,none⟩ (.int .i64 x)).ownsRow base 95 2 (.slice A n c) n ((T.set k ⟨x,hd.depth⟩).flatMap cb))/\
   (∀x,(w.setCell ⟨g,k*2+1,none⟩ (.int .i64 x)).ownsRow base 95 2 (.slice A n c) n ((T.set k ⟨hd.owner,x⟩).flatMap cb)):=by
 obtain⟨g,bO,O,ap,hc,J,hs⟩:=iv h ad;have h0:=fU cb 2 T (eI T) k hd hx 0 ad;have ac:=fU cb 2 T (eI T) k hd hx 1 ad;refine⟨g,bO,O,ap,hc _ _ h0,hc _ _ ac,J,λx=>?_,λx=>?_⟩
 .rw[<-j4 cb 2 T (eI T) k hd hx 0 (.int .i64 x) ⟨x,hd.depth⟩ ad rfl];exact hs _ _ ad
 .rw[<-j4 cb 2 T (eI T) k hd hx 1 (.int .i64 x) ⟨hd.owner,x⟩ ad rfl];exact hs _ _ ad
theorem Eu(A A2:Mk)(n c n2 c2:Nat)(X:List bL)(T:List dc)(e th:Int)(w:World)(h:cA (EF hk) 3 w w.heap.size A n X)(hX:oY X)
  (ht:cA (EF cb) 2 w w.heap.size A2 n2 T) (hT:Fz X T) (he:e<=9223372036854775807) (aK:th<=4611686018427387904) :
  Calls prog 91 #[.slice A n c,.slice A2 n2 c2,.int .i64 e,.int .i64 th] w (gQ w (fJ X T e th) (free X T e th)):=by
 have ct:=ht.1;have cH:n2<=5000:=by have:=dt hX;have:=hT.len;omega
 have aI:=fp X T e th;generalize aS:fJ X T e th=L at *;have bH:=ae aS;clear aS;rw[ct] at aI;have R:=ae aI;clear aI;go_enter func91,ntmps91;go_wp2_with(fail);refine(nF A2 n2 c2 T w ht cH).mono ?_;rintro r aP ⟨cp,c1,rfl,az,O⟩;go_wp2_with(fail);have q:=h.cS O O.size;have i:=ht.cS O O.size;refine(ux A A2 n c n2 c2 X T e th aP q hX i hT he aK).mono ?_;rintro r aW ⟨rfl,bg⟩;have ci:=O.size;have di:=O.trans (bg.mono O.size);have S:=bR az bg
 cases J:free X T e th with
 | false=>
  go_wp2
  go_ret2
  exact z0
 | true=>
  have hm:0<=bD X e/\0<=th:=by
   exact Ab
  obtain⟨k,m,hd,rfl,aj,d,f,P,bJ⟩:=hT.at_ hm.1;have a7:k<n2:=ad;have bt:=hT.bound hd (LF d);obtain⟨b,o,C,rfl,an,hx,c0,c8⟩:=(ht.fH di).hold a7;obtain rfl:hd=C:=by rw[d] at hx;injection hx
  obtain⟨g,rfl,aY,cT,e0,e1,s,F,s1⟩:=jP S a7 d;have t:=s (k*2);have v:=s (k*2+1);have bw:L=T.set k ⟨th+1,hd.depth+1⟩:=by rw[<-bH.o];unfold fJ;rw[J,f];rfl
  obtain⟨b2,bT⟩:=aH bw J;have bQ:=hm.2;have l:=ae (F (th+1));clear hx d f P bw J hm F s1 s ct;go_wp2
  go_ret2
  exact G7
theorem uT(A A2:Mk)(n c n2 c2:Nat)(X:List bL)(T:List dc)(e th:Int)(w:World)(h:cA (EF hk) 3 w w.heap.size A n X)(hX:oY X)
  (ht:cA (EF cb) 2 w w.heap.size A2 n2 T) (hT:Fz X T) (aK:th<=4611686018427387904) :
  Calls prog 47 #[.slice A n c,.slice A2 n2 c2,.int .i64 e,.int .i64 th] w (gQ w (fJ X T e th) (free X T e th)):=by
 have ct:=ht.1;have cH:n2<=5000:=by have:=dt hX;have:=hT.len;omega
 have aI:=fp X T e th;generalize aS:fJ X T e th=L at *;have bH:=ae aS;clear aS;rw[ct] at aI;have R:=ae aI;clear aI;go_enter func47,ntmps47;have aw:=Src.lT ht (eI T) (lF T) ad;have aX:A2=none->n2=0:=λh0=>by
  exact z2
 have co:=ae aX;clear aX;go_wp2_with(at_builtin;refine gi _ mH (by rfl) (.tmp 10) (.tmp 11) (by rfl) (by rfl) _ _ _ _ (by rfl) aw ad ad co.o ?_;intro cp c1 aP az O);go_wp2_with(fail);have q:=h.cS O O.size;have i:cA (EF cb) 2 aP aP.heap.size cp n2 T:=hy az (eI T) ct;refine(oH A cp n c n2 c1 X T e th aP q hX i hT aK).mono ?_;rintro r aW ⟨rfl,bg⟩;have ci:=O.size;have di:=O.trans (bg.mono O.size);have S:=bR az bg
 cases J:free X T e th with
 | false=>
  go_wp2
  go_ret2
  exact z0
 | true=>
  have hm:0<=bD X e/\0<=th:=by
   exact Ab
  obtain⟨k,m,hd,rfl,aj,d,f,P,bJ⟩:=hT.at_ hm.1;have a7:k<n2:=ad;have bt:=hT.bound hd (LF d);obtain⟨g,rfl,aY,cT,e0,e1,s,F,s1⟩:=jP S a7 d;have t:=s (k*2);have v:=s (k*2+1);have bw:L=T.set k ⟨th+1,hd.depth+1⟩:=by rw[<-bH.o];unfold fJ;rw[J,f];rfl
  obtain⟨b2,bT⟩:=aH bw J;have bQ:=hm.2;have l:=ae (F (th+1));clear d f P bw J hm F s1 s ct;go_wp2
  go_ret2
  exact G7
namespace Cd
theorem Bw(h:p:=by
 obtain⟨b,o,C,rfl,an,hx,c0,c8⟩:=(ht.fH O).hold a7;obtain rfl:hd=C:=by rw[d] at hx;injection hx
 by_cases aU:hd.owner=th+1
 case neg=>
  have J:heldBy X T k th=false:=by
   exact Ai
  have b2:=ae (no J);have bT:=ae J;have y:(hd.owner - 1 != th)=true:=by simp;omega
  clear aU no J ct d f P hm hx;go_wp2
  go_ret2
  exact rF
 have J:heldBy X T k th=true:=by
  exact z4
 have y:(hd.owner - 1 != th)=false:=by simp;omega
 obtain⟨g,rfl,aY,cT,e0,e1,s,F,s1⟩:=jP az a7 d;have t:=s (k*2);have v:=s (k*2+1);have bw:L=T.set k (down hd):=by rw[<-bH.o];unfold cY;rw[J,f];rfl
 obtain⟨b2,bT⟩:=aH bw J;have z:=ae (s1 (hd.depth - 1));have N:=ae d;clear hx d f P bw J hm F s1 s ct no aU;exact GZ
 ):p:=h
theorem Bg(h:p:=by
 go_enter func92,ntmps92;go_wp2_with(fail);refine(nF A2 n2 c2 T w ht cH).mono ?_;rintro r aP ⟨cp,c1,rfl,az,O⟩;have ci:=O.size;have no:heldBy X T e th=false->L=T:=λh=>by rw[<-bH.o];unfold cY;rw[h];rfl
 by_cases ac:0<=e
 case neg=>
  have J:heldBy X T e th=false:=j7 (λag=>ac (gf.1 ag.1).1);have b2:=ae (no J);have bT:=ae J;have cd:e<0:=ad;clear ac no J ct;go_wp2
  go_ret2
  exact rF
 by_cases ax:e<n2
 case neg=>
  have J:heldBy X T e th=false:=j7 (λag=>by have:=(gf.1 ag.1).2;have:=ca.o;omega);have b2:=ae (no J);have bT:=ae J;have i:(n2:Int)<=e:=ad;clear ax no J ct;go_wp2
  go_ret2
  exact rF
 have hm:0<=bD X e:=qy ac (aB ca.o);obtain⟨k,m,hd,rfl,aj,d,f,P,bJ⟩:=hT.at_ hm;have a7:k<n2:=ad;exact Bv
 ):p:=h
end Cd
open Cd in
theorem xt(A A2:Mk)(n c n2 c2:Nat)(X:List bL)(T:List dc)(e th:Int)(w:World)(hX:oY X)
  (ht:cA (EF cb) 2 w w.heap.size A2 n2 T) (hT:Fz X T) (aK:th<=4611686018427387904) :
  Calls prog 92 #[.slice A n c,.slice A2 n2 c2,.int .i64 e,.int .i64 th] w (gQ w (cY X T e th) (heldBy X T e th)):=by
 exact Bf
namespace Ce
theorem Bw(h:p:=by
 obtain⟨g,rfl,aY,cT,e0,e1,s,F,s1⟩:=jP az a7 d;by_cases aU:hd.owner=th+1
 case neg=>
  have J:heldBy X T k th=false:=by
   exact Ai
  have b2:=ae (no J);have bT:=ae J;have y:(hd.owner != th+1)=true:=by simpa using aU
  clear aU no J ct d f P hm F s1 s;go_wp2
  go_ret2
  exact rF
 have J:heldBy X T k th=true:=by
  exact z4
 have y:(hd.owner != th+1)=false:=by simpa using aU
 have t:=s (k*2);have v:=s (k*2+1);have bw:L=T.set k (down hd):=by rw[<-bH.o];unfold cY;rw[J,f];rfl
 obtain⟨b2,bT⟩:=aH bw J;have z:=ae (s1 (hd.depth - 1));have N:=ae d;clear d f P bw J hm F s1 s ct no aU;exact GZ
 ):p:=h
theorem Bg(h:p:=by
 go_enter func48,ntmps48;have aw:=Src.lT ht (eI T) (lF T) ad;have aX:A2=none->n2=0:=λh0=>by
  exact z2
 have co:=ae aX;clear aX;go_wp2_with(at_builtin;refine gi _ mH (by rfl) (.tmp 10) (.tmp 11) (by rfl) (by rfl) _ _ _ _ (by rfl) aw ad ad co.o ?_;intro cp c1 aP i u);go_wp2_with(fail);have q:=h.cS u u.size;refine(kX A n c X e aP q hX).mono ?_;rintro r aW ⟨rfl,bg⟩;have x:=u.size;have O:=u.trans (bg.mono u.size);have ci:=O.size;have az:=bR i bg;clear bg i u x;have no:heldBy X T e th=false->L=T:=λh=>by rw[<-bH.o];unfold cY;rw[h];rfl
 by_cases hm:0<=bD X e
 case neg=>
  have J:heldBy X T e th=false:=j7 (λag=>hm ag.1);have b2:=ae (no J);have bT:=ae J;have cd:bD X e<0:=ad;clear hm no J ct;go_wp2
  go_ret2
  exact rF
 obtain⟨k,m,hd,rfl,aj,d,f,P,bJ⟩:=hT.at_ hm;have a7:k<n2:=ad;rw[P];exact Bv
 ):p:=h
end Ce
open Ce in
theorem rA(A A2:Mk)(n c n2 c2:Nat)(X:List bL)(T:List dc)(e th:Int)(w:World)(h:cA (EF hk) 3 w w.heap.size A n X)(hX:oY X)
  (ht:cA (EF cb) 2 w w.heap.size A2 n2 T) (hT:Fz X T) (aK:th<=4611686018427387904) :
  Calls prog 48 #[.slice A n c,.slice A2 n2 c2,.int .i64 e,.int .i64 th] w (gQ w (cY X T e th) (heldBy X T e th)):=by
 exact Bf
end
end Go.Proofs.YtflecliffjbleaaGreat

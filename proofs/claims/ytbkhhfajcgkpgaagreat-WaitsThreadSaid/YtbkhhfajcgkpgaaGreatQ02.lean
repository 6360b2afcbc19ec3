/- Part 2 of the proof. No condition of its own. -/
import Derived.Test.YtbkhhfajcgkpgaaGreatQ01
namespace Go.Proofs.YtbkhhfajcgkpgaaGreat
open Go.RowKit Go.Proofs.Tryz
set_option maxRecDepth 1000000
set_option maxHeartbeats 25600000
set_option linter.unusedVariables false
variable{b:Bool}{e th x:Int}{xs:List Value}{B base c k n sz:Nat}{A:Kr}{p:Prop}{ac w:World}
inductive VE where
 | num (n:Int)
 | gy (s:ByteArray)
 | loc (k:Int)
 | ia (k:Int)
 | un (op:Int) (x:VE)
 | bin (op:Int) (x y:VE)
def VE.rep(w:World)(P:Nat→Prop):VE→List Value→Prop
 | .num n=>fun cs=>∃nm A c,cs=[.int .i64 1,.int .i64 n,.string nm,.slice A 0 c]
 | .gy s=>fun cs=>∃n A c,cs=[.int .i64 2,.int .i64 n,.string s,.slice A 0 c]
 | .loc k=>fun cs=>∃nm A c,cs=[.int .i64 18,.int .i64 k,.string nm,.slice A 0 c]
 | .ia k=>fun cs=>∃nm A c,cs=[.int .i64 19,.int .i64 k,.string nm,.slice A 0 c]
 | .un op x=>fun cs=>∃n nm b o c br Z ax E,cs=[.int .i64 op,.int .i64 n,.string nm,.slice (some ⟨b,o,none⟩) 1 c]∧P b∧x.rep w P [br,Z,ax,E]∧
   w.cell? ⟨b,o,none⟩=some br∧w.cell? ⟨b,o+1,none⟩=some Z∧w.cell? ⟨b,o+2,none⟩=some ax∧w.cell? ⟨b,o+3,none⟩=some E
 | .bin op x y=>fun cs=>∃n nm b o c br Z ax E cj cr bm aa,cs=[.int .i64 op,.int .i64 n,.string nm,.slice (some ⟨b,o,none⟩) 2 c]∧P b∧x.rep w P [br,Z,ax,E]∧y.rep w P [cj,cr,bm,aa]∧
   w.cell? ⟨b,o,none⟩=some br∧w.cell? ⟨b,o+1,none⟩=some Z∧w.cell? ⟨b,o+2,none⟩=some ax∧w.cell? ⟨b,o+3,none⟩=some E∧
   w.cell? ⟨b,o+4,none⟩=some cj∧w.cell? ⟨b,o+5,none⟩=some cr∧w.cell? ⟨b,o+6,none⟩=some bm∧w.cell? ⟨b,o+7,none⟩=some aa
theorem VE.aN{w ac:World}{P:Nat→Prop}(aj:∀b,P b→ac.heap[b]?=w.heap[b]?):∀(e:VE) (cs:List Value),e.rep w P cs→e.rep ac P cs
 | .num _,_,h=>h
 | .gy _,_,h=>h
 | .loc _,_,h=>h
 | .ia _,_,h=>h
 | .un op x,cs,h=>by
  obtain⟨n,nm,b,o,c,br,Z,ax,E,T,O,hx,c0,c1,c2,c3⟩:=h;have hc:∀j,ac.cell? ⟨b,j,none⟩=w.cell? ⟨b,j,none⟩:=fun j=>World.cell?_of_block (w:=w) (aj b O)
  exact⟨n,nm,b,o,c,br,Z,ax,E,T,O,VE.aN aj x _ hx,(hc _).trans c0,(hc _).trans c1,(hc _).trans c2,(hc _).trans c3⟩
 | .bin op x y,cs,h=>by
  obtain⟨n,nm,b,o,c,br,Z,ax,E,cj,cr,bm,aa,T,O,hx,a4,c0,c1,c2,c3,d0,d1,d2,d3⟩:=h;have hc:∀j,ac.cell? ⟨b,j,none⟩=w.cell? ⟨b,j,none⟩:=fun j=>World.cell?_of_block (w:=w) (aj b O);exact⟨n,nm,b,o,c,br,Z,ax,E,cj,cr,bm,aa,T,O,VE.aN aj x _ hx,VE.aN aj y _ a4,(hc _).trans c0,(hc _).trans c1,(hc _).trans c2,(hc _).trans c3,(hc _).trans d0,(hc _).trans d1,(hc _).trans d2,(hc _).trans d3⟩
theorem VE.aF{w:World}{P bb:Nat→Prop}(hp:∀b,P b→bb b):∀(e:VE) (cs:List Value),e.rep w P cs→e.rep w bb cs
 | .num _,_,h=>h
 | .gy _,_,h=>h
 | .loc _,_,h=>h
 | .ia _,_,h=>h
 | .un op x,cs,h=>by
  obtain⟨n,nm,b,o,c,br,Z,ax,E,T,O,hx,hc⟩:=h
  exact⟨n,nm,b,o,c,br,Z,ax,E,T,hp b O,VE.aF hp x _ hx,hc⟩
 | .bin op x y,cs,h=>by
  obtain⟨n,nm,b,o,c,br,Z,ax,E,cj,cr,bm,aa,T,O,hx,a4,hc⟩:=h;exact⟨n,nm,b,o,c,br,Z,ax,E,cj,cr,bm,aa,T,hp b O,VE.aF hp x _ hx,VE.aF hp y _ a4,hc⟩
abbrev VE.at_(w:World)(e:VE)(cs:List Value):Prop:=e.rep w (·<w.heap.size) cs
theorem VE.Hq{e:VE}{cs:List Value}(h:e.at_ w cs)(O:Below w.heap.size w ac):e.at_ ac cs:=
 VE.aF (fun _ aw=>JR aw O.size) _ _ (VE.aN (fun b aw=>O.block b aw) _ _ h)
def VE.ok(ng nl:Nat):VE→Prop
 | .num _=>True
 | .gy _=>False
 | .loc k=>0≤k∧k<nl
 | .ia k=>0≤k∧k<ng
 | .un op x=>(op=3∨op=4)∧x.ok ng nl
 | .bin op x y=>(5≤op∧op≤17)∧x.ok ng nl∧y.ok ng nl
def eV(b:Bool):Int:=if b then 1 else 0
def arith(op a b:Int):Int×Int:=
 if op=5 then (wrap64 (a*b),0) else if op=8 then (wrap64 (a+b),0) else if op=9 then (wrap64 (a - b),0)
 else if op=6 then (if b=0 then (0,1) else (wrap64 (a.tdiv b),0))
 else if op=7 then (if b=0 then (0,1) else (a.tmod b,0))
 else if op=10 then (eV (decide (a<b)),0) else if op=11 then (eV (decide (a≤b)),0)
 else if op=12 then (eV (decide (b<a)),0) else if op=13 then (eV (decide (b≤a)),0)
 else if op=14 then (eV (a == b),0) else if op=15 then (eV (a != b),0) else (0,0)
def ev(g l:List Int):VE→Int×Int
 | .num n=>(n,0)
 | .gy _=>(0,0)
 | .loc k=>(l.getD k.toNat 0,0)
 | .ia k=>(g.getD k.toNat 0,0)
 | .un op x=>if (ev g l x).2≠0 then (0,(ev g l x).2) else if op=3 then (wrap64 (-(ev g l x).1),0) else (eV ((ev g l x).1 == 0),0)
 | .bin op x y=>
  if (ev g l x).2≠0 then (0,(ev g l x).2)
  else if op=16∧(ev g l x).1=0 then (0,0)
  else if op=17∧(ev g l x).1≠0 then (1,0)
  else if (ev g l y).2≠0 then (0,(ev g l y).2)
  else if op=16∨op=17 then (eV ((ev g l y).1 != 0),0)
  else arith op (ev g l x).1 (ev g l y).1
structure bA where
 name:ByteArray
 re:Bool
 size:Int
structure db where
 owner:Int
 depth:Int
 deriving DecidableEq
def hg(m:bA):List Value:=[.string m.name,.bool m.re,.int .i64 m.size]
def cz(h:db):List Value:=[.int .i64 h.owner,.int .i64 h.depth]
def bA.num(m:bA):Int:=max m.size 1
def bA.pM(m:bA):Nat:=(max m.size 1).toNat
theorem bA.ov(m:bA):1≤m.num:=by unfold bA.num;omega
theorem bA.sy(m:bA):(m.pM:Int)=m.num:=by unfold bA.num bA.pM;omega
def qu(X:List bA):Prop:=X.length≤64∧∀m∈X,0≤m.size∧m.size≤64
def elems(X:List bA):Int:=(X.map bA.num).sum
theorem pe(m:bA)(X:List bA):elems (m::X)=m.num+elems X:=by simp[elems]
theorem xL(X Y:List bA):elems (X++Y)=elems X+elems Y:=by simp[elems]
theorem h6(X:List bA)(m:bA):elems (X++[m])=elems X+m.num:=by simp[elems]
theorem nA:∀(X:List bA),(∀m∈X,0≤m.size∧m.size≤64)→(X.length:Int)≤elems X∧elems X≤64*X.length
 | [],_=>by simp[elems]
 | m::X,h=>by
  have ae:=h m (by simp);have aC:=nA X (fun m hm=>h m (by simp[hm]));rw[pe];simp only[J3];have:=m.ov;unfold bA.num at *;omega
theorem qu.take{X:List bA}(h:qu X)(k:Nat):qu (X.take k):=
 ⟨by have:=h.1;simp;omega,fun m hm=>h.2 m (List.mem_of_mem_take hm)⟩
variable{X:List bA}
theorem qu.bound(h:qu X):0≤elems X∧elems X≤4096:=by
 have:=nA X h.2;have:=h.1;omega
theorem qu.l6(h:qu X)(k:Nat):0≤elems (X.take k)∧elems (X.take k)≤4096:=(h.take k).bound
variable{m:bA}
theorem qu.at_(h:qu X)(hm:X[k]?=some m):0≤m.size∧m.size≤64:=h.2 m (JT hm)
theorem qD(X:List bA)(k:Nat):elems (X.take k)≤elems X:=by
 have h:=xL (X.take k) (X.drop k);rw[List.take_append_drop] at h;have:∀Y:List bA,0≤elems Y:=fun Y=>by
  induction Y with
  | nil=>simp[elems]
  | cons m Y ao=>rw[pe];have:=m.ov;omega
 have:=this (X.drop k);omega
def iq(X:List bA)(k:Nat):List Int:=(X.take k).zipIdx.flatMap fun p=>List.replicate p.1.pM (p.2:Int)
def own(X:List bA):List Int:=iq X X.length
theorem pR(X:List bA):iq X 0=[]:=by simp[iq]
theorem jR(h:X[k]?=some m):iq X (k+1)=iq X k++List.replicate m.pM (k:Int):=by
 have aj:k<X.length:=(List.getElem?_eq_some_iff.1 h).1;unfold iq;rw[a9 h,List.zipIdx_append,List.flatMap_append];congr 1
 simp[Nat.min_eq_left (Nat.le_of_lt aj)]
theorem fV(X:List bA):∀k,k≤X.length→((iq X k).length:Int)=elems (X.take k)
 | 0,_=>by simp[pR,elems]
 | k+1,h=>by
  have hm:X[k]?=some (X[k]'ab):=List.getElem?_eq_getElem _;rw[jR hm,a9 hm,h6,JS,List.length_replicate,Int.natCast_add,fV X k ab,bA.sy]
theorem eK(X:List bA):((own X).length:Int)=elems X:=by
 rw[own,fV X _ (JQ _),List.take_length]
theorem dC(h:qu X):(own X).length≤4096:=by
 have:=eK X;have:=h.bound;omega
theorem mr(X:List bA)(k:Nat):∀d,k+d≤X.length→∃s,iq X (k+d)=iq X k++s
 | 0,_=>⟨[],by simp⟩
 | d+1,h=>by
  obtain⟨s,hs⟩:=mr X k d ab;have hm:X[k+d]?=some (X[k+d]'ab):=List.getElem?_eq_getElem _;exact⟨s++List.replicate (X[k+d]'ab).pM ((k+d:Nat):Int),by rw[show k+(d+1)=(k+d)+1 from rfl,jR hm,hs,J4]⟩
theorem vH(h:X[k]?=some m){e:Nat}(ae:elems (X.take k)≤e)(aC:(e:Int)<elems (X.take k)+m.num):(own X)[e]?=some (k:Int):=by
 have aj:k<X.length:=(List.getElem?_eq_some_iff.1 h).1;obtain⟨s,hs⟩:=mr X (k+1) (X.length - (k+1)) ab;rw[own,show X.length=k+1+(X.length - (k+1)) from by omega,hs,jR h];have hl:=fV X k ab;have hn:=m.sy;rw[J4,List.getElem?_append_right ab,List.getElem?_append_left (by rw[List.length_replicate];omega),List.getElem?_replicate,if_pos ab]
def br(X:List bA)(e:Int):Int:=if e<0 then -1 else ((own X)[e.toNat]?).getD (-1)
theorem iN(h:e<0):br X e = -1:=if_pos h
theorem ks(h:X[k]?=some m)(h0:0≤e)(ae:elems (X.take k)≤e)(aC:e<elems (X.take k)+m.num):br X e=k:=by
 unfold br;rw[if_neg ab,vH h (e:=e.toNat) ab ab];rfl
theorem iO(h:elems X≤e):br X e = -1:=by
 unfold br;split
 ·rfl
 ·rw[List.getElem?_eq_none (aH (eK X))];rfl
theorem mv(X:List bA):∀(k:Nat),k≤X.length→∀e:Int,0≤e→e<elems (X.take k)→∃i m,i<k∧X[i]?=some m∧elems (X.take i)≤e∧e<elems (X.take i)+m.num
 | 0,_,e,h0,h=>by simp[elems] at h;omega
 | k+1,aj,e,h0,h=>by
  have hm:X[k]?=some (X[k]'ab):=List.getElem?_eq_getElem _;by_cases aw:e<elems (X.take k)
  ·obtain⟨i,m,al,hx,ae,aC⟩:=mv X k ab e h0 aw;exact⟨i,m,ab,hx,ae,aC⟩
  ·refine⟨k,_,ab,hm,ab,?_⟩;rw[a9 hm,h6] at h;exact h
theorem su(h:0≤br X e):∃i m,br X e=(i:Nat)∧X[i]?=some m∧0≤e∧elems (X.take i)≤e∧e<elems (X.take i)+m.num:=by
 have h0:0≤e:=by
  rcases Int.lt_or_le e 0 with q|q
  ·rw[iN q] at h;omega
  ·exact q
 have aw:e<elems X:=by
  rcases Int.lt_or_le e (elems X) with q|q
  ·exact q
  ·rw[iO q] at h;omega
 obtain⟨i,m,_,hm,ae,aC⟩:=mv X X.length (JQ _) e h0 (by rwa [List.take_length]);exact⟨i,m,ks hm h0 ae aC,hm,h0,ae,aC⟩
theorem vB(h0:0≤e)(h:e<elems X):0≤br X e:=by
 obtain⟨i,m,_,hm,ae,aC⟩:=mv X X.length (JQ _) e h0 (by rwa [List.take_length]);rw[ks hm h0 ae aC];omega
theorem iM:0≤br X e↔0≤e∧e<elems X:=by
 constructor
 ·intro h;refine⟨?_,?_⟩
  ·rcases Int.lt_or_le e 0 with q|q
   ·rw[iN q] at h;omega
   ·exact q
  ·rcases Int.lt_or_le e (elems X) with q|q
   ·exact q
   ·rw[iO q] at h;omega
 ·exact fun h=>vB h.1 h.2
def eG(X:List bA)(m:Int):Int:=if m<0∨(X.length:Int)≤m then -1 else elems (X.take m.toNat)
theorem lG{m:Int}(h:m<0∨(X.length:Int)≤m):eG X m = -1:=if_pos h
theorem mT(h:k<X.length):eG X k=elems (X.take k):=by
 unfold eG;rw[if_neg ab];rfl
theorem rr(aj:k<X.length):(own X)[(elems (X.take k)).toNat]?=some (k:Int):=by
 have hm:X[k]?=some (X[k]'aj):=List.getElem?_eq_getElem _;have h0:0≤elems (X.take k):=by have:=fV X k ab;omega
 exact vH hm ab (by have:=(X[k]'aj).ov;omega)
theorem Eu{e:Nat}{v:Int}(h:(own X)[e]?=some v):∃k m,v=(k:Nat)∧X[k]?=some m∧elems (X.take k)≤e∧(e:Int)<elems (X.take k)+m.num:=by
 have hl:=eK X;have he:=(List.getElem?_eq_some_iff.1 h).1;obtain⟨i,m,_,hm,ae,aC⟩:=mv X X.length (JQ _) e ab (by rw[List.take_length];omega);have:=vH hm ae aC;rw[h] at this;injection this with this;exact⟨i,m,this,hm,ae,aC⟩
section
attribute [local go_sem ↓] fW fX
def within(x n:Int):Int:=x % n
theorem yv{n:Int}(h:0<n):(x.tmod n+n).tmod n=within x n:=by
 unfold within;have ae:=Int.emod_nonneg x (show n≠0 by omega);have aC:=Int.emod_lt_of_pos x h;have key:∀y:Int,0≤y→y.tmod n=y % n:=fun y a4=>Int.tmod_eq_emod_of_nonneg a4;rcases Int.lt_or_le x 0 with hx|hx
 ·have e1:x.tmod n = -((-x) % n):=by
   have:=key (-x) ab;rw[Int.neg_tmod] at this;omega
  have aT:=Int.emod_nonneg (-x) (show n≠0 by omega);have a9:=Int.emod_lt_of_pos (-x) h;rw[e1,key _ ab];rw[Int.add_emod_right];have cl:(-((-x) % n)) % n=x % n:=by
   have m:-((-x) % n)=x+n*((-x) / n):=by
    have:=Int.emod_add_mul_ediv (-x) n;omega
   rw[m,Int.add_mul_emod_self_left]
  exact cl
 ·rw[key x hx,key _ ab,Int.add_emod_right,Int.emod_emod_of_dvd _ (Int.dvd_refl n)]
theorem sW{n:Int}(h:0<n):0≤within x n∧within x n<n:=⟨Int.emod_nonneg x ab,Int.emod_lt_of_pos x h⟩
theorem cC.HX{l:List bA}(h:cC (EF hg) 3 w B A n l)(aj:k<n):
  ∃b o m,A=some ⟨b,o,none⟩∧b<B∧l[k]?=some m∧w.cell? ⟨b,o+k*3,none⟩=some (.string m.name)∧w.cell? ⟨b,o+k*3+1,none⟩=some (.bool m.re)∧w.cell? ⟨b,o+k*3+2,none⟩=some (.int .i64 m.size):=by
 obtain⟨b,o,m,bk,O,hm,_,hc⟩:=h.Hp aj;exact⟨b,o,m,bk,O,hm,hc 0 _ rfl,hc 1 _ rfl,hc 2 _ rfl⟩
theorem cC.hold{l:List db}(h:cC (EF cz) 2 w B A n l)(aj:k<n):
  ∃b o m,A=some ⟨b,o,none⟩∧b<B∧l[k]?=some m∧w.cell? ⟨b,o+k*2,none⟩=some (.int .i64 m.owner)∧w.cell? ⟨b,o+k*2+1,none⟩=some (.int .i64 m.depth):=by
 obtain⟨b,o,m,bk,O,hm,_,hc⟩:=h.Hp aj;exact⟨b,o,m,bk,O,hm,hc 0 _ rfl,hc 1 _ rfl⟩
theorem CS(l:List bA):∀x∈l,(hg x).length=3:=fun _ _=>rfl
theorem eQ(l:List db):∀x∈l,(cz x).length=2:=fun _ _=>rfl
theorem C3(l:List bA):∀x∈l,∀u∈hg x,u.oneCell'=true:=fun x _ u hu=>by
 simp only[hg,J6,List.not_mem_nil,or_false] at hu;rcases hu with rfl|rfl|rfl<;>rfl
theorem m2(l:List db):∀x∈l,∀u∈cz x,u.oneCell'=true:=fun x _ u hu=>by
 simp only[cz,J6,List.not_mem_nil,or_false] at hu;rcases hu with rfl|rfl<;>rfl
theorem pQ(l:List Int):∀x∈l,∀u∈b2 x,u.oneCell'=true:=fun x _ u hu=>by
 simp only[b2,J6,List.not_mem_nil,or_false] at hu;subst hu;rfl
theorem oc:bX prog 27 83 (.agg #[.int .i64 0,.int .i64 0]) 2 16:=bX.mk' Tryz.underlying27 (by kernel_rfl) rfl ab
theorem lD:bX prog 23 125 (.agg #[.string ⟨#[]⟩,.bool false,.int .i64 0]) 3 32:=bX.mk' Tryz.underlying23 (by kernel_rfl) rfl ab
theorem lY(x n:Int)(hn:0<n)(O:n≤4611686018427387904)(w:World) :
  Calls prog 24 #[.int .i64 x,.int .i64 n] w fun e ac=>e=.returned (.int .i64 (within x n))∧w=ac:=by
 have bi:(n == 0)=false:=by simp;omega
 go_enter func24,ntmps24;go_wp2;go_ret;refine⟨ret_int ?_,rfl⟩;have ae:=Int.lt_tmod_of_pos x hn;have aC:=Int.tmod_lt_of_pos x hn;rw[←yv hn];congr 1
 unfold RowKit.wrap64;omega
theorem sb(A:Kr)(n c:Nat)(X:List bA)(w:World)(h:cC (EF hg) 3 w w.heap.size A n X)(hX:qu X) :
  Calls prog 101 #[.slice A n c] w fun e ac=>e=.returned (.int .i64 (elems X))∧Below w.heap.size w ac:=by
 have hl:=h.1;have hn:=hX.1;go_enter func101,ntmps101;go_wp2;go_loopw [3,8] (fun s i wr=>∃k:Nat,k≤n∧i=.int .i64 k∧s=.int .i64 (elems (X.take k))∧Below w.heap.size w wr) (fun _ i _=>n - (intOf i).toNat)
 case atStart=>exact⟨0,Kc _,rfl,rfl,Below.refl _ _⟩
 case round=>
  obtain⟨k,aj,rfl,rfl,O⟩:=hrel;by_cases aw:k<n
  ·obtain⟨b,o,m,rfl,an,hm,c0,c1,c2⟩:=(h.fS O).HX aw;have u:=hX.l6 k;have bF:=hX.at_ hm;have U:=O.size;have bu:=ad (show elems (X.take (k+1))=elems (X.take k)+max m.size 1 by rw[a9 hm,h6];rfl);clear hm;go_wp2;go_roundw
   case rel=>exact⟨k+1,ab,by go_num,by rw[bu.o],((O.alloc U _).alloc (by simp;omega) _)⟩
   case measure=>exact aB
  ·go_wp2;go_ret;exact⟨ret_int (by first|rfl|rw[JY ab]),O⟩
theorem Ck(A:Kr)(n c:Nat)(X:List bA)(m:Int)(w:World)(h:cC (EF hg) 3 w w.heap.size A n X)(hX:qu X)(bJ:n≤c) :
  Calls prog 65 #[.slice A n c,.int .i64 m] w fun e ac=>e=.returned (.int .i64 (eG X m))∧Below w.heap.size w ac:=by
 have hl:=h.1;by_cases hm:m<0
 ·have bs:=ad (show eG X m = -1 from lG (.inl hm));clear h hX hl;go_enter func65,ntmps65;exact uI
 by_cases bN:(n:Int)≤m
 ·have bs:=ad (show eG X m = -1 from lG (.inr ab));clear h hX hl;go_enter func65,ntmps65;exact uI
 obtain⟨k,rfl⟩:=JV (show 0≤m by omega);have bs:=ad (show eG X k=elems (X.take k) from mT ab);have q:cC (EF hg) 3 w w.heap.size A k (X.take k):=by
  refine⟨by simp;omega,fun aj=>?_⟩;obtain⟨b,o,bk,O,hc⟩:=h.2 ab;refine⟨b,o,bk,O,fun j x hx=>hc j x ?_⟩;rw[List.getElem?_take] at hx;split at hx
  ·exact hx
  ·cases hx
 have aj:k<n:=ab;have a:=hX.take k;clear h hX hl hm bN;go_enter func65,ntmps65;go_wp2_with(fail);refine(sb A k k _ w q a).mono ?_;rintro e ac ⟨rfl,O⟩;go_wp2;go_ret;exact⟨ret_int (by rw[bs.o]),O⟩
theorem tF(A:Kr)(n c:Nat)(X:List bA)(e:Int)(w:World)(h:cC (EF hg) 3 w w.heap.size A n X)(hX:qu X)(he:e≤9223372036854775807) :
  Calls prog 66 #[.slice A n c,.int .i64 e] w fun r ac=>r=.returned (.int .i64 (br X e))∧Below w.heap.size w ac:=by
 have hl:=h.1;have hn:=hX.1;by_cases H:e<0
 ·have bs:=ad (show br X e = -1 from iN H);clear h hX hl;go_enter func66,ntmps66;exact uI
 go_enter func66,ntmps66;go_wp2;go_loopw [1,11] (fun s i wr=>∃k:Nat,k≤n∧i=.int .i64 k∧s=.int .i64 (e - elems (X.take k))∧elems (X.take k)≤e∧Below w.heap.size w wr) (fun _ i _=>n - (intOf i).toNat)
 case atStart=>exact⟨0,Kc _,rfl,CQ (by simp[elems]),by simp[elems];omega,Below.refl _ _⟩
 case round=>
  obtain⟨k,aj,rfl,rfl,hle,O⟩:=hrel;by_cases aw:k<n
  ·obtain⟨b,o,m,rfl,an,hm,c0,c1,c2⟩:=(h.fS O).HX aw;have u:=hX.l6 k;have bF:=hX.at_ hm;have U:=O.size;have bu:=ad (show elems (X.take (k+1))=elems (X.take k)+max m.size 1 by rw[a9 hm,h6];rfl);have dv:=ad hm;clear hm;by_cases aK:e - elems (X.take k)<max m.size 1
   ·have aX:=ad (show br X e=k from ks dv.o ab hle (by unfold bA.num;omega));go_wp2;go_ret;exact⟨ret_int (by rw[aX.o]),((O.alloc U _).alloc (by simp;omega) _)⟩
   ·go_wp2;go_roundw
    case rel=>exact⟨k+1,ab,by go_num,CQ (by rw[bu.o];omega),by rw[bu.o];omega,(((O.alloc U _).alloc (by simp;omega) _).alloc (by simp;omega) _)⟩
    case measure=>exact aB
  ·have aX:=ad (show br X e = -1 from iO (by rwa [JY ab] at hle));exact qN
end
section
attribute [local go_sem ↓] fW fX
theorem pS{e:TypeId}(h:w.ownsRow base e sz (.slice A n c) n xs):n≤c∧(A=none→n=0):=by
 rcases h.2 with⟨bD,h0⟩|⟨g,cap,cur,bD,_,_,bJ,_⟩
 ·injection bD with ae aC aT;exact⟨ab,fun _=>h0⟩
 ·injection bD with ae aC aT;subst ae aT;exact⟨bJ,(fun h=>nomatch h)⟩
theorem lP(A:Kr)(n c:Nat)(X:List bA)(w:World)(h:cC (EF hg) 3 w w.heap.size A n X)(hX:qu X) :
  Calls prog 103 #[.slice A n c] w fun r ac=>∃I az,r=.returned (.slice I (own X).length az)∧(own X).length≤az∧cC (EF b2) 1 ac ac.heap.size I (own X).length (own X)∧Below w.heap.size w ac:=by
 have hl:=h.1;have hn:=hX.1;go_enter func103,ntmps103;go_wp2;go_loopw [3,4] (fun v i wr=>∃k:Nat,k≤n∧i=.int .i64 k∧wr.ownsRow w.heap.size 3 1 v (iq X k).length ((iq X k).flatMap b2)∧Below w.heap.size w wr) (fun _ i _=>n - (intOf i).toNat)
 case atStart=>exact⟨0,Kc _,rfl,by rw[pR];exact World.ownsRow_nil _ _ _ _,Below.refl _ _⟩
 case round=>
  obtain⟨k,aj,rfl,S,O⟩:=hrel;by_cases aw:k<n
  ·have dv:∃m,X[k]?=some m:=⟨_,List.getElem?_eq_getElem ab⟩
   obtain⟨m,hm⟩:=dv;have bF:=hX.at_ hm;have dv:=ad hm;clear hm;go_wp2;obtain⟨au,rfl⟩:∃au:World,au=wr:=⟨_,rfl⟩
   go_loopw [3,5] (fun v i wr=>∃j:Nat,j≤m.pM∧i=.int .i64 j∧wr.ownsRow w.heap.size 3 1 v ((iq X k).length+j) ((iq X k++List.replicate j (k:Int)).flatMap b2)∧Below w.heap.size w wr) (fun _ i _=>m.pM - (intOf i).toNat)
   case atStart=>exact⟨0,Kc _,rfl,by simpa using S,O⟩
   case round=>
    obtain⟨j,bc,rfl,f,aW⟩:=hrel;clear S;obtain⟨b,o,bn,rfl,an,hm,c0,c1,c2⟩:=(h.fS aW).HX aw;obtain rfl:bn=m:=by have:=dv.o;rw[hm] at this;injection this
    have bO:=aW.size;have z:(bn.pM:Int)=max bn.size 1:=bn.sy;have d:=fV X k ab;have u:=hX.l6 k;clear hm;by_cases dc:j<bn.pM
    ·have bC:(j:Int)<max bn.size 1:=ab;have e:(iq X k).length+j+1≤5000:=ab;obtain⟨bW,bj⟩:=aM z d;clear z d;go_wp2_with(at_builtin;refine ch _ dm (by rfl) (.tmp 22) (.tmp 24) (by rfl) w.heap.size _ _ _ _ (by rfl) f (by rfl) (by rfl) (js _ _) ab ab bO ?_;intro v1 aN aL b7 cb);go_roundw
     case rel=>
      refine⟨j+1,ab,by go_num,?_,dJ aW f b7 (JQ _) bO⟩;rw[List.replicate_succ',←List.append_assoc,e6];exact aL
     case measure=>exact aB
    ·obtain rfl:j=bn.pM:=ab;have ah:¬((bn.pM:Int)<max bn.size 1):=ab;obtain⟨bW,bj⟩:=aM z d;clear z d;go_wp2;go_roundw
     case rel=>
      refine⟨k+1,ab,by go_num,?_,aW⟩;rw[jR dv.o,JS,List.length_replicate];exact f
     case measure=>exact aB
  ·obtain rfl:k=n:=ab;obtain⟨ce,c1,rfl,bB,_,_,_⟩:=bs S;have bK:=ad hl;clear hl;go_wp2;go_ret;have he:own X=iq X k:=by unfold own;rw[bK.o]
   rw[he];exact⟨_,_,rfl,bB,gS S (ib _) rfl,O⟩
theorem tR(A:Kr)(n c:Nat)(X:List bA)(m:Int)(w:World)(h:cC (EF hg) 3 w w.heap.size A n X)(hX:qu X) :
  Calls prog 68 #[.slice A n c,.int .i64 m] w fun r ac=>r=.returned (.int .i64 (eG X m))∧Below w.heap.size w ac:=by
 go_enter func68,ntmps68;go_wp2_with(fail);refine(lP A n c X w h hX).mono ?_;rintro e aN ⟨ce,c1,rfl,bB,aU,O⟩;have aa:=dC hX;have hl:=h.1;generalize hN:(own X).length=N at *;obtain⟨bW,bK⟩:=aM hN hl;clear hN hl;go_wp2
 go_loop [6] (fun i=>∃k:Nat,k≤N∧i=.int .i64 k∧∀j,j<k→(own X)[j]?≠some m) (fun i=>N - (intOf i).toNat)
 case atStart=>exact⟨0,Kc _,rfl,fun j bc=>absurd bc ab⟩
 case round=>
  obtain⟨k,aj,rfl,ca⟩:=hrel;have J:=ad ca;clear ca;by_cases aw:k<N
  ·obtain⟨b,o,x,rfl,an,hx,c0⟩:=aU.int aw;have aP:=ad hx;clear hx;by_cases ao:x=m
   ·subst ao;have aX:=ad (show eG X x=k by
     obtain⟨i,d,bD,P,ae,aC⟩:=Eu aP.o;have al:i<X.length:=(List.getElem?_eq_some_iff.1 P).1;rw[bD,mT al];have aD:=rr al;rcases Int.lt_or_le (elems (X.take i)) k with aw|hle
     ·exact absurd (by rw[aD,bD]) (J.o (elems (X.take i)).toNat (by have:=(hX.l6 i).1;omega))
     ·omega)
    exact qN
   ·have a1:(x == m)=false:=by simpa using ao
    go_wp2
    go_round
    case rel=>
     refine⟨k+1,ab,by go_num,fun j bc=>?_⟩;by_cases z:j<k
     ·exact J.o j z
     ·obtain rfl:j=k:=ab;rw[aP.o];intro he;injection he with he;exact ao he
    case measure=>exact aB
  ·obtain rfl:k=N:=ab;have aX:=ad (show eG X m = -1 by
    apply lG
    rcases Int.lt_or_le m 0 with h0|h0
    ·exact .inl h0
    ·rcases Int.lt_or_le m X.length with ae|ae
     ·exfalso;have aD:=rr (X:=X) (k:=m.toNat) ab;have aw:=(List.getElem?_eq_some_iff.1 aD).1;rw[bW.o] at aw;exact J.o _ aw (by rw[aD];congr 1;omega)
     ·exact .inr ae)
   exact qN
theorem kv(A:Kr)(n c:Nat)(X:List bA)(m:Int)(w:World)(h:cC (EF hg) 3 w w.heap.size A n X)(hX:qu X) :
  Calls prog 69 #[.slice A n c,.int .i64 m] w fun r ac=>r=.returned (.int .i64 (br X m))∧Below w.heap.size w ac:=by
 go_enter func69,ntmps69;go_wp2_with(fail);refine(lP A n c X w h hX).mono ?_;rintro e aN ⟨ce,c1,rfl,bB,aU,O⟩;have aa:=dC hX;have b0:=eK X;generalize hN:(own X).length=N at *;obtain⟨bW,a2⟩:=aM hN b0;clear hN b0;by_cases h0:m<0
 ·have aX:=ad (show br X m = -1 from iN h0);exact qN
 by_cases ae:(N:Int)≤m
 ·have aX:=ad (show br X m = -1 from iO (aH a2.o));exact qN
 obtain⟨k,rfl⟩:=JV (show 0≤m by omega);obtain⟨b,o,x,rfl,an,hx,c0⟩:=aU.int (show k<N by omega);have aX:=ad (show br X k=x by unfold br;rw[if_neg ab,Kb,hx];rfl);have d:k<N:=ab;clear hx ae h0;exact qN
end
variable{T:List db}
section
attribute [local go_sem ↓] fW fX
def jo(T:List db)(e:Int):db:=(T[e.toNat]?).getD ⟨0,0⟩
def ED(X:List bA)(i:Int):Bool:=((X[i.toNat]?).map bA.re).getD false
def free(X:List bA)(T:List db)(e th:Int):Bool:=
 decide (0≤br X e∧0≤th) && ((jo T e).owner == 0 || ((jo T e).owner == th+1 && ED X (br X e)))
def heldBy(X:List bA)(T:List db)(e th:Int):Bool:=decide (0≤br X e∧0≤th) && (jo T e).owner == th+1
def hq(X:List bA)(T:List db)(e th:Int):List db:=if free X T e th then T.set e.toNat ⟨th+1,(jo T e).depth+1⟩ else T
def down(h:db):db:=⟨if h.depth - 1=0 then 0 else h.owner,h.depth - 1⟩
def dI(X:List bA)(T:List db)(e th:Int):List db:=if heldBy X T e th then T.set e.toNat (down (jo T e)) else T
structure F8(X:List bA)(T:List db):Prop where
 len:T.length=(own X).length
 bound:∀h∈T,0≤h.owner∧h.owner≤1000000000∧0≤h.depth∧h.depth≤1000000000
theorem F8.at_(h:F8 X T)(he:0≤br X e):∃k m hd,e=(k:Nat)∧k<T.length∧T[k]?=some hd∧jo T e=hd∧br X e=(m:Nat)∧m<X.length:=by
 obtain⟨h0,ae⟩:=iM.1 he;obtain⟨i,d,al,hm,_⟩:=su he;obtain⟨k,rfl⟩:=JV h0;have hl:=eK X;have aj:k<T.length:=by rw[h.len];omega
 exact⟨k,i,T[k],rfl,aj,List.getElem?_eq_getElem aj,by unfold jo;rw[Kb,List.getElem?_eq_getElem aj];rfl,al,(List.getElem?_eq_some_iff.1 hm).1⟩
theorem pw(h:¬(0≤br X e∧0≤th)):free X T e th=false:=by
 unfold free;rw[decide_eq_false h];rfl
theorem py(h:¬(0≤br X e∧0≤th)):heldBy X T e th=false:=by
 unfold heldBy;rw[decide_eq_false h];rfl
theorem jO(X:List bA)(T:List db)(e th:Int):(hq X T e th).length=T.length:=by
 unfold hq;split<;>simp
theorem iy(X:List bA)(T:List db)(e th:Int):(dI X T e th).length=T.length:=by
 unfold dI;split<;>simp
namespace AK
theorem zk(h:p:=by
 by_cases b8:hd.owner=th+1
 ·have bj:=ad b8;have i:=ad cP;have a:(hd.owner - 1 == th)=true:=by simp;omega
  exact wO
 ·have bj:=ad (show (hd.owner == th+1)=false by simpa using b8);have i:=ad cP;have a:(hd.owner - 1 == th)=false:=by simp;omega
  exact wO
 ):p:=h
end AK
open AK in
theorem CJ(A A2:Kr)(n c n2 c2:Nat)(X:List bA)(T:List db)(e th:Int)(w:World)(h:cC (EF hg) 3 w w.heap.size A n X)(hX:qu X)
  (ht:cC (EF cz) 2 w w.heap.size A2 n2 T) (hT:F8 X T) (he:e≤9223372036854775807) (aR:th≤4611686018427387904) :
  Calls prog 36 #[.slice A n c,.slice A2 n2 c2,.int .i64 e,.int .i64 th] w fun r ac=>r=.returned (.bool (free X T e th))∧Below w.heap.size w ac:=by
 go_enter func36,ntmps36;go_wp2_with(fail);refine(tF A n c X e w h hX he).mono ?_;exact zj
namespace AL
theorem zk(h:p:=by
 by_cases b8:hd.owner=th+1
 ·have bj:=ad b8;have i:=ad cP;have a:(hd.owner == th+1)=true:=by simp;omega
  exact wO
 ·have bj:=ad (show (hd.owner == th+1)=false by simpa using b8);have i:=ad cP;have a:(hd.owner == th+1)=false:=by simp;omega
  exact wO
 ):p:=h
end AL
open AL in
theorem nQ(A A2:Kr)(n c n2 c2:Nat)(X:List bA)(T:List db)(e th:Int)(w:World)(h:cC (EF hg) 3 w w.heap.size A n X)(hX:qu X)
  (ht:cC (EF cz) 2 w w.heap.size A2 n2 T) (hT:F8 X T) (aR:th≤4611686018427387904) :
  Calls prog 38 #[.slice A n c,.slice A2 n2 c2,.int .i64 e,.int .i64 th] w fun r ac=>r=.returned (.bool (free X T e th))∧Below w.heap.size w ac:=by
 go_enter func38,ntmps38;go_wp2_with(fail);refine(kv A n c X e w h hX).mono ?_;exact zj
theorem mu{a:Nat}{e:TypeId}{v:Value}(h:w.ownsRow base e sz v n xs)(O:a≤base):w.ownsRow a e sz v n xs:=by
 refine⟨h.1,?_⟩;rcases h.2 with aC|⟨g,cap,cur,rfl,j,rest⟩
 ·exact .inl aC
 ·exact .inr ⟨g,cap,cur,rfl,ab,rest⟩
def h3(w:World)(T:List db)(b:Bool)(r:Ending)(ac:World):Prop:=
 ∃I az,r=.returned (.tuple #[.slice I T.length az,.bool b])∧ac.ownsRow w.heap.size 83 2 (.slice I T.length az) T.length (T.flatMap cz)∧Below w.heap.size w ac
theorem h3.mk'{R:Bool}(hn:T.length=n)(S:ac.ownsRow w.heap.size 83 2 (.slice A n c) n (T.flatMap cz))(O:Below w.heap.size w ac)(an:b=R):
  h3 w T b (.returned (.tuple #[.slice A n c,.bool R])) ac:=by
 subst hn an;exact⟨A,c,rfl,S,O⟩
theorem h3.open_{r:Ending}(h:h3 w T b r ac)(hn:T.length=n):
  ∃I az,r=.returned (.tuple #[.slice I n az,.bool b])∧n≤az∧cC (EF cz) 2 ac ac.heap.size I n T∧ac.ownsRow w.heap.size 83 2 (.slice I n az) n (T.flatMap cz)∧Below w.heap.size w ac:=by
 subst hn;obtain⟨A,c,aU,S,O⟩:=h;exact⟨A,c,aU,(pS S).1,gS S (eQ T) rfl,S,O⟩
theorem mw{hd:db}(h:w.ownsRow base 83 2 (.slice A n c) n (T.flatMap cz))(aj:k<n)(hx:T[k]?=some hd):
  ∃g,A=some ⟨g,0,none⟩∧base≤g∧g<w.heap.size∧w.cell? ⟨g,k*2,none⟩=some (.int .i64 hd.owner)∧w.cell? ⟨g,k*2+1,none⟩=some (.int .i64 hd.depth)∧(∀j,w.frozen? ⟨g,j,none⟩=false)∧
   (∀x,(w.setCell ⟨g,k*2,none⟩ (.int .i64 x)).ownsRow base 83 2 (.slice A n c) n ((T.set k ⟨x,hd.depth⟩).flatMap cz))∧
   (∀x,(w.setCell ⟨g,k*2+1,none⟩ (.int .i64 x)).ownsRow base 83 2 (.slice A n c) n ((T.set k ⟨hd.owner,x⟩).flatMap cz)):=by
 obtain⟨g,bk,O,aw,hc,aD,hs⟩:=hR h ab;have h0:=fp cz 2 T (eQ T) k hd hx 0 ab;have ae:=fp cz 2 T (eQ T) k hd hx 1 ab;refine⟨g,bk,O,aw,hc _ _ h0,hc _ _ ae,aD,fun x=>?_,fun x=>?_⟩
 ·rw[←jK cz 2 T (eQ T) k hd hx 0 (.int .i64 x) ⟨x,hd.depth⟩ ab rfl];exact hs _ _ ab
 ·rw[←jK cz 2 T (eQ T) k hd hx 1 (.int .i64 x) ⟨hd.owner,x⟩ ab rfl];exact hs _ _ ab
theorem tS(A A2:Kr)(n c n2 c2:Nat)(X:List bA)(T:List db)(e th:Int)(w:World)(h:cC (EF hg) 3 w w.heap.size A n X)(hX:qu X)
  (ht:cC (EF cz) 2 w w.heap.size A2 n2 T) (hT:F8 X T) (aR:th≤4611686018427387904) :
  Calls prog 51 #[.slice A n c,.slice A2 n2 c2,.int .i64 e,.int .i64 th] w (h3 w (hq X T e th) (free X T e th)):=by
 have am:=ht.1;have co:n2≤5000:=by have:=dC hX;have:=hT.len;omega
 have bt:=jO X T e th;generalize aL:hq X T e th=L at *;have bs:=ad aL;clear aL;rw[am] at bt;have H:=ad bt;clear bt;go_enter func51,ntmps51;have av:=Src.nP ht (eQ T) (m2 T) ab;have bL:A2=none→n2=0:=fun h0=>by
  exact yQ
 have cD:=ad bL;clear bL;go_wp2_with(at_builtin;refine iR _ oc (by rfl) (.tmp 10) (.tmp 11) (by rfl) (by rfl) _ _ _ _ (by rfl) av ab ab cD.o ?_;intro ce c1 aN S O);go_wp2_with(fail);have q:=h.cO O O.size;have j:cC (EF cz) 2 aN aN.heap.size ce n2 T:=gS S (eQ T) am;refine(nQ A ce n c n2 c1 X T e th aN q hX j hT aR).mono ?_;rintro r aO ⟨rfl,bx⟩;have bO:=O.size;have du:=O.trans (bx.mono O.size);have ag:=b5 S bx
 cases aD:free X T e th with
 | false=>
  go_wp2
  go_ret2
  have bR:L=T:=by rw[←bs.o];unfold hq;rw[aD];rfl
  exact h3.mk' H.o (by rw[bR];exact ag) du aD
 | true=>
  have hm:0≤br X e∧0≤th:=by
   by_cases aQ:0≤br X e∧0≤th
   ·exact aQ
   ·rw[pw aQ] at aD;cases aD
  obtain⟨k,m,hd,rfl,aj,d,f,P,ct⟩:=hT.at_ hm.1;have J:k<n2:=ab;have bv:=hT.bound hd (JT d);obtain⟨g,rfl,aJ,dw,e0,e1,aa,G,s1⟩:=mw ag J d;have t:=aa (k*2);have v:=aa (k*2+1);have bR:L=T.set k ⟨th+1,hd.depth+1⟩:=by rw[←bs.o];unfold hq;rw[aD,f];rfl
  obtain⟨bK,bX⟩:=aM bR aD;have ci:=hm.2;have l:=ad (G (th+1));clear d f P bR aD hm G s1 aa am;go_wp2
  go_ret2
  refine h3.mk' (A:=some ⟨g,0,none⟩) (c:=c1) (n:=n2) H.o ?_ ?_ bX.o
  ·rw[bK.o];have bP:(T.set k ⟨th+1,hd.depth⟩)[k]?=some ⟨th+1,hd.depth⟩:=by rw[List.getElem?_set_self ab]
   obtain⟨ai,i,_,_,_,_,_,_,s1⟩:=mw l.o J bP;injection i with i;injection i with i;subst i;have:=s1 (hd.depth+1);rw[List.set_set] at this;exact this
  ·exact(du.setCell (by simpa using aJ) _).setCell (by simpa using aJ) _
theorem qJ(A A2:Kr)(n c n2 c2:Nat)(X:List bA)(T:List db)(e th:Int)(w:World)(h:cC (EF hg) 3 w w.heap.size A n X)(hX:qu X)
  (ht:cC (EF cz) 2 w w.heap.size A2 n2 T) (hT:F8 X T) (aR:th≤4611686018427387904) :
  Calls prog 52 #[.slice A n c,.slice A2 n2 c2,.int .i64 e,.int .i64 th] w (h3 w (dI X T e th) (heldBy X T e th)):=by
 have am:=ht.1;have co:n2≤5000:=by have:=dC hX;have:=hT.len;omega
 have bt:=iy X T e th;have hlen:(n2:Int)=elems X:=by rw[←eK,←hT.len,am]
 generalize aL:dI X T e th=L at *;obtain⟨bs,bW⟩:=aM aL hlen;clear aL hlen;rw[am] at bt;have H:=ad bt;clear bt;go_enter func52,ntmps52;have av:=Src.nP ht (eQ T) (m2 T) ab;have bL:A2=none→n2=0:=fun h0=>by
  exact yQ
 have cD:=ad bL;clear bL;go_wp2_with(at_builtin;refine iR _ oc (by rfl) (.tmp 10) (.tmp 11) (by rfl) (by rfl) _ _ _ _ (by rfl) av ab ab cD.o ?_;intro ce c1 aN j u);go_wp2_with(fail);have q:=h.cO u u.size;refine(kv A n c X e aN q hX).mono ?_;rintro r aO ⟨rfl,bx⟩;have s:=u.size;have O:=u.trans (bx.mono u.size);have bO:=O.size;have S:=b5 j bx;clear bx j u s;have no:heldBy X T e th=false→L=T:=fun h=>by rw[←bs.o];unfold dI;rw[h];rfl
 by_cases hm:0≤br X e
 case neg=>
  have aD:heldBy X T e th=false:=py (fun aQ=>hm aQ.1);have bK:=ad (no aD);have bX:=ad aD;have cj:br X e<0:=ab;clear hm no aD am;go_wp2
  go_ret2
  exact uJ
 obtain⟨k,m,hd,rfl,aj,d,f,P,ct⟩:=hT.at_ hm;have J:k<n2:=ab;rw[P];by_cases aT:0≤th
 case neg=>
  have aD:heldBy X T k th=false:=py ab;have bK:=ad (no aD);have bX:=ad aD;have l:th<0:=ab;clear aT no aD am d f P hm;go_wp2
  go_ret2
  exact uJ
 have bv:=hT.bound hd (JT d);obtain⟨g,rfl,aJ,dw,e0,e1,aa,G,s1⟩:=mw S J d;by_cases a9:hd.owner=th+1
 case neg=>
  have aD:heldBy X T k th=false:=by
   unfold heldBy;rw[f,show (hd.owner == th+1)=false by simpa using a9];simp
  have bK:=ad (no aD);have bX:=ad aD;have x:(hd.owner != th+1)=true:=by simpa using a9
  clear a9 no aD am d f P hm G s1 aa;go_wp2
  go_ret2
  exact uJ
 have aD:heldBy X T k th=true:=by
  unfold heldBy;rw[f,show (hd.owner == th+1)=true by simpa using a9,decide_eq_true ⟨hm,aT⟩];rfl
 have x:(hd.owner != th+1)=false:=by simpa using a9
 have t:=aa (k*2);have v:=aa (k*2+1);have bR:L=T.set k (down hd):=by rw[←bs.o];unfold dI;rw[aD,f];rfl
 obtain⟨bK,bX⟩:=aM bR aD;have C:=ad (s1 (hd.depth - 1));have Q:=ad d;clear d f P bR aD hm G s1 aa am no a9;by_cases cl:hd.depth - 1=0
 ·have y:(hd.depth - 1 == 0)=true:=by simpa using cl
  have z:=ad cl;clear cl;go_wp2
  go_ret2
  refine h3.mk' (A:=some ⟨g,0,none⟩) (c:=c1) (n:=n2) H.o ?_ ?_ bX.o
  ·rw[bK.o,down,if_pos z.o];have bP:(T.set k ⟨hd.owner,hd.depth - 1⟩)[k]?=some ⟨hd.owner,hd.depth - 1⟩:=by rw[List.getElem?_set_self ab]
   obtain⟨ai,i,_,_,_,_,_,G,_⟩:=mw C.o J bP;injection i with i;injection i with i;subst i;have:=G 0;rw[List.set_set] at this;exact this
  ·exact(O.setCell (by simpa using aJ) _).setCell (by simpa using aJ) _
 ·have y:(hd.depth - 1 == 0)=false:=by simpa using cl
  have z:=ad cl;clear cl;go_wp2
  go_ret2
  refine h3.mk' (A:=some ⟨g,0,none⟩) (c:=c1) (n:=n2) H.o ?_ ?_ bX.o
  ·rw[bK.o,down,if_neg z.o];exact C.o
  ·exact O.setCell (by simpa using aJ) _
end
section
attribute [local go_sem ↓] fW fX
theorem jW(b:Bool)(w:World):Calls prog 151 #[.bool b] w fun e ac=>e=.returned (.int .i64 (eV b))∧w=ac:=by
 cases b<;>(go_enter func151,ntmps151;go_wp2;go_ret;exact⟨rfl,rfl⟩)
theorem hA(b:Bool)(w:World):Calls prog 85 #[.bool b] w fun e ac=>e=.returned (.int .i64 (eV b))∧w=ac:=by
 cases b<;>(go_enter func85,ntmps85;go_wp2;go_ret;exact⟨rfl,rfl⟩)
theorem nz(A:Kr)(n c:Nat)(l:List Int)(k:Int)(w:World)(h:cC (EF b2) 1 w w.heap.size A n l)(h0:0≤k)(ae:k<n) :
  Calls prog 150 #[.slice A n c,.int .i64 k] w fun e ac=>e=.returned (.int .i64 (l.getD k.toNat 0))∧w=ac:=by
 obtain⟨j,rfl⟩:=JV h0;obtain⟨b,o,x,rfl,O,hx,hc⟩:=h.int (show j<n by omega);have bc:j<n:=ab;have aP:=ad (show l.getD (j:Int).toNat 0=x by rw[Kb,List.getD_eq_getElem?_getD,hx];rfl);clear hx h;go_enter func150,ntmps150;go_wp2;go_ret;exact⟨ret_int (by rw[aP.o]),rfl⟩
theorem mA(a b:Int)(O:b≠0)(w:World) :
  Calls prog 86 #[.int .i64 a,.int .i64 b] w fun e ac=>e=.returned (.int .i64 (wrap64 (a.tdiv b)))∧w=ac:=by
 by_cases ae:b = -1
 ·subst ae;go_enter func86,ntmps86;go_wp2;go_ret;exact⟨ret_int (by rw[Int.tdiv_neg,Int.tdiv_one]),rfl⟩
 ·have b7:(b == -1)=false:=by simpa using ae
  have cI:(b == 0)=false:=by simpa using O
  go_enter func86,ntmps86;go_wp2;go_ret;exact⟨rfl,rfl⟩
def fH(w:World)(r:Int×Int)(e:Ending)(ac:World):Prop:=e=.returned (.tuple #[.int .i64 r.1,.int .i64 r.2])∧Below w.heap.size w ac
theorem fH.mk'{r:Int×Int}{a b:Int}(aU:r=(a,b))(O:Below w.heap.size w ac):fH w r (.returned (.tuple #[.int .i64 a,.int .i64 b])) ac:=by
 subst aU;exact⟨rfl,O⟩
theorem oW(op a b:Int)(h:5≤op∧op≤15)(w:World) :
  Calls prog 152 #[.int .i64 op,.int .i64 a,.int .i64 b] w (fH w (arith op a b)):=by
 by_cases hdiv:(op=6∨op=7)∧b=0
 ·obtain⟨aE,rfl⟩:=hdiv;rcases aE with rfl|rfl
  all_goals
   go_enter func152,ntmps152;go_wp2
   go_ret2
   exact fH.mk' rfl (Below.refl _ _)
 ·obtain rfl|rfl|rfl|rfl|rfl|rfl|rfl|rfl|rfl|rfl|rfl:op=5∨op=6∨op=7∨op=8∨op=9∨op=10∨op=11∨op=12∨op=13∨op=14∨op=15:=ab
  case inr.inl=>
   have O:b≠0:=fun aQ=>hdiv ⟨.inl rfl,aQ⟩;have cI:(b == 0)=false:=by simpa using O
   have HA:=ad (show arith 6 a b=(wrap64 (a.tdiv b),0) by unfold arith;simp[O]);clear hdiv h;go_enter func152,ntmps152;go_wp2
   go_ret2
   exact fH.mk' HA.o (Below.refl _ _)
  case inr.inr.inl=>
   have O:b≠0:=fun aQ=>hdiv ⟨.inr rfl,aQ⟩;have cI:(b == 0)=false:=by simpa using O
   have HA:=ad (show arith 7 a b=(a.tmod b,0) by unfold arith;simp[O]);clear hdiv h;go_enter func152,ntmps152;go_wp2
   go_ret2
   exact fH.mk' HA.o (Below.refl _ _)
  all_goals
   clear hdiv h;go_enter func152,ntmps152;go_wp2_with((go_at_call 151;refine(jW _ _).mono ?_;rintro e ac ⟨rfl,rfl⟩))
   go_ret2
   exact fH.mk' rfl (Below.refl _ _)
end
end Go.Proofs.YtbkhhfajcgkpgaaGreat

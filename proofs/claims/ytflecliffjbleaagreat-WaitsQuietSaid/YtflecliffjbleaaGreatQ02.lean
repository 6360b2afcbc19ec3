/- Part 2 of the proof. No condition of its own. -/
import Derived.Test.YtflecliffjbleaaGreatQ01
namespace Go.Proofs.YtflecliffjbleaaGreat
open Go.RowKit Go.Proofs.Tryz
set_option maxRecDepth 1000000
set_option maxHeartbeats 25600000
set_option linter.unusedVariables false
variable{b:Bool}{e x:Int}{xs:List Value}{B base c k n sz:Nat}{A:LP}{p:Prop}{ac w:World}
inductive VE where
 | num (n:Int)
 | gT (s:ByteArray)
 | loc (k:Int)
 | iz (k:Int)
 | un (op:Int) (x:VE)
 | bin (op:Int) (x y:VE)
def VE.rep(w:World)(P:Nat->Prop):VE->List Value->Prop
 | .num n=>λcs=>∃nm A c,cs=[.int .i64 1,.int .i64 n,.string nm,.slice A 0 c]
 | .gT s=>λcs=>∃n A c,cs=[.int .i64 2,.int .i64 n,.string s,.slice A 0 c]
 | .loc k=>λcs=>∃nm A c,cs=[.int .i64 18,.int .i64 k,.string nm,.slice A 0 c]
 | .iz k=>λcs=>∃nm A c,cs=[.int .i64 19,.int .i64 k,.string nm,.slice A 0 c]
 | .un op x=>λcs=>∃n nm b o c bs Z bu E,cs=[.int .i64 op,.int .i64 n,.string nm,.slice (some ⟨b,o,none⟩) 1 c]/\P b/\x.rep w P [bs,Z,bu,E]/\
   w.cell? ⟨b,o,none⟩=some bs/\w.cell? ⟨b,o+1,none⟩=some Z/\w.cell? ⟨b,o+2,none⟩=some bu/\w.cell? ⟨b,o+3,none⟩=some E
 | .bin op x y=>λcs=>∃n nm b o c bs Z bu E cu cr br aa,cs=[.int .i64 op,.int .i64 n,.string nm,.slice (some ⟨b,o,none⟩) 2 c]/\P b/\x.rep w P [bs,Z,bu,E]/\y.rep w P [cu,cr,br,aa]/\
   w.cell? ⟨b,o,none⟩=some bs/\w.cell? ⟨b,o+1,none⟩=some Z/\w.cell? ⟨b,o+2,none⟩=some bu/\w.cell? ⟨b,o+3,none⟩=some E/\
   w.cell? ⟨b,o+4,none⟩=some cu/\w.cell? ⟨b,o+5,none⟩=some cr/\w.cell? ⟨b,o+6,none⟩=some br/\w.cell? ⟨b,o+7,none⟩=some aa
theorem VE.aP{w ac:World}{P:Nat->Prop}(ai:∀b,P b->ac.heap[b]?=w.heap[b]?):∀(e:VE) (cs:List Value),e.rep w P cs->e.rep ac P cs
 | .num _,_,h=>h
 | .gT _,_,h=>h
 | .loc _,_,h=>h
 | .iz _,_,h=>h
 | .un op x,cs,h=>by
  obtain⟨n,nm,b,o,c,bs,Z,bu,E,T,O,hx,c0,c1,c2,c3⟩:=h;have hc:∀j,ac.cell? ⟨b,j,none⟩=w.cell? ⟨b,j,none⟩:=λj=>World.cell?_of_block (w:=w) (ai b O)
  exact⟨n,nm,b,o,c,bs,Z,bu,E,T,O,VE.aP ai x _ hx,(hc _).trans c0,(hc _).trans c1,(hc _).trans c2,(hc _).trans c3⟩
 | .bin op x y,cs,h=>by
  obtain⟨n,nm,b,o,c,bs,Z,bu,E,cu,cr,br,aa,T,O,hx,a4,c0,c1,c2,c3,d0,d1,d2,d3⟩:=h;have hc:∀j,ac.cell? ⟨b,j,none⟩=w.cell? ⟨b,j,none⟩:=λj=>World.cell?_of_block (w:=w) (ai b O);exact⟨n,nm,b,o,c,bs,Z,bu,E,cu,cr,br,aa,T,O,VE.aP ai x _ hx,VE.aP ai y _ a4,(hc _).trans c0,(hc _).trans c1,(hc _).trans c2,(hc _).trans c3,(hc _).trans d0,(hc _).trans d1,(hc _).trans d2,(hc _).trans d3⟩
theorem VE.aE{w:World}{P bf:Nat->Prop}(hp:∀b,P b->bf b):∀(e:VE) (cs:List Value),e.rep w P cs->e.rep w bf cs
 | .num _,_,h=>h
 | .gT _,_,h=>h
 | .loc _,_,h=>h
 | .iz _,_,h=>h
 | .un op x,cs,h=>by
  obtain⟨n,nm,b,o,c,bs,Z,bu,E,T,O,hx,hc⟩:=h
  exact⟨n,nm,b,o,c,bs,Z,bu,E,T,hp b O,VE.aE hp x _ hx,hc⟩
 | .bin op x y,cs,h=>by
  obtain⟨n,nm,b,o,c,bs,Z,bu,E,cu,cr,br,aa,T,O,hx,a4,hc⟩:=h;exact⟨n,nm,b,o,c,bs,Z,bu,E,cu,cr,br,aa,T,hp b O,VE.aE hp x _ hx,VE.aE hp y _ a4,hc⟩
abbrev VE.at_(w:World)(e:VE)(cs:List Value):Prop:=e.rep w (·<w.heap.size) cs
theorem VE.IC{e:VE}{cs:List Value}(h:e.at_ w cs)(O:Below w.heap.size w ac):e.at_ ac cs:=
 VE.aE (λ_ aw=>Lc aw O.size) _ _ (VE.aP (λb aw=>O.block b aw) _ _ h)
def VE.ok(ng nl:Nat):VE->Prop
 | .num _=>True
 | .gT _=>False
 | .loc k=>0<=k/\k<nl
 | .iz k=>0<=k/\k<ng
 | .un op x=>(op=3\/op=4)/\x.ok ng nl
 | .bin op x y=>(5<=op/\op<=17)/\x.ok ng nl/\y.ok ng nl
def ff(b:Bool):Int:=if b then 1 else 0
def arith(op a b:Int):Int×Int:=
 if op=5 then (wrap64 (a*b),0) else if op=8 then (wrap64 (a+b),0) else if op=9 then (wrap64 (a - b),0)
 else if op=6 then (if b=0 then (0,1) else (wrap64 (a.tdiv b),0))
 else if op=7 then (if b=0 then (0,1) else (a.tmod b,0))
 else if op=10 then (ff (decide (a<b)),0) else if op=11 then (ff (decide (a<=b)),0)
 else if op=12 then (ff (decide (b<a)),0) else if op=13 then (ff (decide (b<=a)),0)
 else if op=14 then (ff (a == b),0) else if op=15 then (ff (a != b),0) else (0,0)
def ev(g l:List Int):VE->Int×Int
 | .num n=>(n,0)
 | .gT _=>(0,0)
 | .loc k=>(l.getD k.toNat 0,0)
 | .iz k=>(g.getD k.toNat 0,0)
 | .un op x=>if (ev g l x).2≠0 then (0,(ev g l x).2) else if op=3 then (wrap64 (-(ev g l x).1),0) else (ff ((ev g l x).1 == 0),0)
 | .bin op x y=>
  if (ev g l x).2≠0 then (0,(ev g l x).2)
  else if op=16/\(ev g l x).1=0 then (0,0)
  else if op=17/\(ev g l x).1≠0 then (1,0)
  else if (ev g l y).2≠0 then (0,(ev g l y).2)
  else if op=16\/op=17 then (ff ((ev g l y).1 != 0),0)
  else arith op (ev g l x).1 (ev g l y).1
structure bF where
 name:ByteArray
 re:Bool
 size:Int
structure dn where
 owner:Int
 depth:Int
 deriving DecidableEq
def hy(m:bF):List Value:=[.string m.name,.bool m.re,.int .i64 m.size]
def cG(h:dn):List Value:=[.int .i64 h.owner,.int .i64 h.depth]
def bF.num(m:bF):Int:=max m.size 1
def bF.qw(m:bF):Nat:=(max m.size 1).toNat
theorem bF.o9(m:bF):1<=m.num:=by unfold bF.num;omega
theorem bF.tb(m:bF):(m.qw:Int)=m.num:=by unfold bF.num bF.qw;omega
def q9(X:List bF):Prop:=X.length<=64/\∀m∈X,0<=m.size/\m.size<=64
def elems(X:List bF):Int:=(X.map bF.num).sum
theorem pW(m:bF)(X:List bF):elems (m::X)=m.num+elems X:=by simp[elems]
theorem yD(X Y:List bF):elems (X++Y)=elems X+elems Y:=by simp[elems]
theorem iv(X:List bF)(m:bF):elems (X++[m])=elems X+m.num:=by simp[elems]
theorem ob:∀(X:List bF),(∀m∈X,0<=m.size/\m.size<=64)->(X.length:Int)<=elems X/\elems X<=64*X.length
 | [],_=>by simp[elems]
 | m::X,h=>by
  have ae:=h m (by simp);have aD:=ob X (λm hm=>h m (by simp[hm]));rw[pW];simp only[Lo];have:=m.o9;unfold bF.num at *;omega
theorem q9.take{X:List bF}(h:q9 X)(k:Nat):q9 (X.take k):=
 ⟨by have:=h.1;simp;omega,λm hm=>h.2 m (List.mem_of_mem_take hm)⟩
variable{X:List bF}
theorem q9.bound(h:q9 X):0<=elems X/\elems X<=4096:=by
 have:=ob X h.2;have:=h.1;omega
theorem q9.mJ(h:q9 X)(k:Nat):0<=elems (X.take k)/\elems (X.take k)<=4096:=(h.take k).bound
variable{m:bF}
theorem q9.at_(h:q9 X)(hm:X[k]?=some m):0<=m.size/\m.size<=64:=h.2 m (Le hm)
theorem rn(X:List bF)(k:Nat):elems (X.take k)<=elems X:=by
 have h:=yD (X.take k) (X.drop k);rw[List.take_append_drop] at h;have:∀Y:List bF,0<=elems Y:=λY=>by
  induction Y with
  | nil=>simp[elems]
  | cons m Y ao=>rw[pW];have:=m.o9;omega
 have:=this (X.drop k);omega
def iG(X:List bF)(k:Nat):List Int:=(X.take k).zipIdx.flatMap λp=>List.replicate p.1.qw (p.2:Int)
def own(X:List bF):List Int:=iG X X.length
theorem qB(X:List bF):iG X 0=[]:=by simp[iG]
theorem j7(h:X[k]?=some m):iG X (k+1)=iG X k++List.replicate m.qw (k:Int):=by
 have ai:k<X.length:=(List.getElem?_eq_some_iff.1 h).1;unfold iG;rw[a1 h,List.zipIdx_append,List.flatMap_append];congr 1
 simp[Nat.min_eq_left (Nat.le_of_lt ai)]
theorem gh(X:List bF):∀k,k<=X.length->((iG X k).length:Int)=elems (X.take k)
 | 0,_=>by simp[qB,elems]
 | k+1,h=>by
  have hm:X[k]?=some (X[k]'ab):=List.getElem?_eq_getElem _;rw[j7 hm,a1 hm,iv,Ld,List.length_replicate,Int.natCast_add,gh X k ab,bF.tb]
theorem eS(X:List bF):((own X).length:Int)=elems X:=by
 rw[own,gh X _ (Lb _),List.take_length]
theorem dJ(h:q9 X):(own X).length<=4096:=by
 have:=eS X;have:=h.bound;omega
theorem mZ(X:List bF)(k:Nat):∀d,k+d<=X.length->∃s,iG X (k+d)=iG X k++s
 | 0,_=>⟨[],by simp⟩
 | d+1,h=>by
  obtain⟨s,hs⟩:=mZ X k d ab;have hm:X[k+d]?=some (X[k+d]'ab):=List.getElem?_eq_getElem _;exact⟨s++List.replicate (X[k+d]'ab).qw ((k+d:Nat):Int),by rw[show k+(d+1)=(k+d)+1 from rfl,j7 hm,hs,Lp]⟩
theorem wG(h:X[k]?=some m){e:Nat}(ae:elems (X.take k)<=e)(aD:(e:Int)<elems (X.take k)+m.num):(own X)[e]?=some (k:Int):=by
 have ai:k<X.length:=(List.getElem?_eq_some_iff.1 h).1;obtain⟨s,hs⟩:=mZ X (k+1) (X.length - (k+1)) ab;rw[own,show X.length=k+1+(X.length - (k+1)) from by omega,hs,j7 h];have hl:=gh X k ab;have hn:=m.tb;rw[Lp,List.getElem?_append_right ab,List.getElem?_append_left (by rw[List.length_replicate];omega),List.getElem?_replicate,if_pos ab]
def bw(X:List bF)(e:Int):Int:=if e<0 then -1 else ((own X)[e.toNat]?).getD (-1)
theorem iW(h:e<0):bw X e = -1:=if_pos h
theorem kQ(h:X[k]?=some m)(h0:0<=e)(ae:elems (X.take k)<=e)(aD:e<elems (X.take k)+m.num):bw X e=k:=by
 unfold bw;rw[if_neg ab,wG h (e:=e.toNat) ab ab];rfl
theorem iX(h:elems X<=e):bw X e = -1:=by
 unfold bw;split
 .rfl
 .rw[List.getElem?_eq_none (aC (eS X))];rfl
theorem m1(X:List bF):∀(k:Nat),k<=X.length->∀e:Int,0<=e->e<elems (X.take k)->∃i m,i<k/\X[i]?=some m/\elems (X.take i)<=e/\e<elems (X.take i)+m.num
 | 0,_,e,h0,h=>by simp[elems] at h;omega
 | k+1,ai,e,h0,h=>by
  have hm:X[k]?=some (X[k]'ab):=List.getElem?_eq_getElem _;by_cases aw:e<elems (X.take k)
  .obtain⟨i,m,ak,hx,ae,aD⟩:=m1 X k ab e h0 aw;exact⟨i,m,ab,hx,ae,aD⟩
  .refine⟨k,_,ab,hm,ab,?_⟩;rw[a1 hm,iv] at h;exact h
theorem s8(h:0<=bw X e):∃i m,bw X e=(i:Nat)/\X[i]?=some m/\0<=e/\elems (X.take i)<=e/\e<elems (X.take i)+m.num:=by
 have h0:0<=e:=by
  rcases Int.lt_or_le e 0 with q|q
  .rw[iW q] at h;omega
  .exact q
 have aw:e<elems X:=by
  rcases Int.lt_or_le e (elems X) with q|q
  .exact q
  .rw[iX q] at h;omega
 obtain⟨i,m,_,hm,ae,aD⟩:=m1 X X.length (Lb _) e h0 (by rwa [List.take_length]);exact⟨i,m,kQ hm h0 ae aD,hm,h0,ae,aD⟩
theorem qt(h0:0<=e)(h:e<elems X):0<=bw X e:=by
 obtain⟨i,m,_,hm,ae,aD⟩:=m1 X X.length (Lb _) e h0 (by rwa [List.take_length]);rw[kQ hm h0 ae aD];omega
theorem iV:0<=bw X e↔0<=e/\e<elems X:=by
 constructor
 .intro h;refine⟨?_,?_⟩
  .rcases Int.lt_or_le e 0 with q|q
   .rw[iW q] at h;omega
   .exact q
  .rcases Int.lt_or_le e (elems X) with q|q
   .exact q
   .rw[iX q] at h;omega
 .exact λh=>qt h.1 h.2
def eP(X:List bF)(m:Int):Int:=if m<0\/(X.length:Int)<=m then -1 else elems (X.take m.toNat)
theorem l8{m:Int}(h:m<0\/(X.length:Int)<=m):eP X m = -1:=if_pos h
theorem ny(h:k<X.length):eP X k=elems (X.take k):=by
 unfold eP;rw[if_neg ab];rfl
theorem r8(ai:k<X.length):(own X)[(elems (X.take k)).toNat]?=some (k:Int):=by
 have hm:X[k]?=some (X[k]'ai):=List.getElem?_eq_getElem _;have h0:0<=elems (X.take k):=by have:=gh X k ab;omega
 exact wG hm ab (by have:=(X[k]'ai).o9;omega)
theorem Fq{e:Nat}{v:Int}(h:(own X)[e]?=some v):∃k m,v=(k:Nat)/\X[k]?=some m/\elems (X.take k)<=e/\(e:Int)<elems (X.take k)+m.num:=by
 have hl:=eS X;have he:=(List.getElem?_eq_some_iff.1 h).1;obtain⟨i,m,_,hm,ae,aD⟩:=m1 X X.length (Lb _) e ab (by rw[List.take_length];omega);have:=wG hm ae aD;rw[h] at this;injection this with this;exact⟨i,m,this,hm,ae,aD⟩
section
attribute [local go_sem ↓] gi gj
def within(x n:Int):Int:=x % n
theorem zl{n:Int}(h:0<n):(x.tmod n+n).tmod n=within x n:=by
 unfold within;have ae:=Int.emod_nonneg x (show n≠0 by omega);have aD:=Int.emod_lt_of_pos x h;have key:∀y:Int,0<=y->y.tmod n=y % n:=λy a4=>Int.tmod_eq_emod_of_nonneg a4;rcases Int.lt_or_le x 0 with hx|hx
 .have e1:x.tmod n = -((-x) % n):=by
   have:=key (-x) ab;rw[Int.neg_tmod] at this;omega
  have aU:=Int.emod_nonneg (-x) (show n≠0 by omega);have a1:=Int.emod_lt_of_pos (-x) h;rw[e1,key _ ab];rw[Int.add_emod_right];have cd:(-((-x) % n)) % n=x % n:=by
   have o:-((-x) % n)=x+n*((-x) / n):=by
    have:=Int.emod_add_mul_ediv (-x) n;omega
   rw[o,Int.add_mul_emod_self_left]
  exact cd
 .rw[key x hx,key _ ab,Int.add_emod_right,Int.emod_emod_of_dvd _ (Int.dvd_refl n)]
theorem tD{n:Int}(h:0<n):0<=within x n/\within x n<n:=⟨Int.emod_nonneg x ab,Int.emod_lt_of_pos x h⟩
theorem cK.Jb{l:List bF}(h:cK (EF hy) 3 w B A n l)(ai:k<n):
  ∃b o m,A=some ⟨b,o,none⟩/\b<B/\l[k]?=some m/\w.cell? ⟨b,o+k*3,none⟩=some (.string m.name)/\w.cell? ⟨b,o+k*3+1,none⟩=some (.bool m.re)/\w.cell? ⟨b,o+k*3+2,none⟩=some (.int .i64 m.size):=by
 obtain⟨b,o,m,bp,O,hm,_,hc⟩:=h.IB ai;exact⟨b,o,m,bp,O,hm,hc 0 _ rfl,hc 1 _ rfl,hc 2 _ rfl⟩
theorem cK.hold{l:List dn}(h:cK (EF cG) 2 w B A n l)(ai:k<n):
  ∃b o m,A=some ⟨b,o,none⟩/\b<B/\l[k]?=some m/\w.cell? ⟨b,o+k*2,none⟩=some (.int .i64 m.owner)/\w.cell? ⟨b,o+k*2+1,none⟩=some (.int .i64 m.depth):=by
 obtain⟨b,o,m,bp,O,hm,_,hc⟩:=h.IB ai;exact⟨b,o,m,bp,O,hm,hc 0 _ rfl,hc 1 _ rfl⟩
theorem DD(l:List bF):∀x∈l,(hy x).length=3:=λ_ _=>rfl
theorem eZ(l:List dn):∀x∈l,(cG x).length=2:=λ_ _=>rfl
theorem DQ(l:List bF):∀x∈l,∀u∈hy x,u.oneCell'=true:=λx _ u hu=>by
 simp only[hy,Lr,List.not_mem_nil,or_false] at hu;rcases hu with rfl|rfl|rfl<;>rfl
theorem nJ(l:List dn):∀x∈l,∀u∈cG x,u.oneCell'=true:=λx _ u hu=>by
 simp only[cG,Lr,List.not_mem_nil,or_false] at hu;rcases hu with rfl|rfl<;>rfl
theorem qA(l:List Int):∀x∈l,∀u∈b5 x,u.oneCell'=true:=λx _ u hu=>by
 simp only[b5,Lr,List.not_mem_nil,or_false] at hu;subst hu;rfl
theorem oP:ca prog 27 95 (.agg #[.int .i64 0,.int .i64 0]) 2 16:=ca.mk' Tryz.underlying27 (by kernel_rfl) rfl ab
theorem l5:ca prog 23 131 (.agg #[.string ⟨#[]⟩,.bool false,.int .i64 0]) 3 32:=ca.mk' Tryz.underlying23 (by kernel_rfl) rfl ab
theorem mB(x n:Int)(hn:0<n)(O:n<=4611686018427387904)(w:World) :
  Calls prog 19 #[.int .i64 x,.int .i64 n] w λe ac=>e=.returned (.int .i64 (within x n))/\w=ac:=by
 have ba:(n == 0)=false:=by simp;omega
 go_enter func19,ntmps19;go_wp2;go_ret;refine⟨ret_int ?_,rfl⟩;have ae:=Int.lt_tmod_of_pos x hn;have aD:=Int.tmod_lt_of_pos x hn;rw[<-zl hn];congr 1
 unfold RowKit.wrap64;omega
theorem sR(A:LP)(n c:Nat)(X:List bF)(w:World)(h:cK (EF hy) 3 w w.heap.size A n X)(hX:q9 X) :
  Calls prog 114 #[.slice A n c] w λe ac=>e=.returned (.int .i64 (elems X))/\Below w.heap.size w ac:=by
 have hl:=h.1;have hn:=hX.1;go_enter func114,ntmps114;go_wp2;go_loopw [3,8] (λs i wr=>∃k:Nat,k<=n/\i=.int .i64 k/\s=.int .i64 (elems (X.take k))/\Below w.heap.size w wr) (λ_ i _=>n - (intOf i).toNat)
 case atStart=>exact⟨0,Lx _,rfl,rfl,Below.refl _ _⟩
 case round=>
  obtain⟨k,ai,rfl,rfl,O⟩:=hrel;by_cases aw:k<n
  .obtain⟨b,o,m,rfl,al,hm,c0,c1,c2⟩:=(h.gf O).Jb aw;have u:=hX.mJ k;have bL:=hX.at_ hm;have U:=O.size;have bB:=ad (show elems (X.take (k+1))=elems (X.take k)+max m.size 1 by rw[a1 hm,iv];rfl);clear hm;go_wp2;go_roundw
   case rel=>exact⟨k+1,ab,by go_num,by rw[bB.o],((O.alloc U _).alloc (by simp;omega) _)⟩
   case measure=>exact az
  .go_wp2;go_ret;exact⟨ret_int (by first|rfl|rw[Lj ab]),O⟩
theorem C2(A:LP)(n c:Nat)(X:List bF)(m:Int)(w:World)(h:cK (EF hy) 3 w w.heap.size A n X)(hX:q9 X)(aI:n<=c) :
  Calls prog 78 #[.slice A n c,.int .i64 m] w λe ac=>e=.returned (.int .i64 (eP X m))/\Below w.heap.size w ac:=by
 have hl:=h.1;by_cases hm:m<0
 .have bx:=ad (show eP X m = -1 from l8 (.inl hm));clear h hX hl;go_enter func78,ntmps78;exact vv
 by_cases ay:(n:Int)<=m
 .have bx:=ad (show eP X m = -1 from l8 (.inr ab));clear h hX hl;go_enter func78,ntmps78;exact vv
 obtain⟨k,rfl⟩:=Lg (show 0<=m by omega);have bx:=ad (show eP X k=elems (X.take k) from ny ab);have q:cK (EF hy) 3 w w.heap.size A k (X.take k):=by
  refine⟨by simp;omega,λai=>?_⟩;obtain⟨b,o,bp,O,hc⟩:=h.2 ab;refine⟨b,o,bp,O,λj x hx=>hc j x ?_⟩;rw[List.getElem?_take] at hx;split at hx
  .exact hx
  .cases hx
 have ai:k<n:=ab;have a:=hX.take k;clear h hX hl hm ay;go_enter func78,ntmps78;go_wp2_with(fail);refine(sR A k k _ w q a).mono ?_;rintro e ac ⟨rfl,O⟩;go_wp2;go_ret;exact⟨ret_int (by rw[bx.o]),O⟩
theorem uv(A:LP)(n c:Nat)(X:List bF)(e:Int)(w:World)(h:cK (EF hy) 3 w w.heap.size A n X)(hX:q9 X)(he:e<=9223372036854775807) :
  Calls prog 79 #[.slice A n c,.int .i64 e] w λr ac=>r=.returned (.int .i64 (bw X e))/\Below w.heap.size w ac:=by
 have hl:=h.1;have hn:=hX.1;by_cases I:e<0
 .have bx:=ad (show bw X e = -1 from iW I);clear h hX hl;go_enter func79,ntmps79;exact vv
 go_enter func79,ntmps79;go_wp2;go_loopw [1,11] (λs i wr=>∃k:Nat,k<=n/\i=.int .i64 k/\s=.int .i64 (e - elems (X.take k))/\elems (X.take k)<=e/\Below w.heap.size w wr) (λ_ i _=>n - (intOf i).toNat)
 case atStart=>exact⟨0,Lx _,rfl,DA (by simp[elems]),by simp[elems];omega,Below.refl _ _⟩
 case round=>
  obtain⟨k,ai,rfl,rfl,hle,O⟩:=hrel;by_cases aw:k<n
  .obtain⟨b,o,m,rfl,al,hm,c0,c1,c2⟩:=(h.gf O).Jb aw;have u:=hX.mJ k;have bL:=hX.at_ hm;have U:=O.size;have bB:=ad (show elems (X.take (k+1))=elems (X.take k)+max m.size 1 by rw[a1 hm,iv];rfl);have dL:=ad hm;clear hm;by_cases ax:e - elems (X.take k)<max m.size 1
   .have aZ:=ad (show bw X e=k from kQ dL.o ab hle (by unfold bF.num;omega));go_wp2;go_ret;exact⟨ret_int (by rw[aZ.o]),((O.alloc U _).alloc (by simp;omega) _)⟩
   .go_wp2;go_roundw
    case rel=>exact⟨k+1,ab,by go_num,DA (by rw[bB.o];omega),by rw[bB.o];omega,(((O.alloc U _).alloc (by simp;omega) _).alloc (by simp;omega) _)⟩
    case measure=>exact az
  .have aZ:=ad (show bw X e = -1 from iX (by rwa [Lj ab] at hle));exact rB
end
section
attribute [local go_sem ↓] gi gj
theorem qC{e:TypeId}(h:w.ownsRow base e sz (.slice A n c) n xs):n<=c/\(A=none->n=0):=by
 rcases h.2 with⟨bD,h0⟩|⟨g,cap,cur,bD,_,_,aI,_⟩
 .injection bD with ae aD aU;exact⟨ab,λ_=>h0⟩
 .injection bD with ae aD aU;subst ae aU;exact⟨aI,(λh=>nomatch h)⟩
theorem mm(A:LP)(n c:Nat)(X:List bF)(w:World)(h:cK (EF hy) 3 w w.heap.size A n X)(hX:q9 X) :
  Calls prog 113 #[.slice A n c] w λr ac=>∃I aA,r=.returned (.slice I (own X).length aA)/\(own X).length<=aA/\cK (EF b5) 1 ac ac.heap.size I (own X).length (own X)/\Below w.heap.size w ac:=by
 have hl:=h.1;have hn:=hX.1;go_enter func113,ntmps113;go_wp2;go_loopw [3,4] (λv i wr=>∃k:Nat,k<=n/\i=.int .i64 k/\wr.ownsRow w.heap.size 3 1 v (iG X k).length ((iG X k).flatMap b5)/\Below w.heap.size w wr) (λ_ i _=>n - (intOf i).toNat)
 case atStart=>exact⟨0,Lx _,rfl,by rw[qB];exact World.ownsRow_nil _ _ _ _,Below.refl _ _⟩
 case round=>
  obtain⟨k,ai,rfl,ax,O⟩:=hrel;by_cases aw:k<n
  .have dL:∃m,X[k]?=some m:=⟨_,List.getElem?_eq_getElem ab⟩
   obtain⟨m,hm⟩:=dL;have bL:=hX.at_ hm;have dL:=ad hm;clear hm;go_wp2;obtain⟨a6,rfl⟩:∃a6:World,a6=wr:=⟨_,rfl⟩
   go_loopw [3,5] (λv i wr=>∃j:Nat,j<=m.qw/\i=.int .i64 j/\wr.ownsRow w.heap.size 3 1 v ((iG X k).length+j) ((iG X k++List.replicate j (k:Int)).flatMap b5)/\Below w.heap.size w wr) (λ_ i _=>m.qw - (intOf i).toNat)
   case atStart=>exact⟨0,Lx _,rfl,by simpa using ax,O⟩
   case round=>
    obtain⟨j,bd,rfl,f,aX⟩:=hrel;clear ax;obtain⟨b,o,fV,rfl,al,hm,c0,c1,c2⟩:=(h.gf aX).Jb aw;obtain rfl:fV=m:=by have:=dL.o;rw[hm] at this;injection this
    have b4:=aX.size;have K:(fV.qw:Int)=max fV.size 1:=fV.tb;have d:=gh X k ab;have u:=hX.mJ k;clear hm;by_cases dp:j<fV.qw
    .have bC:(j:Int)<max fV.size 1:=ab;have e:(iG X k).length+j+1<=5000:=ab;obtain⟨bY,bq⟩:=aM K d;clear K d;go_wp2_with(at_builtin;refine bV _ de (by rfl) (.tmp 22) (.tmp 24) (by rfl) w.heap.size _ _ _ _ (by rfl) f (by rfl) (by rfl) (g5 _ _) ab ab b4 ?_;intro v1 aP ay aO cd);go_roundw
     case rel=>
      refine⟨j+1,ab,by go_num,?_,dk aX f aO (Lb _) b4⟩;rw[List.replicate_succ',<-List.append_assoc,ey];exact ay
     case measure=>exact az
    .obtain rfl:j=fV.qw:=ab;have a4:¬((fV.qw:Int)<max fV.size 1):=ab;obtain⟨bY,bq⟩:=aM K d;clear K d;go_wp2;go_roundw
     case rel=>
      refine⟨k+1,ab,by go_num,?_,aX⟩;rw[j7 dL.o,Ld,List.length_replicate];exact f
     case measure=>exact az
  .obtain rfl:k=n:=ab;obtain⟨cy,c1,rfl,b9,_,_,_⟩:=bx ax;have bN:=ad hl;clear hl;go_wp2;go_ret;have he:own X=iG X k:=by unfold own;rw[bN.o]
   rw[he];exact⟨_,_,rfl,b9,g6 ax (iA _) rfl,O⟩
theorem uI(A:LP)(n c:Nat)(X:List bF)(m:Int)(w:World)(h:cK (EF hy) 3 w w.heap.size A n X)(hX:q9 X) :
  Calls prog 83 #[.slice A n c,.int .i64 m] w λr ac=>r=.returned (.int .i64 (eP X m))/\Below w.heap.size w ac:=by
 go_enter func83,ntmps83;go_wp2_with(fail);refine(mm A n c X w h hX).mono ?_;rintro e aP ⟨cy,c1,rfl,b9,aQ,O⟩;have Z:=dJ hX;have hl:=h.1;generalize hN:(own X).length=N at *;obtain⟨bY,bN⟩:=aM hN hl;clear hN hl;go_wp2
 go_loop [6] (λi=>∃k:Nat,k<=N/\i=.int .i64 k/\∀j,j<k->(own X)[j]?≠some m) (λi=>N - (intOf i).toNat)
 case atStart=>exact⟨0,Lx _,rfl,λj bd=>absurd bd ab⟩
 case round=>
  obtain⟨k,ai,rfl,a9⟩:=hrel;have aI:=ad a9;clear a9;by_cases aw:k<N
  .obtain⟨b,o,x,rfl,al,hx,c0⟩:=aQ.int aw;have aR:=ad hx;clear hx;by_cases ao:x=m
   .subst ao;have aZ:=ad (show eP X x=k by
     obtain⟨i,d,bD,P,ae,aD⟩:=Fq aR.o;have ak:i<X.length:=(List.getElem?_eq_some_iff.1 P).1;rw[bD,ny ak];have J:=r8 ak;rcases Int.lt_or_le (elems (X.take i)) k with aw|hle
     .exact absurd (by rw[J,bD]) (aI.o (elems (X.take i)).toNat (by have:=(hX.mJ i).1;omega))
     .omega)
    exact rB
   .have a6:(x == m)=false:=by simpa using ao
    go_wp2
    go_round
    case rel=>
     refine⟨k+1,ab,by go_num,λj bd=>?_⟩;by_cases z:j<k
     .exact aI.o j z
     .obtain rfl:j=k:=ab;rw[aR.o];intro he;injection he with he;exact ao he
    case measure=>exact az
  .obtain rfl:k=N:=ab;have aZ:=ad (show eP X m = -1 by
    apply l8
    rcases Int.lt_or_le m 0 with h0|h0
    .exact .inl h0
    .rcases Int.lt_or_le m X.length with ae|ae
     .exfalso;have J:=r8 (X:=X) (k:=m.toNat) ab;have aw:=(List.getElem?_eq_some_iff.1 J).1;rw[bY.o] at aw;exact aI.o _ aw (by rw[J];congr 1;omega)
     .exact .inr ae)
   exact rB
theorem kS(A:LP)(n c:Nat)(X:List bF)(m:Int)(w:World)(h:cK (EF hy) 3 w w.heap.size A n X)(hX:q9 X) :
  Calls prog 85 #[.slice A n c,.int .i64 m] w λr ac=>r=.returned (.int .i64 (bw X m))/\Below w.heap.size w ac:=by
 go_enter func85,ntmps85;go_wp2_with(fail);refine(mm A n c X w h hX).mono ?_;rintro e aP ⟨cy,c1,rfl,b9,aQ,O⟩;have Z:=dJ hX;have ce:=eS X;generalize hN:(own X).length=N at *;obtain⟨bY,a8⟩:=aM hN ce;clear hN ce;by_cases h0:m<0
 .have aZ:=ad (show bw X m = -1 from iW h0);exact rB
 by_cases ae:(N:Int)<=m
 .have aZ:=ad (show bw X m = -1 from iX (aC a8.o));exact rB
 obtain⟨k,rfl⟩:=Lg (show 0<=m by omega);obtain⟨b,o,x,rfl,al,hx,c0⟩:=aQ.int (show k<N by omega);have aZ:=ad (show bw X k=x by unfold bw;rw[if_neg ab,Lw,hx];rfl);have d:k<N:=ab;clear hx ae h0;exact rB
end
variable{T:List dn}
section
attribute [local go_sem ↓] gi gj
def js(T:List dn)(e:Int):dn:=(T[e.toNat]?).getD ⟨0,0⟩
def Fz(X:List bF)(i:Int):Bool:=((X[i.toNat]?).map bF.re).getD false
def free(X:List bF)(T:List dn)(e th:Int):Bool:=
 decide (0<=bw X e/\0<=th) && ((js T e).owner == 0 || ((js T e).owner == th+1 && Fz X (bw X e)))
def heldBy(X:List bF)(T:List dn)(e th:Int):Bool:=decide (0<=bw X e/\0<=th) && (js T e).owner == th+1
def hL(X:List bF)(T:List dn)(e th:Int):List dn:=if free X T e th then T.set e.toNat ⟨th+1,(js T e).depth+1⟩ else T
def down(h:dn):dn:=⟨if h.depth - 1=0 then 0 else h.owner,h.depth - 1⟩
def dO(X:List bF)(T:List dn)(e th:Int):List dn:=if heldBy X T e th then T.set e.toNat (down (js T e)) else T
structure G9(X:List bF)(T:List dn):Prop where
 len:T.length=(own X).length
 bound:∀h∈T,0<=h.owner/\h.owner<=1000000000/\0<=h.depth/\h.depth<=1000000000
theorem G9.at_(h:G9 X T)(he:0<=bw X e):∃k m hd,e=(k:Nat)/\k<T.length/\T[k]?=some hd/\js T e=hd/\bw X e=(m:Nat)/\m<X.length:=by
 obtain⟨h0,ae⟩:=iV.1 he;obtain⟨i,d,ak,hm,_⟩:=s8 he;obtain⟨k,rfl⟩:=Lg h0;have hl:=eS X;have ai:k<T.length:=by rw[h.len];omega
 exact⟨k,i,T[k],rfl,ai,List.getElem?_eq_getElem ai,by unfold js;rw[Lw,List.getElem?_eq_getElem ai];rfl,ak,(List.getElem?_eq_some_iff.1 hm).1⟩
theorem qf{th:Int}(h:¬(0<=bw X e/\0<=th)):free X T e th=false:=by
 unfold free;rw[decide_eq_false h];rfl
theorem qh{th:Int}(h:¬(0<=bw X e/\0<=th)):heldBy X T e th=false:=by
 unfold heldBy;rw[decide_eq_false h];rfl
theorem j4(X:List bF)(T:List dn)(e th:Int):(hL X T e th).length=T.length:=by
 unfold hL;split<;>simp
theorem iM(X:List bF)(T:List dn)(e th:Int):(dO X T e th).length=T.length:=by
 unfold dO;split<;>simp
namespace Bq
theorem Ae(h:p:=by
 by_cases cf:hd.owner=th+1
 .have bq:=ad cf;have i:=ad b9;have a:(hd.owner - 1 == th)=true:=by simp;omega
  exact xC
 .have bq:=ad (show (hd.owner == th+1)=false by simpa using cf);have i:=ad b9;have a:(hd.owner - 1 == th)=false:=by simp;omega
  exact xC
 ):p:=h
end Bq
open Bq in
theorem Dt(A A2:LP)(n c n2 c2:Nat)(X:List bF)(T:List dn)(e th:Int)(w:World)(h:cK (EF hy) 3 w w.heap.size A n X)(hX:q9 X)
  (ht:cK (EF cG) 2 w w.heap.size A2 n2 T) (hT:G9 X T) (he:e<=9223372036854775807) (aS:th<=4611686018427387904) :
  Calls prog 41 #[.slice A n c,.slice A2 n2 c2,.int .i64 e,.int .i64 th] w λr ac=>r=.returned (.bool (free X T e th))/\Below w.heap.size w ac:=by
 go_enter func41,ntmps41;go_wp2_with(fail);refine(uv A n c X e w h hX he).mono ?_;exact Ad
namespace Br
theorem Ae(h:p:=by
 by_cases cf:hd.owner=th+1
 .have bq:=ad cf;have i:=ad b9;have a:(hd.owner == th+1)=true:=by simp;omega
  exact xC
 .have bq:=ad (show (hd.owner == th+1)=false by simpa using cf);have i:=ad b9;have a:(hd.owner == th+1)=false:=by simp;omega
  exact xC
 ):p:=h
end Br
open Br in
theorem ow(A A2:LP)(n c n2 c2:Nat)(X:List bF)(T:List dn)(e th:Int)(w:World)(h:cK (EF hy) 3 w w.heap.size A n X)(hX:q9 X)
  (ht:cK (EF cG) 2 w w.heap.size A2 n2 T) (hT:G9 X T) (aS:th<=4611686018427387904) :
  Calls prog 84 #[.slice A n c,.slice A2 n2 c2,.int .i64 e,.int .i64 th] w λr ac=>r=.returned (.bool (free X T e th))/\Below w.heap.size w ac:=by
 go_enter func84,ntmps84;go_wp2_with(fail);refine(kS A n c X e w h hX).mono ?_;exact Ad
theorem m0{a:Nat}{e:TypeId}{v:Value}(h:w.ownsRow base e sz v n xs)(O:a<=base):w.ownsRow a e sz v n xs:=by
 refine⟨h.1,?_⟩;rcases h.2 with aD|⟨g,cap,cur,rfl,j,rest⟩
 .exact .inl aD
 .exact .inr ⟨g,cap,cur,rfl,ab,rest⟩
def ik(w:World)(T:List dn)(b:Bool)(r:Ending)(ac:World):Prop:=
 ∃I aA,r=.returned (.tuple #[.slice I T.length aA,.bool b])/\ac.ownsRow w.heap.size 95 2 (.slice I T.length aA) T.length (T.flatMap cG)/\Below w.heap.size w ac
theorem ik.mk'{M:Bool}(hn:T.length=n)(ax:ac.ownsRow w.heap.size 95 2 (.slice A n c) n (T.flatMap cG))(O:Below w.heap.size w ac)(al:b=M):
  ik w T b (.returned (.tuple #[.slice A n c,.bool M])) ac:=by
 subst hn al;exact⟨A,c,rfl,ax,O⟩
theorem ik.open_{r:Ending}(h:ik w T b r ac)(hn:T.length=n):
  ∃I aA,r=.returned (.tuple #[.slice I n aA,.bool b])/\n<=aA/\cK (EF cG) 2 ac ac.heap.size I n T/\ac.ownsRow w.heap.size 95 2 (.slice I n aA) n (T.flatMap cG)/\Below w.heap.size w ac:=by
 subst hn;obtain⟨A,c,aQ,ax,O⟩:=h;exact⟨A,c,aQ,(qC ax).1,g6 ax (eZ T) rfl,ax,O⟩
theorem m2{hd:dn}(h:w.ownsRow base 95 2 (.slice A n c) n (T.flatMap cG))(ai:k<n)(hx:T[k]?=some hd):
  ∃g,A=some ⟨g,0,none⟩/\base<=g/\g<w.heap.size/\w.cell? ⟨g,k*2,none⟩=some (.int .i64 hd.owner)/\w.cell? ⟨g,k*2+1,none⟩=some (.int .i64 hd.depth)/\(∀j,w.frozen? ⟨g,j,none⟩=false)/\
   (∀x,(w.setCell ⟨g,k*2,none⟩ (.int .i64 x)).ownsRow base 95 2 (.slice A n c) n ((T.set k ⟨x,hd.depth⟩).flatMap cG))/\
   (∀x,(w.setCell ⟨g,k*2+1,none⟩ (.int .i64 x)).ownsRow base 95 2 (.slice A n c) n ((T.set k ⟨hd.owner,x⟩).flatMap cG)):=by
 obtain⟨g,bp,O,aw,hc,J,hs⟩:=h9 h ab;have h0:=fD cG 2 T (eZ T) k hd hx 0 ab;have ae:=fD cG 2 T (eZ T) k hd hx 1 ab;refine⟨g,bp,O,aw,hc _ _ h0,hc _ _ ae,J,λx=>?_,λx=>?_⟩
 .rw[<-jZ cG 2 T (eZ T) k hd hx 0 (.int .i64 x) ⟨x,hd.depth⟩ ab rfl];exact hs _ _ ab
 .rw[<-jZ cG 2 T (eZ T) k hd hx 1 (.int .i64 x) ⟨hd.owner,x⟩ ab rfl];exact hs _ _ ab
theorem uJ(A A2:LP)(n c n2 c2:Nat)(X:List bF)(T:List dn)(e th:Int)(w:World)(h:cK (EF hy) 3 w w.heap.size A n X)(hX:q9 X)
  (ht:cK (EF cG) 2 w w.heap.size A2 n2 T) (hT:G9 X T) (aS:th<=4611686018427387904) :
  Calls prog 47 #[.slice A n c,.slice A2 n2 c2,.int .i64 e,.int .i64 th] w (ik w (hL X T e th) (free X T e th)):=by
 have I:=ht.1;have cl:n2<=5000:=by have:=dJ hX;have:=hT.len;omega
 have aO:=j4 X T e th;generalize aN:hL X T e th=L at *;have bx:=ad aN;clear aN;rw[I] at aO;have H:=ad aO;clear aO;go_enter func47,ntmps47;have av:=Src.ov ht (eZ T) (nJ T) ab;have bu:A2=none->n2=0:=λh0=>by
  exact zI
 have bA:=ad bu;clear bu;go_wp2_with(at_builtin;refine jc _ oP (by rfl) (.tmp 10) (.tmp 11) (by rfl) (by rfl) _ _ _ _ (by rfl) av ab ab bA.o ?_;intro cy c1 aP ax O);go_wp2_with(fail);have q:=h.cS O O.size;have i:cK (EF cG) 2 aP aP.heap.size cy n2 T:=g6 ax (eZ T) I;refine(ow A cy n c n2 c1 X T e th aP q hX i hT aS).mono ?_;rintro r aV ⟨rfl,a9⟩;have b4:=O.size;have dy:=O.trans (a9.mono O.size);have af:=bT ax a9
 cases J:free X T e th with
 | false=>
  go_wp2
  go_ret2
  have bo:L=T:=by rw[<-bx.o];unfold hL;rw[J];rfl
  exact ik.mk' H.o (by rw[bo];exact af) dy J
 | true=>
  have hm:0<=bw X e/\0<=th:=by
   by_cases aH:0<=bw X e/\0<=th
   .exact aH
   .rw[qf aH] at J;cases J
  obtain⟨k,m,hd,rfl,ai,d,f,P,ct⟩:=hT.at_ hm.1;have aW:k<n2:=ab;have bE:=hT.bound hd (Le d);obtain⟨g,rfl,aK,dz,e0,e1,ac,F,s1⟩:=m2 af aW d;have t:=ac (k*2);have v:=ac (k*2+1);have bo:L=T.set k ⟨th+1,hd.depth+1⟩:=by rw[<-bx.o];unfold hL;rw[J,f];rfl
  obtain⟨bN,b0⟩:=aM bo J;have fW:=hm.2;have l:=ad (F (th+1));clear d f P bo J hm F s1 ac I;go_wp2
  go_ret2
  refine ik.mk' (A:=some ⟨g,0,none⟩) (c:=c1) (n:=n2) H.o ?_ ?_ b0.o
  .rw[bN.o];have bd:(T.set k ⟨th+1,hd.depth⟩)[k]?=some ⟨th+1,hd.depth⟩:=by rw[List.getElem?_set_self ab]
   obtain⟨aw,j,_,_,_,_,_,_,s1⟩:=m2 l.o aW bd;injection j with j;injection j with j;subst j;have:=s1 (hd.depth+1);rw[List.set_set] at this;exact this
  .exact(dy.setCell (by simpa using aK) _).setCell (by simpa using aK) _
theorem rv(A A2:LP)(n c n2 c2:Nat)(X:List bF)(T:List dn)(e th:Int)(w:World)(h:cK (EF hy) 3 w w.heap.size A n X)(hX:q9 X)
  (ht:cK (EF cG) 2 w w.heap.size A2 n2 T) (hT:G9 X T) (aS:th<=4611686018427387904) :
  Calls prog 48 #[.slice A n c,.slice A2 n2 c2,.int .i64 e,.int .i64 th] w (ik w (dO X T e th) (heldBy X T e th)):=by
 have I:=ht.1;have cl:n2<=5000:=by have:=dJ hX;have:=hT.len;omega
 have aO:=iM X T e th;have hlen:(n2:Int)=elems X:=by rw[<-eS,<-hT.len,I]
 generalize aN:dO X T e th=L at *;obtain⟨bx,bY⟩:=aM aN hlen;clear aN hlen;rw[I] at aO;have H:=ad aO;clear aO;go_enter func48,ntmps48;have av:=Src.ov ht (eZ T) (nJ T) ab;have bu:A2=none->n2=0:=λh0=>by
  exact zI
 have bA:=ad bu;clear bu;go_wp2_with(at_builtin;refine jc _ oP (by rfl) (.tmp 10) (.tmp 11) (by rfl) (by rfl) _ _ _ _ (by rfl) av ab ab bA.o ?_;intro cy c1 aP i u);go_wp2_with(fail);have q:=h.cS u u.size;refine(kS A n c X e aP q hX).mono ?_;rintro r aV ⟨rfl,a9⟩;have s:=u.size;have O:=u.trans (a9.mono u.size);have b4:=O.size;have ax:=bT i a9;clear a9 i u s;have no:heldBy X T e th=false->L=T:=λh=>by rw[<-bx.o];unfold dO;rw[h];rfl
 by_cases hm:0<=bw X e
 case neg=>
  have J:heldBy X T e th=false:=qh (λaH=>hm aH.1);have bN:=ad (no J);have b0:=ad J;have cp:bw X e<0:=ab;clear hm no J I;go_wp2
  go_ret2
  exact vw
 obtain⟨k,m,hd,rfl,ai,d,f,P,ct⟩:=hT.at_ hm;have aW:k<n2:=ab;rw[P];by_cases aU:0<=th
 case neg=>
  have J:heldBy X T k th=false:=qh ab;have bN:=ad (no J);have b0:=ad J;have l:th<0:=ab;clear aU no J I d f P hm;go_wp2
  go_ret2
  exact vw
 have bE:=hT.bound hd (Le d);obtain⟨g,rfl,aK,dz,e0,e1,ac,F,s1⟩:=m2 ax aW d;by_cases a1:hd.owner=th+1
 case neg=>
  have J:heldBy X T k th=false:=by
   unfold heldBy;rw[f,show (hd.owner == th+1)=false by simpa using a1];simp
  have bN:=ad (no J);have b0:=ad J;have x:(hd.owner != th+1)=true:=by simpa using a1
  clear a1 no J I d f P hm F s1 ac;go_wp2
  go_ret2
  exact vw
 have J:heldBy X T k th=true:=by
  unfold heldBy;rw[f,show (hd.owner == th+1)=true by simpa using a1,decide_eq_true ⟨hm,aU⟩];rfl
 have x:(hd.owner != th+1)=false:=by simpa using a1
 have t:=ac (k*2);have v:=ac (k*2+1);have bo:L=T.set k (down hd):=by rw[<-bx.o];unfold dO;rw[J,f];rfl
 obtain⟨bN,b0⟩:=aM bo J;have z:=ad (s1 (hd.depth - 1));have Q:=ad d;clear d f P bo J hm F s1 ac I no a1;by_cases cd:hd.depth - 1=0
 .have y:(hd.depth - 1 == 0)=true:=by simpa using cd
  have bV:=ad cd;clear cd;go_wp2
  go_ret2
  refine ik.mk' (A:=some ⟨g,0,none⟩) (c:=c1) (n:=n2) H.o ?_ ?_ b0.o
  .rw[bN.o,down,if_pos bV.o];have bd:(T.set k ⟨hd.owner,hd.depth - 1⟩)[k]?=some ⟨hd.owner,hd.depth - 1⟩:=by rw[List.getElem?_set_self ab]
   obtain⟨aw,j,_,_,_,_,_,F,_⟩:=m2 z.o aW bd;injection j with j;injection j with j;subst j;have:=F 0;rw[List.set_set] at this;exact this
  .exact(O.setCell (by simpa using aK) _).setCell (by simpa using aK) _
 .have y:(hd.depth - 1 == 0)=false:=by simpa using cd
  have bV:=ad cd;clear cd;go_wp2
  go_ret2
  refine ik.mk' (A:=some ⟨g,0,none⟩) (c:=c1) (n:=n2) H.o ?_ ?_ b0.o
  .rw[bN.o,down,if_neg bV.o];exact z.o
  .exact O.setCell (by simpa using aK) _
end
section
attribute [local go_sem ↓] gi gj
theorem kd(b:Bool)(w:World):Calls prog 150 #[.bool b] w λe ac=>e=.returned (.int .i64 (ff b))/\w=ac:=by
 cases b<;>(go_enter func150,ntmps150;go_wp2;go_ret;exact⟨rfl,rfl⟩)
theorem hZ(b:Bool)(w:World):Calls prog 80 #[.bool b] w λe ac=>e=.returned (.int .i64 (ff b))/\w=ac:=by
 cases b<;>(go_enter func80,ntmps80;go_wp2;go_ret;exact⟨rfl,rfl⟩)
theorem oa(A:LP)(n c:Nat)(l:List Int)(k:Int)(w:World)(h:cK (EF b5) 1 w w.heap.size A n l)(h0:0<=k)(ae:k<n) :
  Calls prog 149 #[.slice A n c,.int .i64 k] w λe ac=>e=.returned (.int .i64 (l.getD k.toNat 0))/\w=ac:=by
 obtain⟨j,rfl⟩:=Lg h0;obtain⟨b,o,x,rfl,O,hx,hc⟩:=h.int (show j<n by omega);have bd:j<n:=ab;have aR:=ad (show l.getD (j:Int).toNat 0=x by rw[Lw,List.getD_eq_getElem?_getD,hx];rfl);clear hx h;go_enter func149,ntmps149;go_wp2;go_ret;exact⟨ret_int (by rw[aR.o]),rfl⟩
theorem m5(a b:Int)(O:b≠0)(w:World) :
  Calls prog 81 #[.int .i64 a,.int .i64 b] w λe ac=>e=.returned (.int .i64 (wrap64 (a.tdiv b)))/\w=ac:=by
 by_cases ae:b = -1
 .subst ae;go_enter func81,ntmps81;go_wp2;go_ret;exact⟨ret_int (by rw[Int.tdiv_neg,Int.tdiv_one]),rfl⟩
 .have b9:(b == -1)=false:=by simpa using ae
  have ch:(b == 0)=false:=by simpa using O
  go_enter func81,ntmps81;go_wp2;go_ret;exact⟨rfl,rfl⟩
def fS(w:World)(r:Int×Int)(e:Ending)(ac:World):Prop:=e=.returned (.tuple #[.int .i64 r.1,.int .i64 r.2])/\Below w.heap.size w ac
theorem fS.mk'{r:Int×Int}{a b:Int}(aQ:r=(a,b))(O:Below w.heap.size w ac):fS w r (.returned (.tuple #[.int .i64 a,.int .i64 b])) ac:=by
 subst aQ;exact⟨rfl,O⟩
theorem pK(op a b:Int)(h:5<=op/\op<=15)(w:World) :
  Calls prog 151 #[.int .i64 op,.int .i64 a,.int .i64 b] w (fS w (arith op a b)):=by
 by_cases hdiv:(op=6\/op=7)/\b=0
 .obtain⟨aG,rfl⟩:=hdiv;rcases aG with rfl|rfl
  all_goals
   go_enter func151,ntmps151;go_wp2
   go_ret2
   exact fS.mk' rfl (Below.refl _ _)
 .obtain rfl|rfl|rfl|rfl|rfl|rfl|rfl|rfl|rfl|rfl|rfl:op=5\/op=6\/op=7\/op=8\/op=9\/op=10\/op=11\/op=12\/op=13\/op=14\/op=15:=ab
  case inr.inl=>
   have O:b≠0:=λaH=>hdiv ⟨.inl rfl,aH⟩;have ch:(b == 0)=false:=by simpa using O
   have HA:=ad (show arith 6 a b=(wrap64 (a.tdiv b),0) by unfold arith;simp[O]);clear hdiv h;go_enter func151,ntmps151;go_wp2
   go_ret2
   exact fS.mk' HA.o (Below.refl _ _)
  case inr.inr.inl=>
   have O:b≠0:=λaH=>hdiv ⟨.inr rfl,aH⟩;have ch:(b == 0)=false:=by simpa using O
   have HA:=ad (show arith 7 a b=(a.tmod b,0) by unfold arith;simp[O]);clear hdiv h;go_enter func151,ntmps151;go_wp2
   go_ret2
   exact fS.mk' HA.o (Below.refl _ _)
  all_goals
   clear hdiv h;go_enter func151,ntmps151;go_wp2_with((go_at_call 150;refine(kd _ _).mono ?_;rintro e ac ⟨rfl,rfl⟩))
   go_ret2
   exact fS.mk' rfl (Below.refl _ _)
end
end Go.Proofs.YtflecliffjbleaaGreat

/- Part 2 of the proof. No condition of its own. -/
import Derived.Test.YtkhnkojkplbioaaGreatQ01
namespace Go.Proofs.YtkhnkojkplbioaaGreat
open Go.RowKit Go.Proofs.Tryz
set_option maxRecDepth 1000000
set_option maxHeartbeats 25600000
set_option linter.unusedVariables false
variable{e n:Int}{cs:List Value}{B i k:Nat}{A:L3}{p:Prop}{ab w:World}
inductive VE where
 | num (n:Int)
 | g7 (s:ByteArray)
 | loc (k:Int)
 | iF (k:Int)
 | un (op:Int) (x:VE)
 | bin (op:Int) (x y:VE)
def VE.rep(w:World)(P:Nat->Prop):VE->List Value->Prop
 | .num n=>λcs=>∃nm A c,cs=[.int .i64 1,.int .i64 n,.string nm,.slice A 0 c]
 | .g7 s=>λcs=>∃n A c,cs=[.int .i64 2,.int .i64 n,.string s,.slice A 0 c]
 | .loc k=>λcs=>∃nm A c,cs=[.int .i64 18,.int .i64 k,.string nm,.slice A 0 c]
 | .iF k=>λcs=>∃nm A c,cs=[.int .i64 19,.int .i64 k,.string nm,.slice A 0 c]
 | .un op x=>λcs=>∃n nm b o c bx Z a4 E,cs=[.int .i64 op,.int .i64 n,.string nm,.slice (some ⟨b,o,none⟩) 1 c]/\P b/\x.rep w P [bx,Z,a4,E]/\
   w.cell? ⟨b,o,none⟩=some bx/\w.cell? ⟨b,o+1,none⟩=some Z/\w.cell? ⟨b,o+2,none⟩=some a4/\w.cell? ⟨b,o+3,none⟩=some E
 | .bin op x y=>λcs=>∃n nm b o c bx Z a4 E b2 cG ch bA,cs=[.int .i64 op,.int .i64 n,.string nm,.slice (some ⟨b,o,none⟩) 2 c]/\P b/\x.rep w P [bx,Z,a4,E]/\y.rep w P [b2,cG,ch,bA]/\
   w.cell? ⟨b,o,none⟩=some bx/\w.cell? ⟨b,o+1,none⟩=some Z/\w.cell? ⟨b,o+2,none⟩=some a4/\w.cell? ⟨b,o+3,none⟩=some E/\
   w.cell? ⟨b,o+4,none⟩=some b2/\w.cell? ⟨b,o+5,none⟩=some cG/\w.cell? ⟨b,o+6,none⟩=some ch/\w.cell? ⟨b,o+7,none⟩=some bA
theorem VE.aS{w ab:World}{P:Nat->Prop}(ap:∀b,P b->ab.heap[b]?=w.heap[b]?):∀(e:VE) (cs:List Value),e.rep w P cs->e.rep ab P cs
 | .num _,_,h=>h
 | .g7 _,_,h=>h
 | .loc _,_,h=>h
 | .iF _,_,h=>h
 | .un op x,cs,h=>by
  obtain⟨n,nm,b,o,c,bx,Z,a4,E,T,O,hx,c0,c1,c2,c3⟩:=h;have hc:∀j,ab.cell? ⟨b,j,none⟩=w.cell? ⟨b,j,none⟩:=λj=>World.cell?_of_block (w:=w) (ap b O)
  exact⟨n,nm,b,o,c,bx,Z,a4,E,T,O,VE.aS ap x _ hx,(hc _).trans c0,(hc _).trans c1,(hc _).trans c2,(hc _).trans c3⟩
 | .bin op x y,cs,h=>by
  obtain⟨n,nm,b,o,c,bx,Z,a4,E,b2,cG,ch,bA,T,O,hx,bb,c0,c1,c2,c3,d0,d1,d2,d3⟩:=h;have hc:∀j,ab.cell? ⟨b,j,none⟩=w.cell? ⟨b,j,none⟩:=λj=>World.cell?_of_block (w:=w) (ap b O);exact⟨n,nm,b,o,c,bx,Z,a4,E,b2,cG,ch,bA,T,O,VE.aS ap x _ hx,VE.aS ap y _ bb,(hc _).trans c0,(hc _).trans c1,(hc _).trans c2,(hc _).trans c3,(hc _).trans d0,(hc _).trans d1,(hc _).trans d2,(hc _).trans d3⟩
theorem VE.aL{w:World}{P c9:Nat->Prop}(hp:∀b,P b->c9 b):∀(e:VE) (cs:List Value),e.rep w P cs->e.rep w c9 cs
 | .num _,_,h=>h
 | .g7 _,_,h=>h
 | .loc _,_,h=>h
 | .iF _,_,h=>h
 | .un op x,cs,h=>by
  obtain⟨n,nm,b,o,c,bx,Z,a4,E,T,O,hx,hc⟩:=h
  exact⟨n,nm,b,o,c,bx,Z,a4,E,T,hp b O,VE.aL hp x _ hx,hc⟩
 | .bin op x y,cs,h=>by
  obtain⟨n,nm,b,o,c,bx,Z,a4,E,b2,cG,ch,bA,T,O,hx,bb,hc⟩:=h;exact⟨n,nm,b,o,c,bx,Z,a4,E,b2,cG,ch,bA,T,hp b O,VE.aL hp x _ hx,VE.aL hp y _ bb,hc⟩
abbrev VE.at_(w:World)(e:VE)(cs:List Value):Prop:=e.rep w (·<w.heap.size) cs
theorem VE.I3{e:VE}(h:e.at_ w cs)(O:Below w.heap.size w ab):e.at_ ab cs:=
 VE.aL (λ_ al=>Ll al O.size) _ _ (VE.aS (λb al=>O.block b al) _ _ h)
def VE.ok(ng nl:Nat):VE->Prop
 | .num _=>True
 | .g7 _=>False
 | .loc k=>0<=k/\k<nl
 | .iF k=>0<=k/\k<ng
 | .un op x=>(op=3\/op=4)/\x.ok ng nl
 | .bin op x y=>(5<=op/\op<=17)/\x.ok ng nl/\y.ok ng nl
def fo(b:Bool):Int:=if b then 1 else 0
def arith(op a b:Int):Int×Int:=
 if op=5 then (wrap64 (a*b),0) else if op=8 then (wrap64 (a+b),0) else if op=9 then (wrap64 (a - b),0)
 else if op=6 then (if b=0 then (0,1) else (wrap64 (a.tdiv b),0))
 else if op=7 then (if b=0 then (0,1) else (a.tmod b,0))
 else if op=10 then (fo (decide (a<b)),0) else if op=11 then (fo (decide (a<=b)),0)
 else if op=12 then (fo (decide (b<a)),0) else if op=13 then (fo (decide (b<=a)),0)
 else if op=14 then (fo (a == b),0) else if op=15 then (fo (a != b),0) else (0,0)
def ev(g l:List Int):VE->Int×Int
 | .num n=>(n,0)
 | .g7 _=>(0,0)
 | .loc k=>(l.getD k.toNat 0,0)
 | .iF k=>(g.getD k.toNat 0,0)
 | .un op x=>if (ev g l x).2≠0 then (0,(ev g l x).2) else if op=3 then (wrap64 (-(ev g l x).1),0) else (fo ((ev g l x).1 == 0),0)
 | .bin op x y=>
  if (ev g l x).2≠0 then (0,(ev g l x).2)
  else if op=16/\(ev g l x).1=0 then (0,0)
  else if op=17/\(ev g l x).1≠0 then (1,0)
  else if (ev g l y).2≠0 then (0,(ev g l y).2)
  else if op=16\/op=17 then (fo ((ev g l y).1 != 0),0)
  else arith op (ev g l x).1 (ev g l y).1
structure bD where
 name:ByteArray
 re:Bool
 size:Int
structure bV where
 owner:Int
 depth:Int
 deriving DecidableEq
def gg(m:bD):List Value:=[.string m.name,.bool m.re,.int .i64 m.size]
def bK(h:bV):List Value:=[.int .i64 h.owner,.int .i64 h.depth]
def bD.num(m:bD):Int:=max m.size 1
def bD.jK(m:bD):Nat:=(max m.size 1).toNat
theorem bD.mX(m:bD):1<=m.num:=by unfold bD.num;omega
theorem bD.lp(m:bD):(m.jK:Int)=m.num:=by unfold bD.num bD.jK;omega
def ns(X:List bD):Prop:=X.length<=64/\∀m∈X,0<=m.size/\m.size<=64
def elems(X:List bD):Int:=(X.map bD.num).sum
theorem p2(m:bD)(X:List bD):elems (m::X)=m.num+elems X:=by simp[elems]
theorem yP(X Y:List bD):elems (X++Y)=elems X+elems Y:=by simp[elems]
theorem gM(X:List bD)(m:bD):elems (X++[m])=elems X+m.num:=by simp[elems]
theorem oc:∀(X:List bD),(∀m∈X,0<=m.size/\m.size<=64)->(X.length:Int)<=elems X/\elems X<=64*X.length
 | [],_=>by simp[elems]
 | m::X,h=>by
  have ac:=h m (by simp);have au:=oc X (λm hm=>h m (by simp[hm]));rw[p2];simp only[Lx];have:=m.mX;unfold bD.num at *;omega
theorem ns.take{X:List bD}(h:ns X)(k:Nat):ns (X.take k):=
 ⟨by have:=h.1;simp;omega,λm hm=>h.2 m (List.mem_of_mem_take hm)⟩
variable{X:List bD}
theorem ns.bound(h:ns X):0<=elems X/\elems X<=4096:=by
 have:=oc X h.2;have:=h.1;omega
theorem ns.kZ(h:ns X)(k:Nat):0<=elems (X.take k)/\elems (X.take k)<=4096:=(h.take k).bound
variable{m:bD}
theorem ns.at_(h:ns X)(hm:X[k]?=some m):0<=m.size/\m.size<=64:=h.2 m (Ln hm)
theorem lF(X:List bD)(k:Nat):elems (X.take k)<=elems X:=by
 have h:=yP (X.take k) (X.drop k);rw[List.take_append_drop] at h;have:∀Y:List bD,0<=elems Y:=λY=>by
  induction Y with
  | nil=>simp[elems]
  | cons m Y ao=>rw[p2];have:=m.mX;omega
 have:=this (X.drop k);omega
def iM(X:List bD)(k:Nat):List Int:=(X.take k).zipIdx.flatMap λp=>List.replicate p.1.jK (p.2:Int)
def own(X:List bD):List Int:=iM X X.length
theorem qD(X:List bD):iM X 0=[]:=by simp[iM]
theorem j7(h:X[k]?=some m):iM X (k+1)=iM X k++List.replicate m.jK (k:Int):=by
 have ap:k<X.length:=(List.getElem?_eq_some_iff.1 h).1;unfold iM;rw[a1 h,List.zipIdx_append,List.flatMap_append];congr 1
 simp[Nat.min_eq_left (Nat.le_of_lt ap)]
theorem eA(X:List bD):∀k,k<=X.length->((iM X k).length:Int)=elems (X.take k)
 | 0,_=>by simp[qD,elems]
 | k+1,h=>by
  have hm:X[k]?=some (X[k]'ad):=List.getElem?_eq_getElem _;rw[j7 hm,a1 hm,gM,Lm,List.length_replicate,Int.natCast_add,eA X k ad,bD.lp]
theorem dz(X:List bD):((own X).length:Int)=elems X:=by
 rw[own,eA X _ (Lk _),List.take_length]
theorem ch(h:ns X):(own X).length<=4096:=by
 have:=dz X;have:=h.bound;omega
theorem mZ(X:List bD)(k:Nat):∀d,k+d<=X.length->∃s,iM X (k+d)=iM X k++s
 | 0,_=>⟨[],by simp⟩
 | d+1,h=>by
  obtain⟨s,hs⟩:=mZ X k d ad;have hm:X[k+d]?=some (X[k+d]'ad):=List.getElem?_eq_getElem _;exact⟨s++List.replicate (X[k+d]'ad).jK ((k+d:Nat):Int),by rw[show k+(d+1)=(k+d)+1 from rfl,j7 hm,hs,Ly]⟩
theorem tz(h:X[k]?=some m){e:Nat}(ac:elems (X.take k)<=e)(au:(e:Int)<elems (X.take k)+m.num):(own X)[e]?=some (k:Int):=by
 have ap:k<X.length:=(List.getElem?_eq_some_iff.1 h).1;obtain⟨s,hs⟩:=mZ X (k+1) (X.length - (k+1)) ad;rw[own,show X.length=k+1+(X.length - (k+1)) from by omega,hs,j7 h];have hl:=eA X k ad;have hn:=m.lp;rw[Ly,List.getElem?_append_right ad,List.getElem?_append_left (by rw[List.length_replicate];omega),List.getElem?_replicate,if_pos ad]
def bx(X:List bD)(e:Int):Int:=if e<0 then -1 else ((own X)[e.toNat]?).getD (-1)
theorem ja(h:e<0):bx X e = -1:=if_pos h
theorem kK(h:X[k]?=some m)(h0:0<=e)(ac:elems (X.take k)<=e)(au:e<elems (X.take k)+m.num):bx X e=k:=by
 unfold bx;rw[if_neg ad,tz h (e:=e.toNat) ad ad];rfl
theorem jb(h:elems X<=e):bx X e = -1:=by
 unfold bx;split
 .rfl
 .rw[List.getElem?_eq_none (aD (dz X))];rfl
theorem m0(X:List bD):∀(k:Nat),k<=X.length->∀e:Int,0<=e->e<elems (X.take k)->∃i m,i<k/\X[i]?=some m/\elems (X.take i)<=e/\e<elems (X.take i)+m.num
 | 0,_,e,h0,h=>by simp[elems] at h;omega
 | k+1,ap,e,h0,h=>by
  have hm:X[k]?=some (X[k]'ad):=List.getElem?_eq_getElem _;by_cases al:e<elems (X.take k)
  .obtain⟨i,m,an,hx,ac,au⟩:=m0 X k ad e h0 al;exact⟨i,m,ad,hx,ac,au⟩
  .refine⟨k,_,ad,hm,ad,?_⟩;rw[a1 hm,gM] at h;exact h
theorem mU(h:0<=bx X e):∃i m,bx X e=(i:Nat)/\X[i]?=some m/\0<=e/\elems (X.take i)<=e/\e<elems (X.take i)+m.num:=by
 have h0:0<=e:=by
  rcases Int.lt_or_le e 0 with F|F
  .rw[ja F] at h;omega
  .exact F
 have al:e<elems X:=by
  rcases Int.lt_or_le e (elems X) with F|F
  .exact F
  .rw[jb F] at h;omega
 obtain⟨i,m,_,hm,ac,au⟩:=m0 X X.length (Lk _) e h0 (by rwa [List.take_length]);exact⟨i,m,kK hm h0 ac au,hm,h0,ac,au⟩
theorem mf(h0:0<=e)(h:e<elems X):0<=bx X e:=by
 obtain⟨i,m,_,hm,ac,au⟩:=m0 X X.length (Lk _) e h0 (by rwa [List.take_length]);rw[kK hm h0 ac au];omega
theorem fU:0<=bx X e↔0<=e/\e<elems X:=by
 constructor
 .intro h;refine⟨?_,?_⟩
  .rcases Int.lt_or_le e 0 with F|F
   .rw[ja F] at h;omega
   .exact F
  .rcases Int.lt_or_le e (elems X) with F|F
   .exact F
   .rw[jb F] at h;omega
 .exact λh=>mf h.1 h.2
def eL(X:List bD)(m:Int):Int:=if m<0\/(X.length:Int)<=m then -1 else elems (X.take m.toNat)
theorem jU{m:Int}(h:m<0\/(X.length:Int)<=m):eL X m = -1:=if_pos h
theorem kY(h:k<X.length):eL X k=elems (X.take k):=by
 unfold eL;rw[if_neg ad];rfl
theorem sb(ap:k<X.length):(own X)[(elems (X.take k)).toNat]?=some (k:Int):=by
 have hm:X[k]?=some (X[k]'ap):=List.getElem?_eq_getElem _;have h0:0<=elems (X.take k):=by have:=eA X k ad;omega
 exact tz hm ad (by have:=(X[k]'ap).mX;omega)
theorem po{e:Nat}{v:Int}(h:(own X)[e]?=some v):∃k m,v=(k:Nat)/\X[k]?=some m/\elems (X.take k)<=e/\(e:Int)<elems (X.take k)+m.num:=by
 have hl:=dz X;have he:=(List.getElem?_eq_some_iff.1 h).1;obtain⟨i,m,_,hm,ac,au⟩:=m0 X X.length (Lk _) e ad (by rw[List.take_length];omega);have:=tz hm ac au;rw[h] at this;injection this with this;exact⟨i,m,this,hm,ac,au⟩
theorem oN(X:List bD)(h:i<=k):elems (X.take i)<=elems (X.take k):=by
 have:=lF (X.take k) i
 rwa [List.take_take,Nat.min_eq_left h] at this
theorem lG(X:List bD)(hm:X[i]?=some m)(h:i<k):elems (X.take i)+m.num<=elems (X.take k):=by
 have:=oN X (show i+1<=k from h)
 rwa [a1 hm,gM] at this
theorem qE{e:Nat}(he:(e:Int)<elems (X.take k)):(own X)[e]?≠some (k:Int):=by
 intro h;obtain⟨i,m,bG,hm,ac,au⟩:=po h;have:i=k:=ad;subst this;omega
section
attribute [local go_sem ↓] gr gu
theorem kd(b:Bool)(w:World):Calls prog 175 #[.bool b] w λe ab=>e=.returned (.int .i64 (fo b))/\w=ab:=by
 cases b<;>(go_enter func175,ntmps175;go_wp2;go_ret;exact⟨rfl,rfl⟩)
theorem h9(b:Bool)(w:World):Calls prog 103 #[.bool b] w λe ab=>e=.returned (.int .i64 (fo b))/\w=ab:=by
 cases b<;>(go_enter func103,ntmps103;go_wp2;go_ret;exact⟨rfl,rfl⟩)
theorem ob(A:L3)(n c:Nat)(l:List Int)(k:Int)(w:World)(h:cp (EF cP) 1 w w.heap.size A n l)(h0:0<=k)(ac:k<n) :
  Calls prog 174 #[.slice A n c,.int .i64 k] w λe ab=>e=.returned (.int .i64 (l.getD k.toNat 0))/\w=ab:=by
 obtain⟨j,rfl⟩:=Lp h0;obtain⟨b,o,x,rfl,O,hx,hc⟩:=h.int (show j<n by omega);have bi:j<n:=ad;have aQ:=ae (show l.getD (j:Int).toNat 0=x by rw[LI,List.getD_eq_getElem?_getD,hx];rfl);clear hx h;go_enter func174,ntmps174;go_wp2;go_ret;exact⟨ret_int (by rw[aQ.o]),rfl⟩
theorem m3(a b:Int)(O:b≠0)(w:World) :
  Calls prog 104 #[.int .i64 a,.int .i64 b] w λe ab=>e=.returned (.int .i64 (wrap64 (a.tdiv b)))/\w=ab:=by
 by_cases ac:b = -1
 .subst ac;go_enter func104,ntmps104;go_wp2;go_ret;exact⟨ret_int (by rw[Int.tdiv_neg,Int.tdiv_one]),rfl⟩
 .have cb:(b == -1)=false:=by simpa using ac
  have cL:(b == 0)=false:=by simpa using O
  go_enter func104,ntmps104;go_wp2;go_ret;exact⟨rfl,rfl⟩
def gb(w:World)(r:Int×Int)(e:Ending)(ab:World):Prop:=e=.returned (.tuple #[.int .i64 r.1,.int .i64 r.2])/\Below w.heap.size w ab
theorem gb.mk'{r:Int×Int}{a b:Int}(ba:r=(a,b))(O:Below w.heap.size w ab):gb w r (.returned (.tuple #[.int .i64 a,.int .i64 b])) ab:=by
 subst ba;exact⟨rfl,O⟩
theorem pR(op a b:Int)(h:5<=op/\op<=15)(w:World) :
  Calls prog 176 #[.int .i64 op,.int .i64 a,.int .i64 b] w (gb w (arith op a b)):=by
 by_cases hdiv:(op=6\/op=7)/\b=0
 .obtain⟨cA,rfl⟩:=hdiv;rcases cA with rfl|rfl
  all_goals
   go_enter func176,ntmps176;go_wp2
   go_ret2
   exact gb.mk' rfl (Below.refl _ _)
 .obtain rfl|rfl|rfl|rfl|rfl|rfl|rfl|rfl|rfl|rfl|rfl:op=5\/op=6\/op=7\/op=8\/op=9\/op=10\/op=11\/op=12\/op=13\/op=14\/op=15:=ad
  case inr.inl=>
   have O:b≠0:=λah=>hdiv ⟨.inl rfl,ah⟩;have cL:(b == 0)=false:=by simpa using O
   have HA:=ae (show arith 6 a b=(wrap64 (a.tdiv b),0) by unfold arith;simp[O]);clear hdiv h;go_enter func176,ntmps176;go_wp2
   go_ret2
   exact gb.mk' HA.o (Below.refl _ _)
  case inr.inr.inl=>
   have O:b≠0:=λah=>hdiv ⟨.inr rfl,ah⟩;have cL:(b == 0)=false:=by simpa using O
   have HA:=ae (show arith 7 a b=(a.tmod b,0) by unfold arith;simp[O]);clear hdiv h;go_enter func176,ntmps176;go_wp2
   go_ret2
   exact gb.mk' HA.o (Below.refl _ _)
  all_goals
   clear hdiv h;go_enter func176,ntmps176;go_wp2_with((go_at_call 175;refine(kd _ _).mono ?_;rintro e ab ⟨rfl,rfl⟩))
   go_ret2
   exact gb.mk' rfl (Below.refl _ _)
end
section
attribute [local go_sem ↓] gr gu
structure lR(w:World)(G L:L3)(ng nl:Nat)(g l:List Int)(e:VE)(cs:List Value):Prop where
 gs:cp (EF cP) 1 w w.heap.size G ng g
 ls:cp (EF cP) 1 w w.heap.size L nl l
 ok:e.ok ng nl
 rep:e.at_ w cs
theorem lR.on{G L:L3}{ng nl:Nat}{g l:List Int}{e:VE}(h:lR w G L ng nl g l e cs)(O:Below w.heap.size w ab):lR ab G L ng nl g l e cs:=
 ⟨h.gs.c8 O O.size,h.ls.c8 O O.size,h.ok,VE.I3 h.rep O⟩
def ju(e:VE):Prop:=∀(w:World) (G L:L3) (ng nl cg cl:Nat) (g l:List Int) (c0 c1 c2 c3:Value),lR w G L ng nl g l e [c0,c1,c2,c3]->
 Calls prog 138 #[.agg #[.slice G ng cg,.slice L nl cl],.agg #[c0,c1,c2,c3]] w (gb w (ev g l e))
def jT(e:VE):Prop:=∀(w:World) (G L:L3) (ng nl cg cl:Nat) (g l:List Int) (c0 c1 c2 c3:Value),lR w G L ng nl g l e [c0,c1,c2,c3]->
 Calls prog 161 #[.agg #[.slice G ng cg,.slice L nl cl],.agg #[c0,c1,c2,c3]] w (gb w (ev g l e))
def pB(e:VE):Prop:=∀(w:World) (G L:L3) (ng nl cg cl:Nat) (g l:List Int) (c0 c1 c2 c3:Value),lR w G L ng nl g l e [c0,c1,c2,c3]->
 Calls prog 162 #[.agg #[.slice G ng cg,.slice L nl cl],.agg #[c0,c1,c2,c3]] w (gb w (ev g l e))
theorem lZ(a b:Obj):Below w.heap.size w ((w.alloc a).alloc b):=((Below.refl _ _).alloc (Lk _) _).alloc (by simp) _
theorem xc(n:Int):jT (.num n):=by
 intro w G L ng nl cg cl g l c0 c1 c2 c3 h;obtain⟨nm,A,c,T⟩:=h.rep;injection T with h0 T;injection T with ac T;injection T with au T;injection T with aY T;subst h0 ac au aY;clear h T;go_enter func161,ntmps161;go_wp2
 go_ret2
 exact gb.mk' rfl (lZ _ _)
namespace BZ
theorem BD(h:p:=by
 have am:=ae bN;clear aG e0 e1 e2 e3 bN;have al:∀V:World,Below W.heap.size W V->V.cell? ⟨w.heap.size,0,none⟩=some (.slice G ng cg)/\V.cell? ⟨w.heap.size,1,none⟩=some (.slice L nl cl)/\V.cell? ⟨w.heap.size+1,0,none⟩=some (.int .i64 op)/\V.cell? ⟨w.heap.size+1,3,none⟩=some (.slice (some ⟨b,o,none⟩) 1 c)/\
   V.cell? ⟨b,o,none⟩=some bx/\V.cell? ⟨b,o+1,none⟩=some Z/\V.cell? ⟨b,o+2,none⟩=some a4/\V.cell? ⟨b,o+3,none⟩=some E:=λV hV=>by
  have bI:=am.o;have U:b<W.heap.size:=by have:=O;omega
  exact⟨(hV.cell (p:=⟨w.heap.size,0,none⟩) (by simp only[];omega)).trans a0,(hV.cell (p:=⟨w.heap.size,1,none⟩) (by simp only[];omega)).trans q,(hV.cell (p:=⟨w.heap.size+1,0,none⟩) (by simp only[];omega)).trans a7,(hV.cell (p:=⟨w.heap.size+1,3,none⟩) (by simp only[];omega)).trans v,
   (hV.cell (p:=⟨b,o,none⟩) U).trans d0,(hV.cell (p:=⟨b,o+1,none⟩) U).trans d1,(hV.cell (p:=⟨b,o+2,none⟩) U).trans d2,(hV.cell (p:=⟨b,o+3,none⟩) U).trans d3⟩
 have c8:=ae al;clear al a0 q a7 v d0 d1 d2 d3;go_region_held3 (λV=>V.cell? ⟨w.heap.size,0,none⟩=some (.slice G ng cg)/\V.cell? ⟨w.heap.size,1,none⟩=some (.slice L nl cl)/\V.cell? ⟨w.heap.size+1,0,none⟩=some (.int .i64 op)/\V.cell? ⟨w.heap.size+1,3,none⟩=some (.slice (some ⟨b,o,none⟩) 1 c)/\
   V.cell? ⟨b,o,none⟩=some bx/\V.cell? ⟨b,o+1,none⟩=some Z/\V.cell? ⟨b,o+2,none⟩=some a4/\V.cell? ⟨b,o+3,none⟩=some E)
  (first|exact c8.o _ (Below.refl _ _)|exact c8.o _ (Below.refl _ _).drew|exact c8.o _ bj)
  (first|(go_at_call 138;refine(ck.o _ G L ng nl cg cl g l bx Z a4 E ?_).mono ?_;(exact be.on (Below.refl _ _).drew);rintro r ab ⟨rfl,d⟩;have bj:Below W.heap.size W ab:=(Below.refl W.heap.size W).drew.trans d;clear d))
 have J:=(f.trans (bj.mono f.size))
 have bo:=ae (show ev g l (.un op x)=if (ev g l x).2≠0 then (0,(ev g l x).2) else if op=3 then (wrap64 (-(ev g l x).1),0) else (fo ((ev g l x).1 == 0),0) from rfl);generalize ev g l x=r1 at *;obtain⟨v1,f1⟩:=r1;clear c8 ck be;by_cases aK:f1=0
 case neg=>
  have q1:(f1 != 0)=true:=by simpa using aK
  have aX:=ae (show ev g l (.un op x)=(0,f1) by rw[bo.o];simp[aK]);clear aK;go_wp2
  go_ret2
  exact gb.mk' aX.o J
 have q1:(f1 != 0)=false:=by simpa using aK
 rcases bQ.o with aY|bR
 .have aX:=ae (show ev g l (.un op x)=(wrap64 (-v1),0) by rw[bo.o];simp[aK,aY]);subst aY;clear aK;go_wp2
  go_ret2
  exact gb.mk' aX.o J
 .have aX:=ae (show ev g l (.un op x)=(fo (v1 == 0),0) by rw[bo.o];simp[aK,bR]);subst bR;clear aK;go_wp2_with((go_at_call 175;refine(kd _ _).mono ?_;rintro e ab ⟨rfl,rfl⟩))
  go_ret2
  exact gb.mk' aX.o J
 ):p:=h
theorem Bd(h:p:=by
 obtain⟨ck,bQ⟩:=aJ aB cA;clear h hx aB;have cb:(op == 1)=false:=by simp;omega
 have g2:(op == 18)=false:=by simp;omega
 have cT:(op == 19)=false:=by simp;omega
 clear cA;go_enter func161,ntmps161;go_wp2;have f:=lZ (w:=w) (.cells #[.slice G ng cg,.slice L nl cl] 221) (.cells #[.int .i64 op,.int .i64 n,.string nm,.slice (some ⟨b,o,none⟩) 1 c] 53);have a0:((w.alloc (.cells #[.slice G ng cg,.slice L nl cl] 221)).alloc (.cells #[.int .i64 op,.int .i64 n,.string nm,.slice (some ⟨b,o,none⟩) 1 c] 53)).cell? ⟨w.heap.size,0,none⟩=some (.slice G ng cg):=by simp[go_sem]
 have q:((w.alloc (.cells #[.slice G ng cg,.slice L nl cl] 221)).alloc (.cells #[.int .i64 op,.int .i64 n,.string nm,.slice (some ⟨b,o,none⟩) 1 c] 53)).cell? ⟨w.heap.size,1,none⟩=some (.slice L nl cl):=by simp[go_sem]
 have a7:((w.alloc (.cells #[.slice G ng cg,.slice L nl cl] 221)).alloc (.cells #[.int .i64 op,.int .i64 n,.string nm,.slice (some ⟨b,o,none⟩) 1 c] 53)).cell? ⟨w.heap.size+1,0,none⟩=some (.int .i64 op):=by simp[go_sem]
 have v:((w.alloc (.cells #[.slice G ng cg,.slice L nl cl] 221)).alloc (.cells #[.int .i64 op,.int .i64 n,.string nm,.slice (some ⟨b,o,none⟩) 1 c] 53)).cell? ⟨w.heap.size+1,3,none⟩=some (.slice (some ⟨b,o,none⟩) 1 c):=by simp[go_sem]
 have bN:((w.alloc (.cells #[.slice G ng cg,.slice L nl cl] 221)).alloc (.cells #[.int .i64 op,.int .i64 n,.string nm,.slice (some ⟨b,o,none⟩) 1 c] 53)).heap.size=w.heap.size+2:=by simp
 generalize (w.alloc (.cells #[.slice G ng cg,.slice L nl cl] 221)).alloc (.cells #[.int .i64 op,.int .i64 n,.string nm,.slice (some ⟨b,o,none⟩) 1 c] 53)=W at *;have be:=aG.on f;exact BC
 ):p:=h
end BZ
open BZ in
theorem zl(op:Int)(x:VE)(aB:ju x):jT (.un op x):=by
 intro w G L ng nl cg cl g l c0 c1 c2 c3 h;exact Bc
theorem qX(e:VE)(k:Int)(he:e=.loc k\/e=.iF k):jT e:=by
 intro w G L ng nl cg cl g l c0 c1 c2 c3 h;have a:=lZ (w:=w) (.cells #[.slice G ng cg,.slice L nl cl] 221) (.cells #[c0,c1,c2,c3] 53);have bz:=h.gs.c8 a a.size;have y:=h.ls.c8 a a.size;clear a;have bM:=h.ok;rcases he with rfl|rfl
 all_goals
  obtain⟨nm,A,c,T⟩:=h.rep;injection T with h0 T;injection T with ac T;injection T with au T;injection T with aY T;subst h0 ac au aY;clear h T;obtain⟨br,cd⟩:=bM;go_enter func161,ntmps161;go_wp2_with(fail)
  first
  | refine(ob L nl cl l k _ y br cd).mono ?_
  | refine(ob G ng cg g k _ bz br cd).mono ?_
  rintro e ab ⟨rfl,rfl⟩;go_wp2
  go_ret2
  exact gb.mk' rfl (lZ _ _)
namespace B0
theorem Bj(h:p:=by
 obtain⟨HA,bQ⟩:=aJ bz bn;clear bo;have split:(op == 16)=true/\(v1 == 0)=false/\(op == 17)=false\/(op == 16)=false/\(op == 17)=true/\(v1 != 0)=false\/(op == 16)=false/\(op == 17)=false:=by
  exact G6
 clear bz bn;have bq:=ae split;clear split;rcases bq.o with⟨bs,br,dz⟩|⟨bs,br,dz⟩|⟨bs,br⟩
 all_goals
  go_wp2;go_region_held3 (λV=>V.cell? ⟨w.heap.size,0,none⟩=some (.slice G ng cg)/\V.cell? ⟨w.heap.size,1,none⟩=some (.slice L nl cl)/\V.cell? ⟨w.heap.size+1,0,none⟩=some (.int .i64 op)/\V.cell? ⟨w.heap.size+1,3,none⟩=some (.slice (some ⟨b,o,none⟩) 2 c)/\V.cell? ⟨b,o,none⟩=some bx/\V.cell? ⟨b,o+1,none⟩=some Z/\V.cell? ⟨b,o+2,none⟩=some a4/\V.cell? ⟨b,o+3,none⟩=some E/\V.cell? ⟨b,o+4,none⟩=some b2/\V.cell? ⟨b,o+5,none⟩=some cG/\V.cell? ⟨b,o+6,none⟩=some ch/\V.cell? ⟨b,o+7,none⟩=some bA)
   (first|exact c8.o _ (Below.refl _ _)|exact c8.o _ (Below.refl _ _).drew|exact c8.o _ aV|exact c8.o _ bj|exact c8.o _ bj.drew)
   (first|(go_at_call 138;refine(t.o _ G L ng nl cg cl g l b2 cG ch bA ?_).mono ?_;(exact(aI.on bj).on (Below.refl _ _).drew);rintro r b6 ⟨rfl,d⟩;have aV:Below W.heap.size W b6:=bj.drew.trans (d.mono bj.size);clear d))
  have J:=(f.trans (aV.mono f.size))
  generalize ev g l y=gM at *;obtain⟨v2,f2⟩:=gM;by_cases az:f2=0
  case neg=>
   have df:(f2 != 0)=true:=by simpa using az
   have cc:=ae (show ev g l (.bin op x y)=(0,f2) by rw[bd.o];simp[az]);clear az;go_wp2
   go_ret2
   exact gb.mk' cc.o J
  have df:(f2 != 0)=false:=by simpa using az
  have cc:=ae (show ev g l (.bin op x y)=if op=16\/op=17 then (fo (v2 != 0),0) else arith op v1 v2 by rw[bd.o];simp[az]);clear az bd
  first
  | (have F:=ae (show ev g l (.bin op x y)=(fo (v2 != 0),0) by rw[cc.o,if_pos (by first|exact .inl (by simpa using bs)|exact .inr (by simpa using br))]);go_wp2_with((go_at_call 175;refine(kd _ _).mono ?_;rintro e ab ⟨rfl,rfl⟩));go_ret2;exact gb.mk' F.o J)
  | (have bf:op≠16/\op≠17:=⟨by simpa using bs,by simpa using br⟩;have F:=ae (show ev g l (.bin op x y)=arith op v1 v2 by rw[cc.o,if_neg ad]);go_wp2_with(fail);refine(pR op v1 v2 ad _).mono ?_;rintro e cK ⟨rfl,b1⟩;go_wp2;go_ret2;exact gb.mk' (by rw[F.o]) (J.trans (b1.mono J.size)))
 ):p:=h
theorem AS(h:p:=by
 clear ck be;by_cases aK:f1=0
 case neg=>
  have q1:(f1 != 0)=true:=by simpa using aK
  have aX:=ae (show ev g l (.bin op x y)=(0,f1) by rw[bo.o];simp[aK]);clear aK;go_wp2
  go_ret2
  exact gb.mk' aX.o J
 have q1:(f1 != 0)=false:=by simpa using aK
 have S:=ae aK;clear aK;by_cases bz:op=16/\v1=0
 .obtain⟨rfl,rfl⟩:=bz;have aX:=ae (show ev g l (.bin 16 x y)=(0,0) by rw[bo.o];simp[S.o]);go_wp2
  go_ret2
  exact gb.mk' aX.o J
 by_cases bn:op=17/\v1≠0
 .obtain⟨rfl,bG⟩:=bn;have cN:(v1 != 0)=true:=by simpa using bG
  have aX:=ae (show ev g l (.bin 17 x y)=(1,0) by rw[bo.o];simp[S.o,bG]);clear bG;go_wp2
  go_ret2
  exact gb.mk' aX.o J
 exact Bi
 ):p:=h
theorem BD(h:p:=by
 have d4:=(f.cell (p:=⟨b,o+4,none⟩) O).trans a6;have d5:=(f.cell (p:=⟨b,o+5,none⟩) O).trans cu;have d6:=(f.cell (p:=⟨b,o+6,none⟩) O).trans bB;have d7:=(f.cell (p:=⟨b,o+7,none⟩) O).trans e7;have am:=ae bN;clear aG j e0 e1 e2 e3 a6 cu bB e7 bN;have al:∀V:World,Below W.heap.size W V->V.cell? ⟨w.heap.size,0,none⟩=some (.slice G ng cg)/\V.cell? ⟨w.heap.size,1,none⟩=some (.slice L nl cl)/\V.cell? ⟨w.heap.size+1,0,none⟩=some (.int .i64 op)/\V.cell? ⟨w.heap.size+1,3,none⟩=some (.slice (some ⟨b,o,none⟩) 2 c)/\V.cell? ⟨b,o,none⟩=some bx/\V.cell? ⟨b,o+1,none⟩=some Z/\V.cell? ⟨b,o+2,none⟩=some a4/\V.cell? ⟨b,o+3,none⟩=some E/\V.cell? ⟨b,o+4,none⟩=some b2/\V.cell? ⟨b,o+5,none⟩=some cG/\V.cell? ⟨b,o+6,none⟩=some ch/\V.cell? ⟨b,o+7,none⟩=some bA:=λV hV=>by
  have bI:=am.o;have U:b<W.heap.size:=by have:=O;omega
  exact⟨(hV.cell (p:=⟨w.heap.size,0,none⟩) (by simp only[];omega)).trans a0,(hV.cell (p:=⟨w.heap.size,1,none⟩) (by simp only[];omega)).trans q,(hV.cell (p:=⟨w.heap.size+1,0,none⟩) (by simp only[];omega)).trans a7,(hV.cell (p:=⟨w.heap.size+1,3,none⟩) (by simp only[];omega)).trans v,(hV.cell (p:=⟨b,o,none⟩) U).trans d0,(hV.cell (p:=⟨b,o+1,none⟩) U).trans d1,(hV.cell (p:=⟨b,o+2,none⟩) U).trans d2,(hV.cell (p:=⟨b,o+3,none⟩) U).trans d3,(hV.cell (p:=⟨b,o+4,none⟩) U).trans d4,(hV.cell (p:=⟨b,o+5,none⟩) U).trans d5,(hV.cell (p:=⟨b,o+6,none⟩) U).trans d6,(hV.cell (p:=⟨b,o+7,none⟩) U).trans d7⟩
 have c8:=ae al;clear al a0 q a7 v d0 d1 d2 d3 d4 d5 d6 d7;go_region_held3 (λV=>V.cell? ⟨w.heap.size,0,none⟩=some (.slice G ng cg)/\V.cell? ⟨w.heap.size,1,none⟩=some (.slice L nl cl)/\V.cell? ⟨w.heap.size+1,0,none⟩=some (.int .i64 op)/\V.cell? ⟨w.heap.size+1,3,none⟩=some (.slice (some ⟨b,o,none⟩) 2 c)/\V.cell? ⟨b,o,none⟩=some bx/\V.cell? ⟨b,o+1,none⟩=some Z/\V.cell? ⟨b,o+2,none⟩=some a4/\V.cell? ⟨b,o+3,none⟩=some E/\V.cell? ⟨b,o+4,none⟩=some b2/\V.cell? ⟨b,o+5,none⟩=some cG/\V.cell? ⟨b,o+6,none⟩=some ch/\V.cell? ⟨b,o+7,none⟩=some bA)
  (first|exact c8.o _ (Below.refl _ _)|exact c8.o _ (Below.refl _ _).drew|exact c8.o _ bj|exact c8.o _ bj|exact c8.o _ bj.drew)
  (first|(go_at_call 138;refine(ck.o _ G L ng nl cg cl g l bx Z a4 E ?_).mono ?_;(exact be.on (Below.refl _ _).drew);rintro r aU ⟨rfl,d⟩;have bj:Below W.heap.size W aU:=(Below.refl W.heap.size W).drew.trans (d.mono (Lk _));clear d))
 have J:=(f.trans (bj.mono f.size))
 exact AR
 ):p:=h
theorem AL(h:p:=by
 obtain⟨ck,t⟩:=aJ k m;clear h hx bb k m;go_enter func162,ntmps162;go_wp2;have f:=lZ (w:=w) (.cells #[.slice G ng cg,.slice L nl cl] 221) (.cells #[.int .i64 op,.int .i64 n,.string nm,.slice (some ⟨b,o,none⟩) 2 c] 53);have a0:((w.alloc (.cells #[.slice G ng cg,.slice L nl cl] 221)).alloc (.cells #[.int .i64 op,.int .i64 n,.string nm,.slice (some ⟨b,o,none⟩) 2 c] 53)).cell? ⟨w.heap.size,0,none⟩=some (.slice G ng cg):=by simp[go_sem]
 have q:((w.alloc (.cells #[.slice G ng cg,.slice L nl cl] 221)).alloc (.cells #[.int .i64 op,.int .i64 n,.string nm,.slice (some ⟨b,o,none⟩) 2 c] 53)).cell? ⟨w.heap.size,1,none⟩=some (.slice L nl cl):=by simp[go_sem]
 have a7:((w.alloc (.cells #[.slice G ng cg,.slice L nl cl] 221)).alloc (.cells #[.int .i64 op,.int .i64 n,.string nm,.slice (some ⟨b,o,none⟩) 2 c] 53)).cell? ⟨w.heap.size+1,0,none⟩=some (.int .i64 op):=by simp[go_sem]
 have v:((w.alloc (.cells #[.slice G ng cg,.slice L nl cl] 221)).alloc (.cells #[.int .i64 op,.int .i64 n,.string nm,.slice (some ⟨b,o,none⟩) 2 c] 53)).cell? ⟨w.heap.size+1,3,none⟩=some (.slice (some ⟨b,o,none⟩) 2 c):=by simp[go_sem]
 have bN:((w.alloc (.cells #[.slice G ng cg,.slice L nl cl] 221)).alloc (.cells #[.int .i64 op,.int .i64 n,.string nm,.slice (some ⟨b,o,none⟩) 2 c] 53)).heap.size=w.heap.size+2:=by simp
 generalize (w.alloc (.cells #[.slice G ng cg,.slice L nl cl] 221)).alloc (.cells #[.int .i64 op,.int .i64 n,.string nm,.slice (some ⟨b,o,none⟩) 2 c] 53)=W at *;have be:=aG.on f;have aI:=j.on f;exact BC
 ):p:=h
end B0
open B0 in
theorem wj(op:Int)(x y:VE)(k:ju x)(m:ju y):pB (.bin op x y):=by
 intro w G L ng nl cg cl g l c0 c1 c2 c3 h;exact AK
theorem mL(e:VE)(S:jT e)(hl:∀w cs,e.at_ w cs->∃op n nm A k c,cs=[.int .i64 op,.int .i64 n,.string nm,.slice A k c]/\k<=1):ju e:=by
 intro w G L ng nl cg cl g l c0 c1 c2 c3 h;obtain⟨op,n,nm,A,k,c,T,ap⟩:=hl _ _ h.rep;injection T with h0 T;injection T with ac T;injection T with au T;injection T with aY T;subst h0 ac au aY;clear T;have bq:=ae S;clear S hl;have q:((k:Int) == 2)=false:=by simp;omega
 have ar:(k == 2)=false:=by simp;omega
 clear ap;go_enter func138,ntmps138;go_wp2_with(fail);have f:=lZ (w:=w) (.cells #[.slice G ng cg,.slice L nl cl] 221) (.cells #[.int .i64 op,.int .i64 n,.string nm,.slice A k c] 53);have aG:=h.on f;clear h;refine(bq.o _ G L ng nl cg cl g l _ _ _ _ aG).mono ?_;rintro r ab ⟨rfl,O⟩;go_wp2
 go_ret2
 exact gb.mk' rfl (f.trans (O.mono f.size))
theorem Ed(op:Int)(x y:VE)(S:pB (.bin op x y)):ju (.bin op x y):=by
 intro w G L ng nl cg cl g l c0 c1 c2 c3 h;obtain⟨n,nm,b,o,c,bx,Z,a4,E,b2,cG,ch,bA,T,_⟩:=h.rep;injection T with h0 T;injection T with ac T;injection T with au T;injection T with aY T;subst h0 ac au aY;clear T;have bq:=ae S;clear S;go_enter func138,ntmps138;go_wp2_with(fail);have f:=lZ (w:=w) (.cells #[.slice G ng cg,.slice L nl cl] 221) (.cells #[.int .i64 op,.int .i64 n,.string nm,.slice (some ⟨b,o,none⟩) 2 c] 53);have aG:=h.on f;clear h;refine(bq.o _ G L ng nl cg cl g l _ _ _ _ aG).mono ?_;rintro r ab ⟨rfl,O⟩;go_wp2
 go_ret2
 exact gb.mk' rfl (f.trans (O.mono f.size))
theorem o5:∀e:VE,ju e
 | .num n=>mL _ (xc n) (λw cs h=>by obtain⟨nm,A,c,rfl⟩:=h;exact⟨_,_,_,_,_,_,rfl,ad⟩)
 | .g7 s=>λw G L ng nl cg cl g l c0 c1 c2 c3 h=>h.ok.elim
 | .loc k=>mL _ (qX _ k (.inl rfl)) (λw cs h=>by obtain⟨nm,A,c,rfl⟩:=h;exact⟨_,_,_,_,_,_,rfl,ad⟩)
 | .iF k=>mL _ (qX _ k (.inr rfl)) (λw cs h=>by obtain⟨nm,A,c,rfl⟩:=h;exact⟨_,_,_,_,_,_,rfl,ad⟩)
 | .un op x=>mL _ (zl op x (o5 x)) (λw cs h=>by obtain⟨n,nm,b,o,c,bx,Z,a4,E,rfl,_⟩:=h;exact⟨_,_,_,_,_,_,rfl,ad⟩)
 | .bin op x y=>Ed op x y (wj op x y (o5 x) (o5 y))
theorem pC(e:VE)(w:World)(G L:L3)(ng nl cg cl:Nat)(g l:List Int)(c0 c1 c2 c3:Value)(h:lR w G L ng nl g l e [c0,c1,c2,c3]) :
  Calls prog 102 #[.agg #[c0,c1,c2,c3],.slice G ng cg,.slice L nl cl] w (gb w (ev g l e)):=by
 have bo:=ae (o5 e);go_enter func102,ntmps102;go_wp2_with(fail);have f:=(Below.refl w.heap.size w).alloc (Lk _) (.cells #[c0,c1,c2,c3] 53);have aG:=h.on f;clear h;refine(bo.o _ G L ng nl cg cl g l _ _ _ _ aG).mono ?_;rintro r ab ⟨rfl,O⟩;go_wp2
 go_ret2
 exact gb.mk' rfl (f.trans (O.mono f.size))
end
def IM(w:World)(x:VE)(e:Ending)(ab:World):Prop:=∃c0 c1 c2 c3,e=.returned (.agg #[c0,c1,c2,c3])/\x.rep ab (λb=>w.heap.size<=b/\b<ab.heap.size) [c0,c1,c2,c3]/\Below w.heap.size w ab
variable{x:VE}
theorem IM.mk'{y:VE}{c0 c1 c2 c3:Value}(hx:x=y)(h:y.rep ab (λb=>w.heap.size<=b/\b<ab.heap.size) [c0,c1,c2,c3])(O:Below w.heap.size w ab):IM w x (.returned (.agg #[c0,c1,c2,c3])) ab:=by
 subst hx;exact⟨_,_,_,_,rfl,h,O⟩
def Ia(n:Int):VE:=if 0<=n then .num n else .bin 9 (.un 3 (.num (wrap64 (-(wrap64 (n+1)))))) (.num 1)
theorem lR.new(h:x.rep ab (λb=>B<=b/\b<ab.heap.size) cs)(bM:x.ok 0 0):lR ab none none 0 0 [] [] x cs:=
 ⟨cp.bR _,cp.bR _,bM,VE.aL (λ_ h=>h.2) _ _ h⟩
section
attribute [local go_sem ↓] gr gu
def within(x n:Int):Int:=x % n
theorem zq{x:Int}(h:0<n):(x.tmod n+n).tmod n=within x n:=by
 unfold within;have ac:=Int.emod_nonneg x (show n≠0 by omega);have au:=Int.emod_lt_of_pos x h;have key:∀y:Int,0<=y->y.tmod n=y % n:=λy bb=>Int.tmod_eq_emod_of_nonneg bb;rcases Int.lt_or_le x 0 with hx|hx
 .have e1:x.tmod n = -((-x) % n):=by
   have:=key (-x) ad;rw[Int.neg_tmod] at this;omega
  have aY:=Int.emod_nonneg (-x) (show n≠0 by omega);have bR:=Int.emod_lt_of_pos (-x) h;rw[e1,key _ ad];rw[Int.add_emod_right];have cI:(-((-x) % n)) % n=x % n:=by
   have a2:-((-x) % n)=x+n*((-x) / n):=by
    have:=Int.emod_add_mul_ediv (-x) n;omega
   rw[a2,Int.add_mul_emod_self_left]
  exact cI
 .rw[key x hx,key _ ad,Int.add_emod_right,Int.emod_emod_of_dvd _ (Int.dvd_refl n)]
theorem tS{x:Int}(h:0<n):0<=within x n/\within x n<n:=⟨Int.emod_nonneg x ad,Int.emod_lt_of_pos x h⟩
theorem cp.IF{n:Nat}{l:List bD}(h:cp (EF gg) 3 w B A n l)(ap:k<n):
  ∃b o m,A=some ⟨b,o,none⟩/\b<B/\l[k]?=some m/\w.cell? ⟨b,o+k*3,none⟩=some (.string m.name)/\w.cell? ⟨b,o+k*3+1,none⟩=some (.bool m.re)/\w.cell? ⟨b,o+k*3+2,none⟩=some (.int .i64 m.size):=by
 obtain⟨b,o,m,aX,O,hm,_,hc⟩:=h.I2 ap;exact⟨b,o,m,aX,O,hm,hc 0 _ rfl,hc 1 _ rfl,hc 2 _ rfl⟩
theorem cp.hold{n:Nat}{l:List bV}(h:cp (EF bK) 2 w B A n l)(ap:k<n):
  ∃b o m,A=some ⟨b,o,none⟩/\b<B/\l[k]?=some m/\w.cell? ⟨b,o+k*2,none⟩=some (.int .i64 m.owner)/\w.cell? ⟨b,o+k*2+1,none⟩=some (.int .i64 m.depth):=by
 obtain⟨b,o,m,aX,O,hm,_,hc⟩:=h.I2 ap;exact⟨b,o,m,aX,O,hm,hc 0 _ rfl,hc 1 _ rfl⟩
theorem Es(l:List bD):∀x∈l,(gg x).length=3:=λ_ _=>rfl
theorem eI(l:List bV):∀x∈l,(bK x).length=2:=λ_ _=>rfl
theorem EJ(l:List bD):∀x∈l,∀u∈gg x,u.oneCell'=true:=λx _ u hu=>by
 simp only[gg,LC,List.not_mem_nil,or_false] at hu;rcases hu with rfl|rfl|rfl<;>rfl
theorem lq(l:List bV):∀x∈l,∀u∈bK x,u.oneCell'=true:=λx _ u hu=>by
 simp only[bK,LC,List.not_mem_nil,or_false] at hu;rcases hu with rfl|rfl<;>rfl
theorem mY(l:List Int):∀x∈l,∀u∈cP x,u.oneCell'=true:=λx _ u hu=>by
 simp only[cP,LC,List.not_mem_nil,or_false] at hu;subst hu;rfl
theorem kX:cj prog 37 123 (.agg #[.int .i64 0,.int .i64 0]) 2 16:=cj.mk' Tryz.underlying37 (by kernel_rfl) rfl ad
theorem l0:cj prog 24 136 (.agg #[.string ⟨#[]⟩,.bool false,.int .i64 0]) 3 32:=cj.mk' Tryz.underlying24 (by kernel_rfl) rfl ad
theorem my(x n:Int)(hn:0<n)(O:n<=4611686018427387904)(w:World) :
  Calls prog 31 #[.int .i64 x,.int .i64 n] w λe ab=>e=.returned (.int .i64 (within x n))/\w=ab:=by
 have bv:(n == 0)=false:=by simp;omega
 go_enter func31,ntmps31;go_wp2;go_ret;refine⟨ret_int ?_,rfl⟩;have ac:=Int.lt_tmod_of_pos x hn;have au:=Int.tmod_lt_of_pos x hn;rw[<-zq hn];congr 1
 unfold RowKit.wrap64;omega
theorem h6(A:L3)(n c:Nat)(X:List bD)(w:World)(h:cp (EF gg) 3 w w.heap.size A n X)(hX:ns X) :
  Calls prog 64 #[.slice A n c] w λe ab=>e=.returned (.int .i64 (elems X))/\Below w.heap.size w ab:=by
 have hl:=h.1;have hn:=hX.1;go_enter func64,ntmps64;go_wp2;go_loopw [3,8] (λs i wr=>∃k:Nat,k<=n/\i=.int .i64 k/\s=.int .i64 (elems (X.take k))/\Below w.heap.size w wr) (λ_ i _=>n - (intOf i).toNat)
 case atStart=>exact⟨0,LJ _,rfl,rfl,Below.refl _ _⟩
 case round=>
  obtain⟨k,ap,rfl,rfl,O⟩:=hrel;by_cases al:k<n
  .obtain⟨b,o,m,rfl,U,hm,c0,c1,c2⟩:=(h.dS O).IF al;have C:=hX.kZ k;have b1:=hX.at_ hm;have bI:=O.size;have bq:=ae (show elems (X.take (k+1))=elems (X.take k)+max m.size 1 by rw[a1 hm,gM];rfl);clear hm;go_wp2;go_roundw
   case rel=>exact⟨k+1,ad,by go_num,by rw[bq.o],((O.alloc bI _).alloc (by simp;omega) _)⟩
   case measure=>exact aH
  .go_wp2;go_ret;exact⟨ret_int (by first|rfl|rw[Ls ad]),O⟩
theorem uh(A:L3)(n c:Nat)(X:List bD)(m:Int)(w:World)(h:cp (EF gg) 3 w w.heap.size A n X)(hX:ns X)(aL:n<=c) :
  Calls prog 80 #[.slice A n c,.int .i64 m] w λe ab=>e=.returned (.int .i64 (eL X m))/\Below w.heap.size w ab:=by
 have hl:=h.1;by_cases hm:m<0
 .have bO:=ae (show eL X m = -1 from jU (.inl hm));clear h hX hl;go_enter func80,ntmps80;exact vJ
 by_cases ci:(n:Int)<=m
 .have bO:=ae (show eL X m = -1 from jU (.inr ad));clear h hX hl;go_enter func80,ntmps80;exact vJ
 obtain⟨k,rfl⟩:=Lp (show 0<=m by omega);have bO:=ae (show eL X k=elems (X.take k) from kY ad);have F:cp (EF gg) 3 w w.heap.size A k (X.take k):=by
  refine⟨by simp;omega,λap=>?_⟩;obtain⟨b,o,aX,O,hc⟩:=h.2 ad;refine⟨b,o,aX,O,λj x hx=>hc j x ?_⟩;rw[List.getElem?_take] at hx;split at hx
  .exact hx
  .cases hx
 have ap:k<n:=ad;have a:=hX.take k;clear h hX hl hm ci;go_enter func80,ntmps80;go_wp2_with(fail);refine(h6 A k k _ w F a).mono ?_;rintro e ab ⟨rfl,O⟩;go_wp2;go_ret;exact⟨ret_int (by rw[bO.o]),O⟩
theorem ot(A:L3)(n c:Nat)(X:List bD)(e:Int)(w:World)(h:cp (EF gg) 3 w w.heap.size A n X)(hX:ns X)(he:e<=9223372036854775807) :
  Calls prog 106 #[.slice A n c,.int .i64 e] w λr ab=>r=.returned (.int .i64 (bx X e))/\Below w.heap.size w ab:=by
 have hl:=h.1;have hn:=hX.1;by_cases a:e<0
 .have bO:=ae (show bx X e = -1 from ja a);clear h hX hl;go_enter func106,ntmps106;exact vJ
 go_enter func106,ntmps106;go_wp2;go_loopw [1,11] (λs i wr=>∃k:Nat,k<=n/\i=.int .i64 k/\s=.int .i64 (e - elems (X.take k))/\elems (X.take k)<=e/\Below w.heap.size w wr) (λ_ i _=>n - (intOf i).toNat)
 case atStart=>exact⟨0,LJ _,rfl,wG (by simp[elems]),by simp[elems];omega,Below.refl _ _⟩
 case round=>
  obtain⟨k,ap,rfl,rfl,hle,O⟩:=hrel;by_cases al:k<n
  .obtain⟨b,o,m,rfl,U,hm,c0,c1,c2⟩:=(h.dS O).IF al;have C:=hX.kZ k;have b1:=hX.at_ hm;have bI:=O.size;have bq:=ae (show elems (X.take (k+1))=elems (X.take k)+max m.size 1 by rw[a1 hm,gM];rfl);have cR:=ae hm;clear hm;by_cases aG:e - elems (X.take k)<max m.size 1
   .have a3:=ae (show bx X e=k from kK cR.o ad hle (by unfold bD.num;omega));go_wp2;go_ret;exact⟨ret_int (by rw[a3.o]),((O.alloc bI _).alloc (by simp;omega) _)⟩
   .go_wp2;go_roundw
    case rel=>exact⟨k+1,ad,by go_num,wG (by rw[bq.o];omega),by rw[bq.o];omega,(((O.alloc bI _).alloc (by simp;omega) _).alloc (by simp;omega) _)⟩
    case measure=>exact aH
  .have a3:=ae (show bx X e = -1 from jb (by rwa [Ls ad] at hle));exact rH
end
end Go.Proofs.YtkhnkojkplbioaaGreat

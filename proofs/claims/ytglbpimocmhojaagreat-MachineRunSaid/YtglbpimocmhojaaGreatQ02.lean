/- Part 2 of the proof. No condition of its own. -/
import Derived.Test.YtglbpimocmhojaaGreatQ01
namespace Go.Proofs.YtglbpimocmhojaaGreat
open Go.RowKit Go.Proofs.Tryz
set_option maxRecDepth 1000000
set_option maxHeartbeats 25600000
set_option linter.unusedVariables false
variable{e n:Int}{cs:List Value}{B k:Nat}{A:Lp}{p:Prop}{ab w:World}
inductive VE where
 | num (n:Int)
 | g1 (s:ByteArray)
 | loc (k:Int)
 | iB (k:Int)
 | un (op:Int) (x:VE)
 | bin (op:Int) (x y:VE)
def VE.rep(w:World)(P:Nat->Prop):VE->List Value->Prop
 | .num n=>λcs=>∃nm A c,cs=[.int .i64 1,.int .i64 n,.string nm,.slice A 0 c]
 | .g1 s=>λcs=>∃n A c,cs=[.int .i64 2,.int .i64 n,.string s,.slice A 0 c]
 | .loc k=>λcs=>∃nm A c,cs=[.int .i64 18,.int .i64 k,.string nm,.slice A 0 c]
 | .iB k=>λcs=>∃nm A c,cs=[.int .i64 19,.int .i64 k,.string nm,.slice A 0 c]
 | .un op x=>λcs=>∃n nm b o c bs Z bA E,cs=[.int .i64 op,.int .i64 n,.string nm,.slice (some ⟨b,o,none⟩) 1 c]/\P b/\x.rep w P [bs,Z,bA,E]/\
   w.cell? ⟨b,o,none⟩=some bs/\w.cell? ⟨b,o+1,none⟩=some Z/\w.cell? ⟨b,o+2,none⟩=some bA/\w.cell? ⟨b,o+3,none⟩=some E
 | .bin op x y=>λcs=>∃n nm b o c bs Z bA E cr cy cd bv,cs=[.int .i64 op,.int .i64 n,.string nm,.slice (some ⟨b,o,none⟩) 2 c]/\P b/\x.rep w P [bs,Z,bA,E]/\y.rep w P [cr,cy,cd,bv]/\
   w.cell? ⟨b,o,none⟩=some bs/\w.cell? ⟨b,o+1,none⟩=some Z/\w.cell? ⟨b,o+2,none⟩=some bA/\w.cell? ⟨b,o+3,none⟩=some E/\
   w.cell? ⟨b,o+4,none⟩=some cr/\w.cell? ⟨b,o+5,none⟩=some cy/\w.cell? ⟨b,o+6,none⟩=some cd/\w.cell? ⟨b,o+7,none⟩=some bv
theorem VE.aS{w ab:World}{P:Nat->Prop}(ap:∀b,P b->ab.heap[b]?=w.heap[b]?):∀(e:VE) (cs:List Value),e.rep w P cs->e.rep ab P cs
 | .num _,_,h=>h
 | .g1 _,_,h=>h
 | .loc _,_,h=>h
 | .iB _,_,h=>h
 | .un op x,cs,h=>by
  obtain⟨n,nm,b,o,c,bs,Z,bA,E,T,O,hx,c0,c1,c2,c3⟩:=h;have hc:∀j,ab.cell? ⟨b,j,none⟩=w.cell? ⟨b,j,none⟩:=λj=>World.cell?_of_block (w:=w) (ap b O)
  exact⟨n,nm,b,o,c,bs,Z,bA,E,T,O,VE.aS ap x _ hx,(hc _).trans c0,(hc _).trans c1,(hc _).trans c2,(hc _).trans c3⟩
 | .bin op x y,cs,h=>by
  obtain⟨n,nm,b,o,c,bs,Z,bA,E,cr,cy,cd,bv,T,O,hx,bb,c0,c1,c2,c3,d0,d1,d2,d3⟩:=h;have hc:∀j,ab.cell? ⟨b,j,none⟩=w.cell? ⟨b,j,none⟩:=λj=>World.cell?_of_block (w:=w) (ap b O);exact⟨n,nm,b,o,c,bs,Z,bA,E,cr,cy,cd,bv,T,O,VE.aS ap x _ hx,VE.aS ap y _ bb,(hc _).trans c0,(hc _).trans c1,(hc _).trans c2,(hc _).trans c3,(hc _).trans d0,(hc _).trans d1,(hc _).trans d2,(hc _).trans d3⟩
theorem VE.aL{w:World}{P c6:Nat->Prop}(hp:∀b,P b->c6 b):∀(e:VE) (cs:List Value),e.rep w P cs->e.rep w c6 cs
 | .num _,_,h=>h
 | .g1 _,_,h=>h
 | .loc _,_,h=>h
 | .iB _,_,h=>h
 | .un op x,cs,h=>by
  obtain⟨n,nm,b,o,c,bs,Z,bA,E,T,O,hx,hc⟩:=h
  exact⟨n,nm,b,o,c,bs,Z,bA,E,T,hp b O,VE.aL hp x _ hx,hc⟩
 | .bin op x y,cs,h=>by
  obtain⟨n,nm,b,o,c,bs,Z,bA,E,cr,cy,cd,bv,T,O,hx,bb,hc⟩:=h;exact⟨n,nm,b,o,c,bs,Z,bA,E,cr,cy,cd,bv,T,hp b O,VE.aL hp x _ hx,VE.aL hp y _ bb,hc⟩
abbrev VE.at_(w:World)(e:VE)(cs:List Value):Prop:=e.rep w (·<w.heap.size) cs
theorem VE.H9{e:VE}(h:e.at_ w cs)(O:Below w.heap.size w ab):e.at_ ab cs:=
 VE.aL (λ_ ak=>KE ak O.size) _ _ (VE.aS (λb ak=>O.block b ak) _ _ h)
def VE.ok(ng nl:Nat):VE->Prop
 | .num _=>True
 | .g1 _=>False
 | .loc k=>0<=k/\k<nl
 | .iB k=>0<=k/\k<ng
 | .un op x=>(op=3\/op=4)/\x.ok ng nl
 | .bin op x y=>(5<=op/\op<=17)/\x.ok ng nl/\y.ok ng nl
def fi(b:Bool):Int:=if b then 1 else 0
def arith(op a b:Int):Int×Int:=
 if op=5 then (wrap64 (a*b),0) else if op=8 then (wrap64 (a+b),0) else if op=9 then (wrap64 (a - b),0)
 else if op=6 then (if b=0 then (0,1) else (wrap64 (a.tdiv b),0))
 else if op=7 then (if b=0 then (0,1) else (a.tmod b,0))
 else if op=10 then (fi (decide (a<b)),0) else if op=11 then (fi (decide (a<=b)),0)
 else if op=12 then (fi (decide (b<a)),0) else if op=13 then (fi (decide (b<=a)),0)
 else if op=14 then (fi (a == b),0) else if op=15 then (fi (a != b),0) else (0,0)
def ev(g l:List Int):VE->Int×Int
 | .num n=>(n,0)
 | .g1 _=>(0,0)
 | .loc k=>(l.getD k.toNat 0,0)
 | .iB k=>(g.getD k.toNat 0,0)
 | .un op x=>if (ev g l x).2≠0 then (0,(ev g l x).2) else if op=3 then (wrap64 (-(ev g l x).1),0) else (fi ((ev g l x).1 == 0),0)
 | .bin op x y=>
  if (ev g l x).2≠0 then (0,(ev g l x).2)
  else if op=16/\(ev g l x).1=0 then (0,0)
  else if op=17/\(ev g l x).1≠0 then (1,0)
  else if (ev g l y).2≠0 then (0,(ev g l y).2)
  else if op=16\/op=17 then (fi ((ev g l y).1 != 0),0)
  else arith op (ev g l x).1 (ev g l y).1
structure bG where
 name:ByteArray
 re:Bool
 size:Int
structure cy where
 owner:Int
 depth:Int
 deriving DecidableEq
def gy(m:bG):List Value:=[.string m.name,.bool m.re,.int .i64 m.size]
def bH(h:cy):List Value:=[.int .i64 h.owner,.int .i64 h.depth]
def bG.num(m:bG):Int:=max m.size 1
def bG.p1(m:bG):Nat:=(max m.size 1).toNat
theorem bG.oK(m:bG):1<=m.num:=by unfold bG.num;omega
theorem bG.sR(m:bG):(m.p1:Int)=m.num:=by unfold bG.num bG.p1;omega
def m1(X:List bG):Prop:=X.length<=64/\∀m∈X,0<=m.size/\m.size<=64
def elems(X:List bG):Int:=(X.map bG.num).sum
theorem pC(m:bG)(X:List bG):elems (m::X)=m.num+elems X:=by simp[elems]
theorem x8(X Y:List bG):elems (X++Y)=elems X+elems Y:=by simp[elems]
theorem ix(X:List bG)(m:bG):elems (X++[m])=elems X+m.num:=by simp[elems]
theorem nN:∀(X:List bG),(∀m∈X,0<=m.size/\m.size<=64)->(X.length:Int)<=elems X/\elems X<=64*X.length
 | [],_=>by simp[elems]
 | m::X,h=>by
  have ac:=h m (by simp);have au:=nN X (λm hm=>h m (by simp[hm]));rw[pC];simp only[KQ];have:=m.oK;unfold bG.num at *;omega
theorem m1.take{X:List bG}(h:m1 X)(k:Nat):m1 (X.take k):=
 ⟨by have:=h.1;simp;omega,λm hm=>h.2 m (List.mem_of_mem_take hm)⟩
variable{X:List bG}
theorem m1.bound(h:m1 X):0<=elems X/\elems X<=4096:=by
 have:=nN X h.2;have:=h.1;omega
theorem m1.ml(h:m1 X)(k:Nat):0<=elems (X.take k)/\elems (X.take k)<=4096:=(h.take k).bound
variable{m:bG}
theorem m1.at_(h:m1 X)(hm:X[k]?=some m):0<=m.size/\m.size<=64:=h.2 m (KG hm)
theorem qS(X:List bG)(k:Nat):elems (X.take k)<=elems X:=by
 have h:=x8 (X.take k) (X.drop k);rw[List.take_append_drop] at h;have:∀Y:List bG,0<=elems Y:=λY=>by
  induction Y with
  | nil=>simp[elems]
  | cons m Y ao=>rw[pC];have:=m.oK;omega
 have:=this (X.drop k);omega
def iI(X:List bG)(k:Nat):List Int:=(X.take k).zipIdx.flatMap λp=>List.replicate p.1.p1 (p.2:Int)
def own(X:List bG):List Int:=iI X X.length
theorem qb(X:List bG):iI X 0=[]:=by simp[iI]
theorem j1(h:X[k]?=some m):iI X (k+1)=iI X k++List.replicate m.p1 (k:Int):=by
 have ap:k<X.length:=(List.getElem?_eq_some_iff.1 h).1;unfold iI;rw[aZ h,List.zipIdx_append,List.flatMap_append];congr 1
 simp[Nat.min_eq_left (Nat.le_of_lt ap)]
theorem gk(X:List bG):∀k,k<=X.length->((iI X k).length:Int)=elems (X.take k)
 | 0,_=>by simp[qb,elems]
 | k+1,h=>by
  have hm:X[k]?=some (X[k]'ad):=List.getElem?_eq_getElem _;rw[j1 hm,aZ hm,ix,KF,List.length_replicate,Int.natCast_add,gk X k ad,bG.sR]
theorem eu(X:List bG):((own X).length:Int)=elems X:=by
 rw[own,gk X _ (KD _),List.take_length]
theorem cA(h:m1 X):(own X).length<=4096:=by
 have:=eu X;have:=h.bound;omega
theorem mI(X:List bG)(k:Nat):∀d,k+d<=X.length->∃s,iI X (k+d)=iI X k++s
 | 0,_=>⟨[],by simp⟩
 | d+1,h=>by
  obtain⟨s,hs⟩:=mI X k d ad;have hm:X[k+d]?=some (X[k+d]'ad):=List.getElem?_eq_getElem _;exact⟨s++List.replicate (X[k+d]'ad).p1 ((k+d:Nat):Int),by rw[show k+(d+1)=(k+d)+1 from rfl,j1 hm,hs,KR]⟩
theorem we(h:X[k]?=some m){e:Nat}(ac:elems (X.take k)<=e)(au:(e:Int)<elems (X.take k)+m.num):(own X)[e]?=some (k:Int):=by
 have ap:k<X.length:=(List.getElem?_eq_some_iff.1 h).1;obtain⟨s,hs⟩:=mI X (k+1) (X.length - (k+1)) ad;rw[own,show X.length=k+1+(X.length - (k+1)) from by omega,hs,j1 h];have hl:=gk X k ad;have hn:=m.sR;rw[KR,List.getElem?_append_right ad,List.getElem?_append_left (by rw[List.length_replicate];omega),List.getElem?_replicate,if_pos ad]
def bt(X:List bG)(e:Int):Int:=if e<0 then -1 else ((own X)[e.toNat]?).getD (-1)
theorem iV(h:e<0):bt X e = -1:=if_pos h
theorem kB(h:X[k]?=some m)(h0:0<=e)(ac:elems (X.take k)<=e)(au:e<elems (X.take k)+m.num):bt X e=k:=by
 unfold bt;rw[if_neg ad,we h (e:=e.toNat) ad ad];rfl
theorem iW(h:elems X<=e):bt X e = -1:=by
 unfold bt;split
 .rfl
 .rw[List.getElem?_eq_none (aC (eu X))];rfl
theorem mJ(X:List bG):∀(k:Nat),k<=X.length->∀e:Int,0<=e->e<elems (X.take k)->∃i m,i<k/\X[i]?=some m/\elems (X.take i)<=e/\e<elems (X.take i)+m.num
 | 0,_,e,h0,h=>by simp[elems] at h;omega
 | k+1,ap,e,h0,h=>by
  have hm:X[k]?=some (X[k]'ad):=List.getElem?_eq_getElem _;by_cases ak:e<elems (X.take k)
  .obtain⟨i,m,an,hx,ac,au⟩:=mJ X k ad e h0 ak;exact⟨i,m,ad,hx,ac,au⟩
  .refine⟨k,_,ad,hm,ad,?_⟩;rw[aZ hm,ix] at h;exact h
theorem mE(h:0<=bt X e):∃i m,bt X e=(i:Nat)/\X[i]?=some m/\0<=e/\elems (X.take i)<=e/\e<elems (X.take i)+m.num:=by
 have h0:0<=e:=by
  rcases Int.lt_or_le e 0 with F|F
  .rw[iV F] at h;omega
  .exact F
 have ak:e<elems X:=by
  rcases Int.lt_or_le e (elems X) with F|F
  .exact F
  .rw[iW F] at h;omega
 obtain⟨i,m,_,hm,ac,au⟩:=mJ X X.length (KD _) e h0 (by rwa [List.take_length]);exact⟨i,m,kB hm h0 ac au,hm,h0,ac,au⟩
theorem l0(h0:0<=e)(h:e<elems X):0<=bt X e:=by
 obtain⟨i,m,_,hm,ac,au⟩:=mJ X X.length (KD _) e h0 (by rwa [List.take_length]);rw[kB hm h0 ac au];omega
theorem fR:0<=bt X e↔0<=e/\e<elems X:=by
 constructor
 .intro h;refine⟨?_,?_⟩
  .rcases Int.lt_or_le e 0 with F|F
   .rw[iV F] at h;omega
   .exact F
  .rcases Int.lt_or_le e (elems X) with F|F
   .exact F
   .rw[iW F] at h;omega
 .exact λh=>l0 h.1 h.2
def eR(X:List bG)(m:Int):Int:=if m<0\/(X.length:Int)<=m then -1 else elems (X.take m.toNat)
theorem lO{m:Int}(h:m<0\/(X.length:Int)<=m):eR X m = -1:=if_pos h
theorem m8(h:k<X.length):eR X k=elems (X.take k):=by
 unfold eR;rw[if_neg ad];rfl
theorem rG(ap:k<X.length):(own X)[(elems (X.take k)).toNat]?=some (k:Int):=by
 have hm:X[k]?=some (X[k]'ap):=List.getElem?_eq_getElem _;have h0:0<=elems (X.take k):=by have:=gk X k ad;omega
 exact we hm ad (by have:=(X[k]'ap).oK;omega)
theorem Fj{e:Nat}{v:Int}(h:(own X)[e]?=some v):∃k m,v=(k:Nat)/\X[k]?=some m/\elems (X.take k)<=e/\(e:Int)<elems (X.take k)+m.num:=by
 have hl:=eu X;have he:=(List.getElem?_eq_some_iff.1 h).1;obtain⟨i,m,_,hm,ac,au⟩:=mJ X X.length (KD _) e ad (by rw[List.take_length];omega);have:=we hm ac au;rw[h] at this;injection this with this;exact⟨i,m,this,hm,ac,au⟩
section
attribute [local go_sem ↓] gm gp
theorem j6(b:Bool)(w:World):Calls prog 152 #[.bool b] w λe ab=>e=.returned (.int .i64 (fi b))/\w=ab:=by
 cases b<;>(go_enter func152,ntmps152;go_wp2;go_ret;exact⟨rfl,rfl⟩)
theorem h3(b:Bool)(w:World):Calls prog 80 #[.bool b] w λe ab=>e=.returned (.int .i64 (fi b))/\w=ab:=by
 cases b<;>(go_enter func80,ntmps80;go_wp2;go_ret;exact⟨rfl,rfl⟩)
theorem nM(A:Lp)(n c:Nat)(l:List Int)(k:Int)(w:World)(h:cx (EF cT) 1 w w.heap.size A n l)(h0:0<=k)(ac:k<n) :
  Calls prog 151 #[.slice A n c,.int .i64 k] w λe ab=>e=.returned (.int .i64 (l.getD k.toNat 0))/\w=ab:=by
 obtain⟨j,rfl⟩:=KI h0;obtain⟨b,o,x,rfl,O,hx,hc⟩:=h.int (show j<n by omega);have bi:j<n:=ad;have aQ:=ae (show l.getD (j:Int).toNat 0=x by rw[KY,List.getD_eq_getElem?_getD,hx];rfl);clear hx h;go_enter func151,ntmps151;go_wp2;go_ret;exact⟨ret_int (by rw[aQ.o]),rfl⟩
theorem mM(a b:Int)(O:b≠0)(w:World) :
  Calls prog 81 #[.int .i64 a,.int .i64 b] w λe ab=>e=.returned (.int .i64 (wrap64 (a.tdiv b)))/\w=ab:=by
 by_cases ac:b = -1
 .subst ac;go_enter func81,ntmps81;go_wp2;go_ret;exact⟨ret_int (by rw[Int.tdiv_neg,Int.tdiv_one]),rfl⟩
 .have ca:(b == -1)=false:=by simpa using ac
  have cP:(b == 0)=false:=by simpa using O
  go_enter func81,ntmps81;go_wp2;go_ret;exact⟨rfl,rfl⟩
def fY(w:World)(r:Int×Int)(e:Ending)(ab:World):Prop:=e=.returned (.tuple #[.int .i64 r.1,.int .i64 r.2])/\Below w.heap.size w ab
theorem fY.mk'{r:Int×Int}{a b:Int}(a5:r=(a,b))(O:Below w.heap.size w ab):fY w r (.returned (.tuple #[.int .i64 a,.int .i64 b])) ab:=by
 subst a5;exact⟨rfl,O⟩
theorem pr(op a b:Int)(h:5<=op/\op<=15)(w:World) :
  Calls prog 153 #[.int .i64 op,.int .i64 a,.int .i64 b] w (fY w (arith op a b)):=by
 by_cases hdiv:(op=6\/op=7)/\b=0
 .obtain⟨cx,rfl⟩:=hdiv;rcases cx with rfl|rfl
  all_goals
   go_enter func153,ntmps153;go_wp2
   go_ret2
   exact fY.mk' rfl (Below.refl _ _)
 .obtain rfl|rfl|rfl|rfl|rfl|rfl|rfl|rfl|rfl|rfl|rfl:op=5\/op=6\/op=7\/op=8\/op=9\/op=10\/op=11\/op=12\/op=13\/op=14\/op=15:=ad
  case inr.inl=>
   have O:b≠0:=λag=>hdiv ⟨.inl rfl,ag⟩;have cP:(b == 0)=false:=by simpa using O
   have HA:=ae (show arith 6 a b=(wrap64 (a.tdiv b),0) by unfold arith;simp[O]);clear hdiv h;go_enter func153,ntmps153;go_wp2
   go_ret2
   exact fY.mk' HA.o (Below.refl _ _)
  case inr.inr.inl=>
   have O:b≠0:=λag=>hdiv ⟨.inr rfl,ag⟩;have cP:(b == 0)=false:=by simpa using O
   have HA:=ae (show arith 7 a b=(a.tmod b,0) by unfold arith;simp[O]);clear hdiv h;go_enter func153,ntmps153;go_wp2
   go_ret2
   exact fY.mk' HA.o (Below.refl _ _)
  all_goals
   clear hdiv h;go_enter func153,ntmps153;go_wp2_with((go_at_call 152;refine(j6 _ _).mono ?_;rintro e ab ⟨rfl,rfl⟩))
   go_ret2
   exact fY.mk' rfl (Below.refl _ _)
end
section
attribute [local go_sem ↓] gm gp
structure lC(w:World)(G L:Lp)(ng nl:Nat)(g l:List Int)(e:VE)(cs:List Value):Prop where
 gs:cx (EF cT) 1 w w.heap.size G ng g
 ls:cx (EF cT) 1 w w.heap.size L nl l
 ok:e.ok ng nl
 rep:e.at_ w cs
theorem lC.on{G L:Lp}{ng nl:Nat}{g l:List Int}{e:VE}(h:lC w G L ng nl g l e cs)(O:Below w.heap.size w ab):lC ab G L ng nl g l e cs:=
 ⟨h.gs.c8 O O.size,h.ls.c8 O O.size,h.ok,VE.H9 h.rep O⟩
def jn(e:VE):Prop:=∀(w:World) (G L:Lp) (ng nl cg cl:Nat) (g l:List Int) (c0 c1 c2 c3:Value),lC w G L ng nl g l e [c0,c1,c2,c3]->
 Calls prog 109 #[.agg #[.slice G ng cg,.slice L nl cl],.agg #[c0,c1,c2,c3]] w (fY w (ev g l e))
def jN(e:VE):Prop:=∀(w:World) (G L:Lp) (ng nl cg cl:Nat) (g l:List Int) (c0 c1 c2 c3:Value),lC w G L ng nl g l e [c0,c1,c2,c3]->
 Calls prog 139 #[.agg #[.slice G ng cg,.slice L nl cl],.agg #[c0,c1,c2,c3]] w (fY w (ev g l e))
def oV(e:VE):Prop:=∀(w:World) (G L:Lp) (ng nl cg cl:Nat) (g l:List Int) (c0 c1 c2 c3:Value),lC w G L ng nl g l e [c0,c1,c2,c3]->
 Calls prog 140 #[.agg #[.slice G ng cg,.slice L nl cl],.agg #[c0,c1,c2,c3]] w (fY w (ev g l e))
theorem lL(a b:Obj):Below w.heap.size w ((w.alloc a).alloc b):=((Below.refl _ _).alloc (KD _) _).alloc (by simp) _
theorem wA(n:Int):jN (.num n):=by
 intro w G L ng nl cg cl g l c0 c1 c2 c3 h;obtain⟨nm,A,c,T⟩:=h.rep;injection T with h0 T;injection T with ac T;injection T with au T;injection T with aU T;subst h0 ac au aU;clear h T;go_enter func139,ntmps139;go_wp2
 go_ret2
 exact fY.mk' rfl (lL _ _)
namespace Be
theorem AT(h:p:=by
 have u:=ae bN;clear aI e0 e1 e2 e3 bN;have ak:∀V:World,Below W.heap.size W V->V.cell? ⟨w.heap.size,0,none⟩=some (.slice G ng cg)/\V.cell? ⟨w.heap.size,1,none⟩=some (.slice L nl cl)/\V.cell? ⟨w.heap.size+1,0,none⟩=some (.int .i64 op)/\V.cell? ⟨w.heap.size+1,3,none⟩=some (.slice (some ⟨b,o,none⟩) 1 c)/\
   V.cell? ⟨b,o,none⟩=some bs/\V.cell? ⟨b,o+1,none⟩=some Z/\V.cell? ⟨b,o+2,none⟩=some bA/\V.cell? ⟨b,o+3,none⟩=some E:=λV hV=>by
  have bZ:=u.o;have U:b<W.heap.size:=by have:=O;omega
  exact⟨(hV.cell (p:=⟨w.heap.size,0,none⟩) (by simp only[];omega)).trans a0,(hV.cell (p:=⟨w.heap.size,1,none⟩) (by simp only[];omega)).trans q,(hV.cell (p:=⟨w.heap.size+1,0,none⟩) (by simp only[];omega)).trans a8,(hV.cell (p:=⟨w.heap.size+1,3,none⟩) (by simp only[];omega)).trans i,
   (hV.cell (p:=⟨b,o,none⟩) U).trans d0,(hV.cell (p:=⟨b,o+1,none⟩) U).trans d1,(hV.cell (p:=⟨b,o+2,none⟩) U).trans d2,(hV.cell (p:=⟨b,o+3,none⟩) U).trans d3⟩
 have c5:=ae ak;clear ak a0 q a8 i d0 d1 d2 d3;go_region_held3 (λV=>V.cell? ⟨w.heap.size,0,none⟩=some (.slice G ng cg)/\V.cell? ⟨w.heap.size,1,none⟩=some (.slice L nl cl)/\V.cell? ⟨w.heap.size+1,0,none⟩=some (.int .i64 op)/\V.cell? ⟨w.heap.size+1,3,none⟩=some (.slice (some ⟨b,o,none⟩) 1 c)/\
   V.cell? ⟨b,o,none⟩=some bs/\V.cell? ⟨b,o+1,none⟩=some Z/\V.cell? ⟨b,o+2,none⟩=some bA/\V.cell? ⟨b,o+3,none⟩=some E)
  (first|exact c5.o _ (Below.refl _ _)|exact c5.o _ (Below.refl _ _).drew|exact c5.o _ bg)
  (first|(go_at_call 109;refine(cq.o _ G L ng nl cg cl g l bs Z bA E ?_).mono ?_;(exact ba.on (Below.refl _ _).drew);rintro r ab ⟨rfl,d⟩;have bg:Below W.heap.size W ab:=(Below.refl W.heap.size W).drew.trans d;clear d))
 have J:=(f.trans (bg.mono f.size))
 have bq:=ae (show ev g l (.un op x)=if (ev g l x).2≠0 then (0,(ev g l x).2) else if op=3 then (wrap64 (-(ev g l x).1),0) else (fi ((ev g l x).1 == 0),0) from rfl);generalize ev g l x=r1 at *;obtain⟨v1,f1⟩:=r1;clear c5 cq ba;by_cases aJ:f1=0
 case neg=>
  have q1:(f1 != 0)=true:=by simpa using aJ
  have a4:=ae (show ev g l (.un op x)=(0,f1) by rw[bq.o];simp[aJ]);clear aJ;go_wp2
  go_ret2
  exact fY.mk' a4.o J
 have q1:(f1 != 0)=false:=by simpa using aJ
 rcases bM.o with aU|bE
 .have a4:=ae (show ev g l (.un op x)=(wrap64 (-v1),0) by rw[bq.o];simp[aJ,aU]);subst aU;clear aJ;go_wp2
  go_ret2
  exact fY.mk' a4.o J
 .have a4:=ae (show ev g l (.un op x)=(fi (v1 == 0),0) by rw[bq.o];simp[aJ,bE]);subst bE;clear aJ;go_wp2_with((go_at_call 152;refine(j6 _ _).mono ?_;rintro e ab ⟨rfl,rfl⟩))
  go_ret2
  exact fY.mk' a4.o J
 ):p:=h
theorem As(h:p:=by
 obtain⟨cq,bM⟩:=aH ax cx;clear h hx ax;have ca:(op == 1)=false:=by simp;omega
 have g2:(op == 18)=false:=by simp;omega
 have cT:(op == 19)=false:=by simp;omega
 clear cx;go_enter func139,ntmps139;go_wp2;have f:=lL (w:=w) (.cells #[.slice G ng cg,.slice L nl cl] 192) (.cells #[.int .i64 op,.int .i64 n,.string nm,.slice (some ⟨b,o,none⟩) 1 c] 53);have a0:((w.alloc (.cells #[.slice G ng cg,.slice L nl cl] 192)).alloc (.cells #[.int .i64 op,.int .i64 n,.string nm,.slice (some ⟨b,o,none⟩) 1 c] 53)).cell? ⟨w.heap.size,0,none⟩=some (.slice G ng cg):=by simp[go_sem]
 have q:((w.alloc (.cells #[.slice G ng cg,.slice L nl cl] 192)).alloc (.cells #[.int .i64 op,.int .i64 n,.string nm,.slice (some ⟨b,o,none⟩) 1 c] 53)).cell? ⟨w.heap.size,1,none⟩=some (.slice L nl cl):=by simp[go_sem]
 have a8:((w.alloc (.cells #[.slice G ng cg,.slice L nl cl] 192)).alloc (.cells #[.int .i64 op,.int .i64 n,.string nm,.slice (some ⟨b,o,none⟩) 1 c] 53)).cell? ⟨w.heap.size+1,0,none⟩=some (.int .i64 op):=by simp[go_sem]
 have i:((w.alloc (.cells #[.slice G ng cg,.slice L nl cl] 192)).alloc (.cells #[.int .i64 op,.int .i64 n,.string nm,.slice (some ⟨b,o,none⟩) 1 c] 53)).cell? ⟨w.heap.size+1,3,none⟩=some (.slice (some ⟨b,o,none⟩) 1 c):=by simp[go_sem]
 have bN:((w.alloc (.cells #[.slice G ng cg,.slice L nl cl] 192)).alloc (.cells #[.int .i64 op,.int .i64 n,.string nm,.slice (some ⟨b,o,none⟩) 1 c] 53)).heap.size=w.heap.size+2:=by simp
 generalize (w.alloc (.cells #[.slice G ng cg,.slice L nl cl] 192)).alloc (.cells #[.int .i64 op,.int .i64 n,.string nm,.slice (some ⟨b,o,none⟩) 1 c] 53)=W at *;have ba:=aI.on f;exact AS
 ):p:=h
end Be
open Be in
theorem yE(op:Int)(x:VE)(ax:jn x):jN (.un op x):=by
 intro w G L ng nl cg cl g l c0 c1 c2 c3 h;exact Ar
theorem qv(e:VE)(k:Int)(he:e=.loc k\/e=.iB k):jN e:=by
 intro w G L ng nl cg cl g l c0 c1 c2 c3 h;have a:=lL (w:=w) (.cells #[.slice G ng cg,.slice L nl cl] 192) (.cells #[c0,c1,c2,c3] 53);have co:=h.gs.c8 a a.size;have y:=h.ls.c8 a a.size;clear a;have bY:=h.ok;rcases he with rfl|rfl
 all_goals
  obtain⟨nm,A,c,T⟩:=h.rep;injection T with h0 T;injection T with ac T;injection T with au T;injection T with aU T;subst h0 ac au aU;clear h T;obtain⟨bz,cb⟩:=bY;go_enter func139,ntmps139;go_wp2_with(fail)
  first
  | refine(nM L nl cl l k _ y bz cb).mono ?_
  | refine(nM G ng cg g k _ co bz cb).mono ?_
  rintro e ab ⟨rfl,rfl⟩;go_wp2
  go_ret2
  exact fY.mk' rfl (lL _ _)
namespace Bf
theorem Ay(h:p:=by
 obtain⟨HA,bM⟩:=aH bx bn;clear bq;have split:(op == 16)=true/\(v1 == 0)=false/\(op == 17)=false\/(op == 16)=false/\(op == 17)=true/\(v1 != 0)=false\/(op == 16)=false/\(op == 17)=false:=by
  exact Gg
 clear bx bn;have bo:=ae split;clear split;rcases bo.o with⟨bp,bF,dA⟩|⟨bp,bF,dA⟩|⟨bp,bF⟩
 all_goals
  go_wp2;go_region_held3 (λV=>V.cell? ⟨w.heap.size,0,none⟩=some (.slice G ng cg)/\V.cell? ⟨w.heap.size,1,none⟩=some (.slice L nl cl)/\V.cell? ⟨w.heap.size+1,0,none⟩=some (.int .i64 op)/\V.cell? ⟨w.heap.size+1,3,none⟩=some (.slice (some ⟨b,o,none⟩) 2 c)/\V.cell? ⟨b,o,none⟩=some bs/\V.cell? ⟨b,o+1,none⟩=some Z/\V.cell? ⟨b,o+2,none⟩=some bA/\V.cell? ⟨b,o+3,none⟩=some E/\V.cell? ⟨b,o+4,none⟩=some cr/\V.cell? ⟨b,o+5,none⟩=some cy/\V.cell? ⟨b,o+6,none⟩=some cd/\V.cell? ⟨b,o+7,none⟩=some bv)
   (first|exact c5.o _ (Below.refl _ _)|exact c5.o _ (Below.refl _ _).drew|exact c5.o _ co|exact c5.o _ bg|exact c5.o _ bg.drew)
   (first|(go_at_call 109;refine(t.o _ G L ng nl cg cl g l cr cy cd bv ?_).mono ?_;(exact(aK.on bg).on (Below.refl _ _).drew);rintro r bX ⟨rfl,d⟩;have co:Below W.heap.size W bX:=bg.drew.trans (d.mono bg.size);clear d))
  have J:=(f.trans (co.mono f.size))
  generalize ev g l y=dL at *;obtain⟨v2,f2⟩:=dL;by_cases az:f2=0
  case neg=>
   have dd:(f2 != 0)=true:=by simpa using az
   have cj:=ae (show ev g l (.bin op x y)=(0,f2) by rw[a9.o];simp[az]);clear az;go_wp2
   go_ret2
   exact fY.mk' cj.o J
  have dd:(f2 != 0)=false:=by simpa using az
  have cj:=ae (show ev g l (.bin op x y)=if op=16\/op=17 then (fi (v2 != 0),0) else arith op v1 v2 by rw[a9.o];simp[az]);clear az a9
  first
  | (have F:=ae (show ev g l (.bin op x y)=(fi (v2 != 0),0) by rw[cj.o,if_pos (by first|exact .inl (by simpa using bp)|exact .inr (by simpa using bF))]);go_wp2_with((go_at_call 152;refine(j6 _ _).mono ?_;rintro e ab ⟨rfl,rfl⟩));go_ret2;exact fY.mk' F.o J)
  | (have be:op≠16/\op≠17:=⟨by simpa using bp,by simpa using bF⟩;have F:=ae (show ev g l (.bin op x y)=arith op v1 v2 by rw[cj.o,if_neg ad]);go_wp2_with(fail);refine(pr op v1 v2 ad _).mono ?_;rintro e cL ⟨rfl,bu⟩;go_wp2;go_ret2;exact fY.mk' (by rw[F.o]) (J.trans (bu.mono J.size)))
 ):p:=h
theorem z8(h:p:=by
 clear cq ba;by_cases aJ:f1=0
 case neg=>
  have q1:(f1 != 0)=true:=by simpa using aJ
  have a4:=ae (show ev g l (.bin op x y)=(0,f1) by rw[bq.o];simp[aJ]);clear aJ;go_wp2
  go_ret2
  exact fY.mk' a4.o J
 have q1:(f1 != 0)=false:=by simpa using aJ
 have bw:=ae aJ;clear aJ;by_cases bx:op=16/\v1=0
 .obtain⟨rfl,rfl⟩:=bx;have a4:=ae (show ev g l (.bin 16 x y)=(0,0) by rw[bq.o];simp[bw.o]);go_wp2
  go_ret2
  exact fY.mk' a4.o J
 by_cases bn:op=17/\v1≠0
 .obtain⟨rfl,bI⟩:=bn;have cI:(v1 != 0)=true:=by simpa using bI
  have a4:=ae (show ev g l (.bin 17 x y)=(1,0) by rw[bq.o];simp[bw.o,bI]);clear bI;go_wp2
  go_ret2
  exact fY.mk' a4.o J
 exact Ax
 ):p:=h
theorem AT(h:p:=by
 have d4:=(f.cell (p:=⟨b,o+4,none⟩) O).trans b0;have d5:=(f.cell (p:=⟨b,o+5,none⟩) O).trans ct;have d6:=(f.cell (p:=⟨b,o+6,none⟩) O).trans a7;have d7:=(f.cell (p:=⟨b,o+7,none⟩) O).trans e7;have u:=ae bN;clear aI j e0 e1 e2 e3 b0 ct a7 e7 bN;have ak:∀V:World,Below W.heap.size W V->V.cell? ⟨w.heap.size,0,none⟩=some (.slice G ng cg)/\V.cell? ⟨w.heap.size,1,none⟩=some (.slice L nl cl)/\V.cell? ⟨w.heap.size+1,0,none⟩=some (.int .i64 op)/\V.cell? ⟨w.heap.size+1,3,none⟩=some (.slice (some ⟨b,o,none⟩) 2 c)/\V.cell? ⟨b,o,none⟩=some bs/\V.cell? ⟨b,o+1,none⟩=some Z/\V.cell? ⟨b,o+2,none⟩=some bA/\V.cell? ⟨b,o+3,none⟩=some E/\V.cell? ⟨b,o+4,none⟩=some cr/\V.cell? ⟨b,o+5,none⟩=some cy/\V.cell? ⟨b,o+6,none⟩=some cd/\V.cell? ⟨b,o+7,none⟩=some bv:=λV hV=>by
  have bZ:=u.o;have U:b<W.heap.size:=by have:=O;omega
  exact⟨(hV.cell (p:=⟨w.heap.size,0,none⟩) (by simp only[];omega)).trans a0,(hV.cell (p:=⟨w.heap.size,1,none⟩) (by simp only[];omega)).trans q,(hV.cell (p:=⟨w.heap.size+1,0,none⟩) (by simp only[];omega)).trans a8,(hV.cell (p:=⟨w.heap.size+1,3,none⟩) (by simp only[];omega)).trans i,(hV.cell (p:=⟨b,o,none⟩) U).trans d0,(hV.cell (p:=⟨b,o+1,none⟩) U).trans d1,(hV.cell (p:=⟨b,o+2,none⟩) U).trans d2,(hV.cell (p:=⟨b,o+3,none⟩) U).trans d3,(hV.cell (p:=⟨b,o+4,none⟩) U).trans d4,(hV.cell (p:=⟨b,o+5,none⟩) U).trans d5,(hV.cell (p:=⟨b,o+6,none⟩) U).trans d6,(hV.cell (p:=⟨b,o+7,none⟩) U).trans d7⟩
 have c5:=ae ak;clear ak a0 q a8 i d0 d1 d2 d3 d4 d5 d6 d7;go_region_held3 (λV=>V.cell? ⟨w.heap.size,0,none⟩=some (.slice G ng cg)/\V.cell? ⟨w.heap.size,1,none⟩=some (.slice L nl cl)/\V.cell? ⟨w.heap.size+1,0,none⟩=some (.int .i64 op)/\V.cell? ⟨w.heap.size+1,3,none⟩=some (.slice (some ⟨b,o,none⟩) 2 c)/\V.cell? ⟨b,o,none⟩=some bs/\V.cell? ⟨b,o+1,none⟩=some Z/\V.cell? ⟨b,o+2,none⟩=some bA/\V.cell? ⟨b,o+3,none⟩=some E/\V.cell? ⟨b,o+4,none⟩=some cr/\V.cell? ⟨b,o+5,none⟩=some cy/\V.cell? ⟨b,o+6,none⟩=some cd/\V.cell? ⟨b,o+7,none⟩=some bv)
  (first|exact c5.o _ (Below.refl _ _)|exact c5.o _ (Below.refl _ _).drew|exact c5.o _ bg|exact c5.o _ bg|exact c5.o _ bg.drew)
  (first|(go_at_call 109;refine(cq.o _ G L ng nl cg cl g l bs Z bA E ?_).mono ?_;(exact ba.on (Below.refl _ _).drew);rintro r aT ⟨rfl,d⟩;have bg:Below W.heap.size W aT:=(Below.refl W.heap.size W).drew.trans (d.mono (KD _));clear d))
 have J:=(f.trans (bg.mono f.size))
 exact z7
 ):p:=h
theorem z1(h:p:=by
 obtain⟨cq,t⟩:=aH k m;clear h hx bb k m;go_enter func140,ntmps140;go_wp2;have f:=lL (w:=w) (.cells #[.slice G ng cg,.slice L nl cl] 192) (.cells #[.int .i64 op,.int .i64 n,.string nm,.slice (some ⟨b,o,none⟩) 2 c] 53);have a0:((w.alloc (.cells #[.slice G ng cg,.slice L nl cl] 192)).alloc (.cells #[.int .i64 op,.int .i64 n,.string nm,.slice (some ⟨b,o,none⟩) 2 c] 53)).cell? ⟨w.heap.size,0,none⟩=some (.slice G ng cg):=by simp[go_sem]
 have q:((w.alloc (.cells #[.slice G ng cg,.slice L nl cl] 192)).alloc (.cells #[.int .i64 op,.int .i64 n,.string nm,.slice (some ⟨b,o,none⟩) 2 c] 53)).cell? ⟨w.heap.size,1,none⟩=some (.slice L nl cl):=by simp[go_sem]
 have a8:((w.alloc (.cells #[.slice G ng cg,.slice L nl cl] 192)).alloc (.cells #[.int .i64 op,.int .i64 n,.string nm,.slice (some ⟨b,o,none⟩) 2 c] 53)).cell? ⟨w.heap.size+1,0,none⟩=some (.int .i64 op):=by simp[go_sem]
 have i:((w.alloc (.cells #[.slice G ng cg,.slice L nl cl] 192)).alloc (.cells #[.int .i64 op,.int .i64 n,.string nm,.slice (some ⟨b,o,none⟩) 2 c] 53)).cell? ⟨w.heap.size+1,3,none⟩=some (.slice (some ⟨b,o,none⟩) 2 c):=by simp[go_sem]
 have bN:((w.alloc (.cells #[.slice G ng cg,.slice L nl cl] 192)).alloc (.cells #[.int .i64 op,.int .i64 n,.string nm,.slice (some ⟨b,o,none⟩) 2 c] 53)).heap.size=w.heap.size+2:=by simp
 generalize (w.alloc (.cells #[.slice G ng cg,.slice L nl cl] 192)).alloc (.cells #[.int .i64 op,.int .i64 n,.string nm,.slice (some ⟨b,o,none⟩) 2 c] 53)=W at *;have ba:=aI.on f;have aK:=j.on f;exact AS
 ):p:=h
end Bf
open Bf in
theorem vA(op:Int)(x y:VE)(k:jn x)(m:jn y):oV (.bin op x y):=by
 intro w G L ng nl cg cl g l c0 c1 c2 c3 h;exact z0
theorem my(e:VE)(S:jN e)(hl:∀w cs,e.at_ w cs->∃op n nm A k c,cs=[.int .i64 op,.int .i64 n,.string nm,.slice A k c]/\k<=1):jn e:=by
 intro w G L ng nl cg cl g l c0 c1 c2 c3 h;obtain⟨op,n,nm,A,k,c,T,ap⟩:=hl _ _ h.rep;injection T with h0 T;injection T with ac T;injection T with au T;injection T with aU T;subst h0 ac au aU;clear T;have bo:=ae S;clear S hl;have q:((k:Int) == 2)=false:=by simp;omega
 have ar:(k == 2)=false:=by simp;omega
 clear ap;go_enter func109,ntmps109;go_wp2_with(fail);have f:=lL (w:=w) (.cells #[.slice G ng cg,.slice L nl cl] 192) (.cells #[.int .i64 op,.int .i64 n,.string nm,.slice A k c] 53);have aI:=h.on f;clear h;refine(bo.o _ G L ng nl cg cl g l _ _ _ _ aI).mono ?_;rintro r ab ⟨rfl,O⟩;go_wp2
 go_ret2
 exact fY.mk' rfl (f.trans (O.mono f.size))
theorem Dr(op:Int)(x y:VE)(S:oV (.bin op x y)):jn (.bin op x y):=by
 intro w G L ng nl cg cl g l c0 c1 c2 c3 h;obtain⟨n,nm,b,o,c,bs,Z,bA,E,cr,cy,cd,bv,T,_⟩:=h.rep;injection T with h0 T;injection T with ac T;injection T with au T;injection T with aU T;subst h0 ac au aU;clear T;have bo:=ae S;clear S;go_enter func109,ntmps109;go_wp2_with(fail);have f:=lL (w:=w) (.cells #[.slice G ng cg,.slice L nl cl] 192) (.cells #[.int .i64 op,.int .i64 n,.string nm,.slice (some ⟨b,o,none⟩) 2 c] 53);have aI:=h.on f;clear h;refine(bo.o _ G L ng nl cg cl g l _ _ _ _ aI).mono ?_;rintro r ab ⟨rfl,O⟩;go_wp2
 go_ret2
 exact fY.mk' rfl (f.trans (O.mono f.size))
theorem oE:∀e:VE,jn e
 | .num n=>my _ (wA n) (λw cs h=>by obtain⟨nm,A,c,rfl⟩:=h;exact⟨_,_,_,_,_,_,rfl,ad⟩)
 | .g1 s=>λw G L ng nl cg cl g l c0 c1 c2 c3 h=>h.ok.elim
 | .loc k=>my _ (qv _ k (.inl rfl)) (λw cs h=>by obtain⟨nm,A,c,rfl⟩:=h;exact⟨_,_,_,_,_,_,rfl,ad⟩)
 | .iB k=>my _ (qv _ k (.inr rfl)) (λw cs h=>by obtain⟨nm,A,c,rfl⟩:=h;exact⟨_,_,_,_,_,_,rfl,ad⟩)
 | .un op x=>my _ (yE op x (oE x)) (λw cs h=>by obtain⟨n,nm,b,o,c,bs,Z,bA,E,rfl,_⟩:=h;exact⟨_,_,_,_,_,_,rfl,ad⟩)
 | .bin op x y=>Dr op x y (vA op x y (oE x) (oE y))
theorem oW(e:VE)(w:World)(G L:Lp)(ng nl cg cl:Nat)(g l:List Int)(c0 c1 c2 c3:Value)(h:lC w G L ng nl g l e [c0,c1,c2,c3]) :
  Calls prog 79 #[.agg #[c0,c1,c2,c3],.slice G ng cg,.slice L nl cl] w (fY w (ev g l e)):=by
 have bq:=ae (oE e);go_enter func79,ntmps79;go_wp2_with(fail);have f:=(Below.refl w.heap.size w).alloc (KD _) (.cells #[c0,c1,c2,c3] 53);have aI:=h.on f;clear h;refine(bq.o _ G L ng nl cg cl g l _ _ _ _ aI).mono ?_;rintro r ab ⟨rfl,O⟩;go_wp2
 go_ret2
 exact fY.mk' rfl (f.trans (O.mono f.size))
end
def HT(w:World)(x:VE)(e:Ending)(ab:World):Prop:=∃c0 c1 c2 c3,e=.returned (.agg #[c0,c1,c2,c3])/\x.rep ab (λb=>w.heap.size<=b/\b<ab.heap.size) [c0,c1,c2,c3]/\Below w.heap.size w ab
variable{x:VE}
theorem HT.mk'{y:VE}{c0 c1 c2 c3:Value}(hx:x=y)(h:y.rep ab (λb=>w.heap.size<=b/\b<ab.heap.size) [c0,c1,c2,c3])(O:Below w.heap.size w ab):HT w x (.returned (.agg #[c0,c1,c2,c3])) ab:=by
 subst hx;exact⟨_,_,_,_,rfl,h,O⟩
def Hn(n:Int):VE:=if 0<=n then .num n else .bin 9 (.un 3 (.num (wrap64 (-(wrap64 (n+1)))))) (.num 1)
theorem lC.new(h:x.rep ab (λb=>B<=b/\b<ab.heap.size) cs)(bY:x.ok 0 0):lC ab none none 0 0 [] [] x cs:=
 ⟨cx.bN _,cx.bN _,bY,VE.aL (λ_ h=>h.2) _ _ h⟩
section
attribute [local go_sem ↓] gm gp
def within(x n:Int):Int:=x % n
theorem yJ{x:Int}(h:0<n):(x.tmod n+n).tmod n=within x n:=by
 unfold within;have ac:=Int.emod_nonneg x (show n≠0 by omega);have au:=Int.emod_lt_of_pos x h;have key:∀y:Int,0<=y->y.tmod n=y % n:=λy bb=>Int.tmod_eq_emod_of_nonneg bb;rcases Int.lt_or_le x 0 with hx|hx
 .have e1:x.tmod n = -((-x) % n):=by
   have:=key (-x) ad;rw[Int.neg_tmod] at this;omega
  have aU:=Int.emod_nonneg (-x) (show n≠0 by omega);have bE:=Int.emod_lt_of_pos (-x) h;rw[e1,key _ ad];rw[Int.add_emod_right];have cF:(-((-x) % n)) % n=x % n:=by
   have aY:-((-x) % n)=x+n*((-x) / n):=by
    have:=Int.emod_add_mul_ediv (-x) n;omega
   rw[aY,Int.add_mul_emod_self_left]
  exact cF
 .rw[key x hx,key _ ad,Int.add_emod_right,Int.emod_emod_of_dvd _ (Int.dvd_refl n)]
theorem td{x:Int}(h:0<n):0<=within x n/\within x n<n:=⟨Int.emod_nonneg x ad,Int.emod_lt_of_pos x h⟩
theorem cx.Iw{n:Nat}{l:List bG}(h:cx (EF gy) 3 w B A n l)(ap:k<n):
  ∃b o m,A=some ⟨b,o,none⟩/\b<B/\l[k]?=some m/\w.cell? ⟨b,o+k*3,none⟩=some (.string m.name)/\w.cell? ⟨b,o+k*3+1,none⟩=some (.bool m.re)/\w.cell? ⟨b,o+k*3+2,none⟩=some (.int .i64 m.size):=by
 obtain⟨b,o,m,bw,O,hm,_,hc⟩:=h.H8 ap;exact⟨b,o,m,bw,O,hm,hc 0 _ rfl,hc 1 _ rfl,hc 2 _ rfl⟩
theorem cx.hold{n:Nat}{l:List cy}(h:cx (EF bH) 2 w B A n l)(ap:k<n):
  ∃b o m,A=some ⟨b,o,none⟩/\b<B/\l[k]?=some m/\w.cell? ⟨b,o+k*2,none⟩=some (.int .i64 m.owner)/\w.cell? ⟨b,o+k*2+1,none⟩=some (.int .i64 m.depth):=by
 obtain⟨b,o,m,bw,O,hm,_,hc⟩:=h.H8 ap;exact⟨b,o,m,bw,O,hm,hc 0 _ rfl,hc 1 _ rfl⟩
theorem DG(l:List bG):∀x∈l,(gy x).length=3:=λ_ _=>rfl
theorem eE(l:List cy):∀x∈l,(bH x).length=2:=λ_ _=>rfl
theorem DV(l:List bG):∀x∈l,∀u∈gy x,u.oneCell'=true:=λx _ u hu=>by
 simp only[gy,KT,List.not_mem_nil,or_false] at hu;rcases hu with rfl|rfl|rfl<;>rfl
theorem k4(l:List cy):∀x∈l,∀u∈bH x,u.oneCell'=true:=λx _ u hu=>by
 simp only[bH,KT,List.not_mem_nil,or_false] at hu;rcases hu with rfl|rfl<;>rfl
theorem mH(l:List Int):∀x∈l,∀u∈cT x,u.oneCell'=true:=λx _ u hu=>by
 simp only[cT,KT,List.not_mem_nil,or_false] at hu;subst hu;rfl
theorem kN:ch prog 37 107 (.agg #[.int .i64 0,.int .i64 0]) 2 16:=ch.mk' Tryz.underlying37 (by kernel_rfl) rfl ad
theorem lM:ch prog 24 129 (.agg #[.string ⟨#[]⟩,.bool false,.int .i64 0]) 3 32:=ch.mk' Tryz.underlying24 (by kernel_rfl) rfl ad
theorem mb(x n:Int)(hn:0<n)(O:n<=4611686018427387904)(w:World) :
  Calls prog 28 #[.int .i64 x,.int .i64 n] w λe ab=>e=.returned (.int .i64 (within x n))/\w=ab:=by
 have bt:(n == 0)=false:=by simp;omega
 go_enter func28,ntmps28;go_wp2;go_ret;refine⟨ret_int ?_,rfl⟩;have ac:=Int.lt_tmod_of_pos x hn;have au:=Int.tmod_lt_of_pos x hn;rw[<-yJ hn];congr 1
 unfold RowKit.wrap64;omega
theorem hZ(A:Lp)(n c:Nat)(X:List bG)(w:World)(h:cx (EF gy) 3 w w.heap.size A n X)(hX:m1 X) :
  Calls prog 44 #[.slice A n c] w λe ab=>e=.returned (.int .i64 (elems X))/\Below w.heap.size w ab:=by
 have hl:=h.1;have hn:=hX.1;go_enter func44,ntmps44;go_wp2;go_loopw [3,8] (λs i wr=>∃k:Nat,k<=n/\i=.int .i64 k/\s=.int .i64 (elems (X.take k))/\Below w.heap.size w wr) (λ_ i _=>n - (intOf i).toNat)
 case atStart=>exact⟨0,KZ _,rfl,rfl,Below.refl _ _⟩
 case round=>
  obtain⟨k,ap,rfl,rfl,O⟩:=hrel;by_cases ak:k<n
  .obtain⟨b,o,m,rfl,U,hm,c0,c1,c2⟩:=(h.ez O).Iw ak;have C:=hX.ml k;have bS:=hX.at_ hm;have bZ:=O.size;have bo:=ae (show elems (X.take (k+1))=elems (X.take k)+max m.size 1 by rw[aZ hm,ix];rfl);clear hm;go_wp2;go_roundw
   case rel=>exact⟨k+1,ad,by go_num,by rw[bo.o],((O.alloc bZ _).alloc (by simp;omega) _)⟩
   case measure=>exact aG
  .go_wp2;go_ret;exact⟨ret_int (by first|rfl|rw[KL ad]),O⟩
theorem C9(A:Lp)(n c:Nat)(X:List bG)(m:Int)(w:World)(h:cx (EF gy) 3 w w.heap.size A n X)(hX:m1 X)(U:n<=c) :
  Calls prog 61 #[.slice A n c,.int .i64 m] w λe ab=>e=.returned (.int .i64 (eR X m))/\Below w.heap.size w ab:=by
 have hl:=h.1;by_cases hm:m<0
 .have b1:=ae (show eR X m = -1 from lO (.inl hm));clear h hX hl;go_enter func61,ntmps61;exact uX
 by_cases al:(n:Int)<=m
 .have b1:=ae (show eR X m = -1 from lO (.inr ad));clear h hX hl;go_enter func61,ntmps61;exact uX
 obtain⟨k,rfl⟩:=KI (show 0<=m by omega);have b1:=ae (show eR X k=elems (X.take k) from m8 ad);have F:cx (EF gy) 3 w w.heap.size A k (X.take k):=by
  refine⟨by simp;omega,λap=>?_⟩;obtain⟨b,o,bw,O,hc⟩:=h.2 ad;refine⟨b,o,bw,O,λj x hx=>hc j x ?_⟩;rw[List.getElem?_take] at hx;split at hx
  .exact hx
  .cases hx
 have ap:k<n:=ad;have a:=hX.take k;clear h hX hl hm al;go_enter func61,ntmps61;go_wp2_with(fail);refine(hZ A k k _ w F a).mono ?_;rintro e ab ⟨rfl,O⟩;go_wp2;go_ret;exact⟨ret_int (by rw[b1.o]),O⟩
theorem nX(A:Lp)(n c:Nat)(X:List bG)(e:Int)(w:World)(h:cx (EF gy) 3 w w.heap.size A n X)(hX:m1 X)(he:e<=9223372036854775807) :
  Calls prog 84 #[.slice A n c,.int .i64 e] w λr ab=>r=.returned (.int .i64 (bt X e))/\Below w.heap.size w ab:=by
 have hl:=h.1;have hn:=hX.1;by_cases a:e<0
 .have b1:=ae (show bt X e = -1 from iV a);clear h hX hl;go_enter func84,ntmps84;exact uX
 go_enter func84,ntmps84;go_wp2;go_loopw [1,11] (λs i wr=>∃k:Nat,k<=n/\i=.int .i64 k/\s=.int .i64 (e - elems (X.take k))/\elems (X.take k)<=e/\Below w.heap.size w wr) (λ_ i _=>n - (intOf i).toNat)
 case atStart=>exact⟨0,KZ _,rfl,DF (by simp[elems]),by simp[elems];omega,Below.refl _ _⟩
 case round=>
  obtain⟨k,ap,rfl,rfl,hle,O⟩:=hrel;by_cases ak:k<n
  .obtain⟨b,o,m,rfl,U,hm,c0,c1,c2⟩:=(h.ez O).Iw ak;have C:=hX.ml k;have bS:=hX.at_ hm;have bZ:=O.size;have bo:=ae (show elems (X.take (k+1))=elems (X.take k)+max m.size 1 by rw[aZ hm,ix];rfl);have cQ:=ae hm;clear hm;by_cases aI:e - elems (X.take k)<max m.size 1
   .have aW:=ae (show bt X e=k from kB cQ.o ad hle (by unfold bG.num;omega));go_wp2;go_ret;exact⟨ret_int (by rw[aW.o]),((O.alloc bZ _).alloc (by simp;omega) _)⟩
   .go_wp2;go_roundw
    case rel=>exact⟨k+1,ad,by go_num,DF (by rw[bo.o];omega),by rw[bo.o];omega,(((O.alloc bZ _).alloc (by simp;omega) _).alloc (by simp;omega) _)⟩
    case measure=>exact aG
  .have aW:=ae (show bt X e = -1 from iW (by rwa [KL ad] at hle));exact q3
end
end Go.Proofs.YtglbpimocmhojaaGreat

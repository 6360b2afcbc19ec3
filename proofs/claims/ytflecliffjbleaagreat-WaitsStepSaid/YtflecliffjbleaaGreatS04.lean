/- Part 4 of the proof. No condition of its own. -/
import Derived.Test.YtflecliffjbleaaGreatS03
namespace Go.Proofs.YtflecliffjbleaaGreat
open Go.RowKit Go.Proofs.Tryz
set_option maxRecDepth 1000000
set_option maxHeartbeats 25600000
set_option linter.unusedVariables false
variable{a:Act}{K:Act->World->Prop}{ops:Array Oper}{d:D}{m:List D}{rest:List Oper}{cs xs:List Value}{g s sz:Nat}{M:Nat->Prop}{o:Oper}{α:Type}{S b:World}
structure gq(s:Nat)(w ab:World):Prop where
 os:ab.os=w.os
 tape:ab.tape=w.tape
 output:ab.output=w.output
 size:w.heap.size<=ab.heap.size
 block:∀k,k<w.heap.size->k≠s->ab.heap[k]?=w.heap[k]?
theorem gq.refl(s:Nat)(w:World):gq s w w:=⟨rfl,rfl,rfl,Lz _,λ_ _ _=>rfl⟩
theorem gq.trans{s:Nat}{a b c:World}(h:gq s a b)(k:gq s b c):gq s a c:=
 ⟨k.os.trans h.os,k.tape.trans h.tape,k.output.trans h.output,LU h.size k.size,λi al hn=>(k.block i (LC al h.size) hn).trans (h.block i al hn)⟩
theorem gq.of{a:World}(h:Below a.heap.size a b):gq s a b:=⟨h.os,h.tape,h.output,h.size,λk aj _=>h.block k aj⟩
theorem gq.below{a:World}(h:gq s a b)(hs:s<=a.heap.size):Below s a b:=⟨h.os,h.tape,h.output,h.size,λk aj=>h.block k ad ad⟩
theorem gq.setCell{s:Nat}{a b:World}(h:gq s a b)(j:Nat)(v:Value):gq s a (b.setCell ⟨s,j,none⟩ v):=by
 refine⟨h.os,h.tape,h.output,by simpa using h.size,λk aj hn=>?_⟩;rw[Below.heap_setCell _ _ _ _ hn];exact h.block k aj hn
theorem gq.drew{s:Nat}{a b:World}(h:gq s a b):gq s a b.drew:=⟨h.os,h.tape,h.output,h.size,h.block⟩
theorem gq.cell{s:Nat}{a b:World}(h:gq s a b){k j:Nat}(aj:k<a.heap.size)(hn:k≠s):b.cell? ⟨k,j,none⟩=a.cell? ⟨k,j,none⟩:=World.cell?_of_block (h.block k aj hn)
structure cp(w:World)(s:Nat)(A:Mk)(n c:Nat)(l:List Int):Prop where
 lt:s<w.heap.size
 c0:w.cell? ⟨s,0,none⟩=some (.slice A n c)
 c1:∃i:Nat,i<=n/\w.cell? ⟨s,1,none⟩=some (.int .i64 i)
 fz:w.frozen? ⟨s,1,none⟩=false
 ls:cA (EF cd) 1 w s A n l
 hn:n<=1000
theorem cp.on{w ab:World}{A:Mk}{n c:Nat}{l:List Int}(h:cp w s A n c l)(O:Below w.heap.size w ab):cp ab s A n c l:=by
 have ap:=h.lt;refine⟨LC h.lt O.size,?_,?_,?_,h.ls.fH (O.mono ad),h.hn⟩
 .exact(O.cell (p:=⟨s,0,none⟩) ap).trans h.c0
 .obtain⟨i,al,hc⟩:=h.c1;exact⟨i,al,(O.cell (p:=⟨s,1,none⟩) ap).trans hc⟩
 .exact(O.frozen (p:=⟨s,1,none⟩) ap).trans h.fz
def xC(w:World)(s:Nat)(A:Mk)(n c:Nat)(l:List Int)(m:Int)(e:Ending)(ab:World):Prop:=
 ∃k,e=.returned (.int .i64 k)/\0<=k/\k<m/\cp ab s A n c l/\gq s w ab
theorem aY(w:World)(s:Nat)(A:Mk)(n c:Nat)(l:List Int)(m:Int)(h:cp w s A n c l)(hm:0<m)(ay:m<=4611686018427387904) :
  Calls prog 95 #[.pointer (some ⟨s,0,none⟩),.int .i64 m] w (xC w s A n c l m):=by
 have H:=ae h;obtain⟨ap,u,⟨i,al,cN⟩,de,y,hn⟩:=h;by_cases az:i<n
 case neg=>
  have q:decide ((i:Int)>=n)=true:=by simp;omega
  clear y;go_enter func95,ntmps95;go_wp2;go_quiet (fail)
  go_wp2;go_ret;exact⟨0,rfl,ad,hm,H.on (dJ (Below.refl _ _) _),.of (dJ (Below.refl _ _) _)⟩
 have q:decide ((i:Int)>=n)=false:=by simp;omega
 obtain⟨b,o,x,rfl,O,hx,hc⟩:=y.int az;clear hx y;go_enter func95,ntmps95;go_wp2;go_quiet (fail)
 go_wp2;obtain⟨h,aF,e,f,aA⟩:cp ((w.drewN nq).setCell ⟨s,1,none⟩ (.int .i64 ((i:Int)+1))) s (some ⟨b,o,none⟩) n c l/\gq s w ((w.drewN nq).setCell ⟨s,1,none⟩ (.int .i64 ((i:Int)+1)))/\
   ((w.drewN nq).setCell ⟨s,1,none⟩ (.int .i64 ((i:Int)+1))).cell? ⟨s,0,none⟩=some (.slice (some ⟨b,o,none⟩) n c)/\((w.drewN nq).setCell ⟨s,1,none⟩ (.int .i64 ((i:Int)+1))).cell? ⟨s,1,none⟩=some (.int .i64 ((i:Int)+1))/\
   ((w.drewN nq).setCell ⟨s,1,none⟩ (.int .i64 ((i:Int)+1))).cell? ⟨b,o+i,none⟩=some (.int .i64 x):=by
  have d:=H.on (dJ (Below.refl _ _) nq);have aF:gq s w (w.drewN nq):=.of (dJ (Below.refl _ _) nq);generalize w.drewN nq=v at *;have e0:(v.setCell ⟨s,1,none⟩ (.int .i64 ((i:Int)+1))).cell? ⟨s,0,none⟩=some (.slice (some ⟨b,o,none⟩) n c):=(World.cell?_setCell_other _ _ _ _ (by simp)).trans d.c0;have e1:(v.setCell ⟨s,1,none⟩ (.int .i64 ((i:Int)+1))).cell? ⟨s,1,none⟩=some (.int .i64 ((i:Int)+1)):=by
   obtain⟨k,_,aj⟩:=d.c1;simp[go_sem,aj]
  have ci:Below s v (v.setCell ⟨s,1,none⟩ (.int .i64 ((i:Int)+1))):=(Below.refl s v).setCell (p:=⟨s,1,none⟩) (Lz s) _;refine⟨⟨by simpa using d.lt,e0,⟨i+1,ad,by rw[e1];simp⟩,(World.frozen?_setCell _ _ _ _).trans d.fz,d.ls.fH ci,d.hn⟩,aF.setCell _ _,e0,e1,?_⟩;rw[ci.cell (by exact O),<-hc];exact aF.cell ad ad
 have aG:IntKind.i64.wrap ((i:Int)+1 - 1)=i:=by rw[show (i:Int)+1 - 1=i by omega];exact IntWalk.i64_in _ ad
 have cC:=ah h aF;clear h aF H u cN hc de;generalize (w.drewN nq).setCell ⟨s,1,none⟩ (.int .i64 ((i:Int)+1))=v at *;go_quiet (first|(go_at_call 19;refine Calls.quiet_of_same ((mE x m hm ay _).mono λ_ _ h=>⟨h.1,h.2.symm⟩)))
 go_wp2;go_ret;have a9:=tL (x:=x) (n:=m) hm;exact⟨_,rfl,a9.1,a9.2,cC.1.on (dJ (Below.refl _ _) _),cC.2.trans (.of (dJ (Below.refl _ _) _))⟩
theorem cp.IN{w ab:World}{A:Mk}{n c:Nat}{l:List Int}(h:cp w s A n c l)(O:Below g w ab)(hs:s<g):cp ab s A n c l:=by
 have ap:=h.lt;refine⟨LC h.lt O.size,?_,?_,?_,h.ls.fH (O.mono ad),h.hn⟩
 .exact(O.cell (p:=⟨s,0,none⟩) hs).trans h.c0
 .obtain⟨i,al,hc⟩:=h.c1;exact⟨i,al,(O.cell (p:=⟨s,1,none⟩) hs).trans hc⟩
 .exact(O.frozen (p:=⟨s,1,none⟩) hs).trans h.fz
theorem gq.eU{w aW v:World}(h:gq s w aW)(O:Below w.heap.size aW v):gq s w v:=
 ⟨O.os.trans h.os,O.tape.trans h.tape,O.output.trans h.output,LU h.size O.size,λk aj hn=>(O.block k aj).trans (h.block k aj hn)⟩
theorem gq.frozen{s:Nat}{a b:World}(h:gq s a b){k j:Nat}(aj:k<a.heap.size)(hn:k≠s):b.frozen? ⟨k,j,none⟩=a.frozen? ⟨k,j,none⟩:=by
 simp only[World.frozen?,h.block k aj hn]
structure sy(w:World)(s b:Nat):Prop where
 lt:b<w.heap.size
 ne:b≠s
 cs:∃F s1 s2,w.cell? ⟨b,0,none⟩=some (.string F)/\w.cell? ⟨b,1,none⟩=some (.string s1)/\w.cell? ⟨b,2,none⟩=some (.string s2)
theorem sy.on{w ab:World}{b:Nat}(h:sy w s b)(he:gq s w ab):sy ab s b:=by
 obtain⟨hl,hn,F,s1,s2,h0,ac,ax⟩:=h;exact⟨LC hl he.size,hn,F,s1,s2,(he.cell hl hn).trans h0,(he.cell hl hn).trans ac,(he.cell hl hn).trans ax⟩
def VE.made:VE->Prop
 | .num n=>0<=n/\n<4611686018427387904
 | .ha _=>True
 | .loc _=>False
 | .iK _=>False
 | .un op x=>(op=3\/op=4)/\x.made
 | .bin op x y=>(5<=op/\op<=17)/\x.made/\y.made
theorem qD(w:World)(s:Nat)(A:Mk)(n c:Nat)(l:List Int)(h:cp w s A n c l) :
  Calls prog 152 #[.pointer (some ⟨s,0,none⟩)] w (xC w s A n c l 4611686018427387904):=by
 have H:=ae h;clear h;go_enter func152,ntmps152;go_wp2_with(fail);refine(aY _ s A n c l 8 H.o ad ad).mono ?_;rintro e aP ⟨k,rfl,bm,b7,ac,ar⟩;have H1:=ah ac ar;clear ac ar;by_cases aj:k=1
 .have q:(k == 1)=true:=by simpa using aj
  go_wp2_with(fail);refine(aY _ s A n c l 4611686018427387904 H1.1 ad ad).mono ?_;rintro e aW ⟨bR,rfl,cK,ew,ax,bL⟩;have bZ:=ah ax bL;clear ax bL;go_wp2;go_ret;exact⟨bR,rfl,cK,ew,bZ.1,H1.2.trans bZ.2⟩
 .have q:(k == 1)=false:=by simpa using aj
  go_wp2_with(fail);refine(aY _ s A n c l 4 H1.1 ad ad).mono ?_;rintro e aW ⟨bR,rfl,cK,ew,ax,bL⟩;have bZ:=ah ax bL;clear ax bL;go_wp2;go_ret;exact⟨bR,rfl,cK,ad,bZ.1,H1.2.trans bZ.2⟩
section
attribute [local go_sem ↓] gC gD
def Jl(X:List bL)(T:List dc)(m th:Int)(i:Nat):Int:=if (own X)[i]?=some m/\(jK T i).owner=th+1/\0<=th then (jK T i).depth else 0
def Hs(X:List bL)(T:List dc)(m th:Int):Nat->Int
 | 0=>0
 | k+1=>Hs X T m th k+Jl X T m th k
def depth(X:List bL)(T:List dc)(m th:Int):Int:=Hs X T m th (own X).length
end
section
attribute [local go_sem ↓] gC gD
end
structure eW where
 name:ByteArray
 idx:Option VE
inductive dj where
 | mx (r:eW)
 | ex (e:VE)
inductive al where
 | nil
 | set (isVar:Bool) (n:ByteArray) (e:VE) (rest:al)
 | call (a:Bool) (n:ByteArray) (args:List dj) (rest:al)
 | lock (un:Bool) (r:eW) (rest:al)
 | ite (e:VE) (th el rest:al)
 | gG (e:VE) (th rest:al)
 | ret (rest:al)
structure aG where
 name:ByteArray
 params:List (ByteArray×Bool)
 body:al
structure bM where
 globals:List (ByteArray×Int)
 af:List bL
 funcs:List aG
structure bP where
 param:Bool
 index:Int
 at_:Option VE
structure ay where
 op:Int
 target:Int
 du:Bool
 expr:Option VE
 place:bP
 ints:List VE
 places:List bP
structure cM where
 name:ByteArray
 ints:Int
 ax:Int
 locals:Int
 code:List ay
structure aw where
 globals:List Int
 af:List bL
 procs:List cM
 main:Int
structure an where
 proc:Int
 pc:Int
 ints:List Int
 ax:List Int
structure ai where
 globals:List Int
 table:List dc
 threads:List (List an)
 fault:Int
def bk:VE->D
 | .num n=>.st [.i 1,.i n,.s ⟨#[]⟩,.sl []]
 | .ha s=>.st [.i 2,.i 0,.s s,.sl []]
 | .loc k=>.st [.i 18,.i k,.s ⟨#[]⟩,.sl []]
 | .iK k=>.st [.i 19,.i k,.s ⟨#[]⟩,.sl []]
 | .un op x=>.st [.i op,.i 0,.s ⟨#[]⟩,.sl [bk x]]
 | .bin op x y=>.st [.i op,.i 0,.s ⟨#[]⟩,.sl [bk x,bk y]]
def jX:D:=.st [.i 0,.i 0,.s ⟨#[]⟩,.sl []]
def oS:Option VE->D
 | none=>jX
 | some x=>bk x
def VE.a2:VE->Int
 | .num _=>1
 | .ha _=>2
 | .loc _=>18
 | .iK _=>19
 | .un op _=>op
 | .bin op _ _=>op
def VE.numOf:VE->Int
 | .num n=>n
 | .loc k=>k
 | .iK k=>k
 | _=>0
def VE.bt:VE->ByteArray
 | .ha s=>s
 | _=>⟨#[]⟩
def VE.args:VE->List VE
 | .un _ x=>[x]
 | .bin _ x y=>[x,y]
 | _=>[]
theorem x5(x:VE):bk x=.st [.i x.a2,.i x.numOf,.s x.bt,.sl (x.args.map bk)]:=by
 cases x<;>simp[bk,VE.a2,VE.numOf,VE.bt,VE.args]
theorem db(x:VE):(bk x).sz=4:=by rw[x5];rfl
section
variable {w:World} {P:Nat->Prop}
theorem aQ:D.aO w P [] cs↔cs=[]:=by simp only[D.aO]
theorem bf{n:Int}{l:List D}:D.aO w P (.i n::l) cs↔∃y,cs=.int .i64 n::y/\D.aO w P l y:=by
 exact DL
theorem fB{n:Bool}{l:List D}:D.aO w P (.b n::l) cs↔∃y,cs=.bool n::y/\D.aO w P l y:=by
 exact DL
theorem ct{n:ByteArray}{l:List D}:D.aO w P (.s n::l) cs↔∃y,cs=.string n::y/\D.aO w P l y:=by
 exact DL
theorem aL{l:List D}:D.aO w P (.sl m::l) cs↔∃A n c y,cs=.slice A n c::y/\n<=c/\Sl w P A n m/\D.aO w P l y:=by
 constructor
 .intro h;simp only[D.aO] at h;obtain⟨x,y,rfl,hx,h⟩:=h;obtain⟨A,c,n,rfl,hc,hs⟩:=D.tA.1 hx;exact⟨A,n,c,y,rfl,hc,hs,h⟩
 .rintro⟨A,n,c,y,rfl,hc,hs,h⟩;simp only[D.aO];exact⟨_,y,rfl,D.tA.2 ⟨A,c,n,rfl,hc,hs⟩,h⟩
theorem bJ:(D.st m).rep w P cs↔D.aO w P m cs:=by simp only[D.rep]
theorem aX{x:VE}:(bk x).rep w P cs↔∃A n c,cs=[.int .i64 x.a2,.int .i64 x.numOf,.string x.bt,.slice A n c]/\n<=c/\Sl w P A n (x.args.map bk):=by
 rw[x5,bJ,bf];constructor
 .rintro⟨y,rfl,h⟩;obtain⟨cn,rfl,ac⟩:=bf.1 h;obtain⟨cm,rfl,ax⟩:=ct.1 ac;obtain⟨A,n,c,bv,rfl,hc,hs,a1⟩:=aL.1 ax;exact xR
 .rintro⟨A,n,c,rfl,hc,hs⟩;exact⟨_,rfl,bf.2 ⟨_,rfl,ct.2 ⟨_,rfl,aL.2 ⟨A,n,c,[],rfl,hc,hs,aQ.2 rfl⟩⟩⟩⟩
theorem fv:jX.rep w P cs↔∃A c,cs=[.int .i64 0,.int .i64 0,.string ⟨#[]⟩,.slice A 0 c]:=by
 unfold jX;rw[bJ,bf];constructor
 .rintro⟨y,rfl,h⟩;obtain⟨cn,rfl,ac⟩:=bf.1 h;obtain⟨cm,rfl,ax⟩:=ct.1 ac;obtain⟨A,n,c,bv,rfl,hc,hs,a1⟩:=aL.1 ax;rw[aQ] at a1;subst a1;obtain rfl:n=0:=hs.1.symm;exact⟨A,c,rfl⟩
 .rintro⟨A,c,rfl⟩;exact⟨_,rfl,bf.2 ⟨_,rfl,ct.2 ⟨_,rfl,aL.2 ⟨A,0,c,[],rfl,L3 _,Sl.bT A,aQ.2 rfl⟩⟩⟩⟩
theorem Sl.ED{A:Mk}(h:Sl w P A 1 [d])(aG:d.sz=4):∃b o bU Z bm E,A=some ⟨b,o,none⟩/\P b/\d.rep w P [bU,Z,bm,E]/\
  w.cell? ⟨b,o,none⟩=some bU/\w.cell? ⟨b,o+1,none⟩=some Z/\w.cell? ⟨b,o+2,none⟩=some bm/\w.cell? ⟨b,o+3,none⟩=some E:=by
 obtain⟨b,o,a,cs,bO,O,hd,a9,hl,hc⟩:=h.at_ (z:=4) (k:=0) (λe he=>by simp at he;subst he;exact aG) ad;simp at hd;subst hd
 match cs,hl with
 | [bU,Z,bm,E],_=>
  have h0:=hc 0 bU rfl;have ac:=hc 1 Z rfl;have ax:=hc 2 bm rfl;have a1:=hc 3 E rfl;simp only[Nat.zero_mul,LM] at h0 ac ax a1;exact⟨b,o,bU,Z,bm,E,bO,O,a9,h0,ac,ax,a1⟩
theorem Sl.Ks{A:Mk}{e:D}(h:Sl w P A 2 [d,e])(aG:d.sz=4)(cV:e.sz=4):∃b o bU Z bm E b1 cn cm bv,A=some ⟨b,o,none⟩/\P b/\d.rep w P [bU,Z,bm,E]/\e.rep w P [b1,cn,cm,bv]/\
  w.cell? ⟨b,o,none⟩=some bU/\w.cell? ⟨b,o+1,none⟩=some Z/\w.cell? ⟨b,o+2,none⟩=some bm/\w.cell? ⟨b,o+3,none⟩=some E/\
  w.cell? ⟨b,o+4,none⟩=some b1/\w.cell? ⟨b,o+5,none⟩=some cn/\w.cell? ⟨b,o+6,none⟩=some cm/\w.cell? ⟨b,o+7,none⟩=some bv:=by
 have s:∀x∈[d,e],x.sz=4:=λx hx=>by
  simp at hx;rcases hx with rfl|rfl<;>assumption
 obtain⟨b,o,a,cs,bO,O,hd,a9,hl,hc⟩:=h.at_ (z:=4) (k:=0) s ad;obtain⟨R,au,l,f,am,_,he,I,aa,aX⟩:=h.at_ (z:=4) (k:=1) s ad;rw[bO] at am;injection am with am;injection am with a4 bW;subst a4 bW;simp at hd he;subst hd he
 match cs,hl,f,aa with
 | [bU,Z,bm,E],_,[b1,cn,cm,bv],_=>
  have h0:=hc 0 bU rfl;have ac:=hc 1 Z rfl;have ax:=hc 2 bm rfl;have a1:=hc 3 E rfl;have cS:=aX 0 b1 rfl;have cv:=aX 1 cn rfl;have bR:=aX 2 cm rfl;have cR:=aX 3 bv rfl;simp only[Nat.zero_mul,LM,Nat.one_mul,Nat.add_assoc,Nat.reduceAdd] at h0 ac ax a1 cS cv bR cR;exact⟨b,o,bU,Z,bm,E,b1,cn,cm,bv,bO,O,a9,I,h0,ac,ax,a1,cS,cv,bR,cR⟩
theorem kI:∀(x:VE) (cs:List Value),(bk x).rep w P cs->x.rep w P cs
 | .num n,cs,h=>by
  obtain⟨A,n,c,rfl,_,hs⟩:=aX.1 h;obtain rfl:n=0:=hs.1.symm
  exact⟨_,_,_,rfl⟩
 | .ha s,cs,h=>by
  obtain⟨A,n,c,rfl,_,hs⟩:=aX.1 h;obtain rfl:n=0:=hs.1.symm
  exact⟨_,_,_,rfl⟩
 | .loc k,cs,h=>by
  obtain⟨A,n,c,rfl,_,hs⟩:=aX.1 h;obtain rfl:n=0:=hs.1.symm
  exact⟨_,_,_,rfl⟩
 | .iK k,cs,h=>by
  obtain⟨A,n,c,rfl,_,hs⟩:=aX.1 h;obtain rfl:n=0:=hs.1.symm
  exact⟨_,_,_,rfl⟩
 | .un op x,cs,h=>by
  obtain⟨A,n,c,rfl,_,hs⟩:=aX.1 h;obtain rfl:n=1:=hs.1.symm;obtain⟨b,o,bU,Z,bm,E,rfl,O,a9,c0,c1,c2,c3⟩:=Sl.ED hs (db x)
  exact⟨_,_,b,o,c,bU,Z,bm,E,rfl,O,kI x _ a9,c0,c1,c2,c3⟩
 | .bin op x y,cs,h=>by
  obtain⟨A,n,c,rfl,_,hs⟩:=aX.1 h;obtain rfl:n=2:=hs.1.symm;obtain⟨b,o,bU,Z,bm,E,b1,cn,cm,bv,rfl,O,a9,I,c0,c1,c2,c3,d0,d1,d2,d3⟩:=Sl.Ks hs (db x) (db y);exact⟨_,_,b,o,c,bU,Z,bm,E,b1,cn,cm,bv,rfl,O,kI x _ a9,kI y _ I,c0,c1,c2,c3,d0,d1,d2,d3⟩
end
def kL(r:eW):D:=.st [.s r.name,.sl (r.idx.toList.map bk)]
def gj:D:=.st [.s ⟨#[]⟩,.sl []]
def eO:dj->D
 | .mx r=>.st [.b true,kL r,jX]
 | .ex e=>.st [.b false,gj,bk e]
def gP(kind:Int)(name:ByteArray)(e r:D)(args th el:List D):D:=.st [.i kind,.s name,e,r,.sl args,.sl th,.sl el]
def c7:al->List D
 | .nil=>[]
 | .set v n e rest=>gP (if v then 1 else 2) n (bk e) gj [] [] []::c7 rest
 | .call g n aT rest=>gP (if g then 4 else 3) n jX gj (aT.map eO) [] []::c7 rest
 | .lock u r rest=>gP (if u then 6 else 5) ⟨#[]⟩ jX (kL r) [] [] []::c7 rest
 | .ite e th el rest=>gP 7 ⟨#[]⟩ (bk e) gj [] (c7 th) (c7 el)::c7 rest
 | .gG e th rest=>gP 8 ⟨#[]⟩ (bk e) gj [] (c7 th) []::c7 rest
 | .ret rest=>gP 9 ⟨#[]⟩ jX gj [] [] []::c7 rest
def cz(p:ByteArray×Bool):D:=.st [.s p.1,.b p.2]
def dy(f:aG):D:=.st [.s f.name,.sl (f.params.map cz),.sl (c7 f.body)]
def iI(g:ByteArray×Int):D:=.st [.s g.1,.i g.2]
def eC(m:bL):D:=.st [.s m.name,.b m.re,.i m.size]
def ds(p:bP):D:=.st [.b p.param,.i p.index,.sl (p.at_.toList.map bk)]
def ep(x:ay):D:=.st [.i x.op,.i x.target,.b x.du,oS x.expr,ds x.place,.sl (x.ints.map bk),.sl (x.places.map ds)]
def gv(p:cM):D:=.st [.s p.name,.i p.ints,.i p.ax,.i p.locals,.sl (p.code.map ep)]
def uj(u:aw):D:=.st [.sl (u.globals.map D.i),.sl (u.af.map eC),.sl (u.procs.map gv),.i u.main]
def gJ(f:an):D:=.st [.i f.proc,.i f.pc,.sl (f.ints.map D.i),.sl (f.ax.map D.i)]
def mS(t:List an):D:=.st [.sl (t.map gJ)]
def mf(h:dc):D:=.st [.i h.owner,.i h.depth]
theorem Sl.JP{enc:α->D}{f:α->List Value}(J:∀(w:World) (P:Nat->Prop) (x:α) (cs:List Value),(enc x).rep w P cs->cs=f x)(aG:∀x,(enc x).sz=sz)
  {w:World} {A:Mk} {n:Nat} {l:List α} (h:Sl w (av w) A n (l.map enc)):cA (EF f) sz w w.heap.size A n l:=by
 have hl:l.length=n:=by rw[<-h.1,LG]
 refine⟨hl,λhn=>?_⟩;obtain⟨b,o,bO,O⟩:=h.some_ hn;refine⟨b,o,bO,O,λk x hx=>?_⟩;have aj:k<n:=by have:=(List.getElem?_eq_some_iff.1 hx).1;omega
 obtain⟨R,au,y,cs,am,_,bb,a9,aY,hc⟩:=h.g9 aG aj;rw[bO] at am;injection am with am;injection am with ac ax;subst ac ax;rw[hx] at bb;injection bb with bb;subst bb;exact⟨cs,J _ _ _ _ a9,aY,hc⟩
theorem m7{α:Type}{enc:α->D}{f:α->List Value}{w:World}{P:Nat->Prop}(J:∀x,(enc x).rep w P (f x)):∀l:List α,D.aO w P (l.map enc) (l.flatMap f)
 | []=>by simp only[L4,D.aO,List.flatMap_nil]
 | x::l=>by
  rw[LI,LY];simp only[D.aO];exact⟨_,_,rfl,J x,m7 J l⟩
theorem cA.sl{enc:α->D}{f:α->List Value}{w:World}{P:Nat->Prop}{B n:Nat}{A:Mk}{l:List α}(J:∀x,(enc x).rep w P (f x))(hs:∀x,(f x).length=sz)(h0:0<sz)
  (h:cA (EF f) sz w B A n l) (be:∀b,b<B->P b):Sl w P A n (l.map enc):=by
 refine⟨by rw[LG,h.1],λhn=>?_⟩;obtain⟨b,o,bO,O,hc⟩:=h.2 hn;refine⟨b,o,l.flatMap f,bO,be b O,m7 J l,λj u bi=>?_⟩;have a1:=(List.getElem?_eq_some_iff.1 bi).1;rw[gz f sz l λx _=>hs x] at a1;have a7:j / sz<l.length:=by rw[Nat.div_lt_iff_lt_mul h0];exact a1
 have hx:l[j / sz]?=some (l[j / sz]'a7):=List.getElem?_eq_getElem a7;have d:=Nat.mod_lt j h0;have a:j / sz*sz+j % sz=j:=Nat.div_add_mod' j sz;have cr:=fU f sz l (λx _=>hs x) _ _ hx (j % sz) d;rw[a,bi] at cr;obtain⟨cs,he,_,c⟩:=hc _ _ hx;rw[EF] at he;subst he;have:=c _ _ cr.symm
 rwa [Nat.add_assoc,a] at this
theorem yo{w:World}{P:Nat->Prop}{x:Int}:(D.i x).rep w P cs↔cs=cd x:=by simp only[D.rep,cd]
theorem Sl.ints{w:World}{A:Mk}{n:Nat}{l:List Int}(h:Sl w (av w) A n (l.map D.i)):cA (EF cd) 1 w w.heap.size A n l:=Sl.JP (enc:=D.i) (f:=cd) (λ_ _ _ _=>yo.1) (λ_=>rfl) h
theorem cA.ints{w:World}{P:Nat->Prop}{B n:Nat}{A:Mk}{l:List Int}(h:cA (EF cd) 1 w B A n l)(be:∀b,b<B->P b):Sl w P A n (l.map D.i):=cA.sl (enc:=D.i) (f:=cd) (λ_=>yo.2 rfl) (λ_=>rfl) (by decide) h be
theorem fq{w:World}{P:Nat->Prop}{m:bL}:(eC m).rep w P cs↔cs=hk m:=by
 unfold eC;rw[bJ,ct];constructor
 .rintro⟨y,rfl,h⟩;rw[fB] at h;exact z7
 .rintro rfl;exact⟨_,rfl,fB.2 ⟨_,rfl,bf.2 ⟨_,rfl,aQ.2 rfl⟩⟩⟩
theorem uW{w:World}{P:Nat->Prop}{m:dc}:(mf m).rep w P cs↔cs=cb m:=by
 unfold mf;rw[bJ,bf];exact DJ
theorem Sl.qx{w:World}{A:Mk}{n:Nat}{l:List bL}(h:Sl w (av w) A n (l.map eC)):cA (EF hk) 3 w w.heap.size A n l:=Sl.JP (enc:=eC) (f:=hk) (λ_ _ _ _=>fq.1) (λ_=>rfl) h
theorem cA.qx{w:World}{P:Nat->Prop}{B n:Nat}{A:Mk}{l:List bL}(h:cA (EF hk) 3 w B A n l)(be:∀b,b<B->P b):Sl w P A n (l.map eC):=cA.sl (enc:=eC) (f:=hk) (λ_=>fq.2 rfl) (λ_=>rfl) (by decide) h be
theorem Sl.holds{w:World}{A:Mk}{n:Nat}{l:List dc}(h:Sl w (av w) A n (l.map mf)):cA (EF cb) 2 w w.heap.size A n l:=Sl.JP (enc:=mf) (f:=cb) (λ_ _ _ _=>uW.1) (λ_=>rfl) h
theorem cA.holds{w:World}{P:Nat->Prop}{B n:Nat}{A:Mk}{l:List dc}(h:cA (EF cb) 2 w B A n l)(be:∀b,b<B->P b):Sl w P A n (l.map mf):=cA.sl (enc:=mf) (f:=cb) (λ_=>uW.2 rfl) (λ_=>rfl) (by decide) h be
abbrev ly(P:Nat->Prop)(w:World)(v:Value):Nat->Prop:=λb=>P b/\b<w.heap.size/\v.ownBlock≠some b
structure Gr(P:Nat->Prop)(B:Nat)(e:TypeId)(z:Nat)(w:World)(A:Mk)(n c:Nat)(l:List D):Prop where
 len:l.length=n
 ex:∃xs,w.ownsRow B e z (.slice A n c) n xs/\D.aO w (ly P w (.slice A n c)) l xs
section
variable {P Q:Nat->Prop} {B q:Nat} {e:TypeId} {z:Nat} {w ab aP:World} {A:Mk} {n c:Nat} {l:List D}
theorem Gr.nil(P:Nat->Prop)(B:Nat)(e:TypeId)(z:Nat)(w:World):Gr P B e z w none 0 0 []:=⟨rfl,[],⟨by simp,.inl ⟨rfl,rfl⟩⟩,by simp only[D.aO]⟩
theorem Gr.lt(h:Gr P B e z w A n c l){g:Nat}(aY:(Value.slice A n c).ownBlock=some g):B<=g/\g<w.heap.size:=by
 obtain⟨_,xs,ac,_⟩:=h;exact ac.lt g aY
theorem Gr.cap(h:Gr P B e z w A n c l):n<=c/\c<=maxLen:=by
 obtain⟨_,xs,ac,_⟩:=h;obtain⟨_,_,bG,ax,a1,_⟩:=bH ac;injection bG with _ _ bG;subst bG;exact⟨ax,a1⟩
theorem Gr.ak(h:Gr P B e z w A n c l)(hs:w.heap.size<=ab.heap.size)(aj:∀b,b<w.heap.size->(P b\/B<=b)->ab.heap[b]?=w.heap[b]?):Gr P B e z ab A n c l:=by
 obtain⟨hl,xs,ac,ax⟩:=h;refine⟨hl,xs,⟨ac.1,?_⟩,D.bV (λb O=>⟨O.1,LC O.2.1 hs,O.2.2⟩) _ _ (D.bU (λb O=>aj b O.2.1 (.inl O.1)) _ _ ax)⟩;rcases ac.2 with a1|⟨g,cap,cur,bG,j,aT,rest⟩
 .exact .inl a1
 .exact .inr ⟨g,cap,cur,bG,j,(aj g (Array.getElem?_eq_some_iff.1 aT).1 (.inr j)).trans aT,rest⟩
theorem Gr.dh(h:Gr P B e z w A n c l)(hs:w.heap.size<=ab.heap.size)(aj:∀b,b<w.heap.size->(P b\/(Value.slice A n c).ownBlock=some b)->ab.heap[b]?=w.heap[b]?):Gr P B e z ab A n c l:=by
 obtain⟨hl,xs,ac,ax⟩:=h;refine⟨hl,xs,⟨ac.1,?_⟩,D.bV (λb O=>⟨O.1,LC O.2.1 hs,O.2.2⟩) _ _ (D.bU (λb O=>aj b O.2.1 (.inl O.1)) _ _ ax)⟩;rcases ac.2 with a1|⟨g,cap,cur,bG,j,aT,rest⟩
 .exact .inl a1
 .exact .inr ⟨g,cap,cur,bG,j,(aj g (Array.getElem?_eq_some_iff.1 aT).1 (.inr (by rw[bG];rfl))).trans aT,rest⟩
theorem Gr.base{q:Nat}(h:Gr P B e z w A n c l)(aS:q<=B):Gr P q e z w A n c l:=by
 obtain⟨hl,xs,ac,ax⟩:=h;refine⟨hl,xs,⟨ac.1,?_⟩,ax⟩;rcases ac.2 with a1|⟨g,cap,cur,bG,j,aT,rest⟩
 .exact .inl a1
 .exact .inr ⟨g,cap,cur,bG,ad,aT,rest⟩
theorem Gr.mono(h:Gr P B e z w A n c l)(be:∀b,b<w.heap.size->P b->Q b):Gr Q B e z w A n c l:=by
 obtain⟨hl,xs,ac,ax⟩:=h;exact⟨hl,xs,ac,D.bV (λb O=>⟨be b O.2.1 O.1,O.2.1,O.2.2⟩) _ _ ax⟩
theorem Gr.aj(h:Gr P B e z w A n c l)(O:Ext w ab):Gr P B e z ab A n c l:=h.ak O.size λb ap _=>O.block b ap λh=>h
theorem Gr.cS(h:Gr P B e z w A n c l)(O:Fr M w ab)(hM:∀b,M b->b<w.heap.size->¬P b/\b<B):Gr P B e z ab A n c l:=
 h.ak O.size λb ap hp=>O.block b ap λhm=>by
  obtain⟨ac,ax⟩:=hM b hm ap;rcases hp with hp|hp
  .exact ac hp
  .omega
theorem Gr.sl(h:Gr P B e z w A n c l)(be:∀b,b<w.heap.size->P b->Q b)(aS:∀b,b<w.heap.size->B<=b->Q b):Sl w Q A n l:=by
 obtain⟨hl,xs,ac,ax⟩:=h;exact Sl.qE ac (D.bV (λb O=>be b O.2.1 O.1) _ _ ax) hl λg _ ac ax=>aS g ax ac
end
abbrev dx(S:World)(A:Mk)(n c:Nat)(I:Mk)(aQ aD:Nat):Prop:=∀b,(Value.slice I aQ aD).ownBlock=some b->(Value.slice A n c).ownBlock=some b\/S.heap.size<=b
section
variable {P:Program} {f:Nat->Prop} {B:Nat} {e t:TypeId} {z:Value} {size bytes:Nat}
theorem Gr.snoc{w ab:World}{A I:Mk}{n c aD:Nat}{l:List D}{cG:List Value}{cQ:Nat}(hl:l.length=n)(ac:w.ownsRow B e cQ (.slice A n c) n xs)(ax:D.aO w (ly f w (.slice A n c)) l xs)
  (hd:d.rep w (ly f w (.slice A n c)) cG) {s:Nat} (hs:w.heap.size<=s) (az:ab.ownsRow B e cQ (.slice I (n+1) aD) (n+1) (xs++cG)) (aY:w.grownBy ab (Value.slice A n c).ownBlock)
  (O:(Value.slice I (n+1) aD).ownBlock=(Value.slice A n c).ownBlock\/(Value.slice I (n+1) aD).ownBlock=some s):Gr f B e cQ ab I (n+1) aD (l++[d]):=by
 refine⟨by simp[hl],_,az,D.cK ?_ (D.bw.2 ?_)⟩
 .refine D.bV (λb a4=>⟨a4.1,LC a4.2.1 aY.size,λhc=>?_⟩) _ _ (D.bU (λb a4=>aY.block b a4.2.1 λhe=>a4.2.2 he.symm) _ _ ax);exact xL
 .refine D.aK (λb a4=>⟨a4.1,LC a4.2.1 aY.size,λhc=>?_⟩) _ _ (D.aP (λb a4=>aY.block b a4.2.1 λhe=>a4.2.2 he.symm) _ _ hd);exact xL
namespace Cl
theorem BI{p:Prop}(h:p:=by
 exact h I aD ab (Gr.snoc hl ac ax hd (s:=S.heap.size+1) ad bR aY (by simpa using H)) (Mg.grown aY λg aY=>.inl aY) (λb O=>by
  rcases H with H|H
  .rw[H] at O;exact .inl O
  .rw[H] at O;injection O with O;right;simp at O;omega) hc
 ):p:=h
end Cl
open Cl in
theorem q8{Q:Exit->Act->World->Prop}(bO:cm P t e z size bytes)(s x:Operand)
  (bn:o.op=.call {callee:=.builtin .append,args:=#[s,x],argTypes:=#[t,t]})
  {A:Mk} {n c:Nat} {l:List D} (h0:Gr f B e size S A n c l) {d:D} {cs:Array Value} (hd:d.rep S (ly f S (.slice A n c)) cs.toList)
  (hs:a.eval s=.slice A n c) (hx:a.eval x=.slice (some ⟨S.heap.size,0,none⟩) 1 1) (T:cs.size=size)
  (r:(n+1)*bytes<=140737488355328) (y:n+1<=140737488355328) (C:B<=S.heap.size)
  (h:∀I aD ab,Gr f B e size ab I (n+1) aD (l++[d])->Fr (λb=>(Value.slice A n c).ownBlock=some b) S ab->dx S A n c I (n+1) aD->n+1<=aD->K (a.put o.dst (.slice I (n+1) aD)) ab):o.wp P a (S.alloc (.cells cs e)) K Q:=by
 obtain⟨hl,xs,ac,ax⟩:=h0;refine kn _ bO s x bn B _ n xs hs (ac.alloc _) _ 1 1 cs.toList hx (Src.block (heap_alloc_new S _) 1 ad (D.tu _ _ hd)) r y (by simp;omega) (λh=>nomatch h) λG ab bR cR H=>?_;exact BH
theorem bI{Q:Exit->Act->World->Prop}(bO:cm P t e z size bytes)(i:o.guard=none)(s x:Operand)
  (bn:o.op=.call {callee:=.builtin .append,args:=#[s,x],argTypes:=#[t,t]})
  {A:Mk} {n c:Nat} {l:List D} (h0:Gr f B e size S A n c l) {d:D} {cs:Array Value} (hd:d.rep S (ly f S (.slice A n c)) cs.toList)
  (hs:a.eval s=.slice A n c) (hx:a.eval x=.slice (some ⟨S.heap.size,0,none⟩) 1 1) (T:cs.size=size)
  (r:(n+1)*bytes<=140737488355328) (y:n+1<=140737488355328) (C:B<=S.heap.size)
  (h:∀I aD ab,Gr f B e size ab I (n+1) aD (l++[d])->Fr (λb=>(Value.slice A n c).ownBlock=some b) S ab->dx S A n c I (n+1) aD->n+1<=aD->wpList P ops Q rest (a.put o.dst (.slice I (n+1) aD)) ab):wpList P ops Q (o::rest) a (S.alloc (.cells cs e)):=
 wpList_plain i λ_ hK=>q8 bO s x bn h0 hd hs hx T r y C λI aD ab ce g2 cN cZ=>hK _ _ (h I aD ab ce g2 cN cZ)
theorem Gr.HE{w ab:World}{A I:Mk}{n m c aD:Nat}{l k:List D}{cG:List Value}{cQ:Nat}(hl:l.length=n)(hm:k.length=m)(ac:w.ownsRow B e cQ (.slice A n c) n xs)(ax:D.aO w (ly f w (.slice A n c)) l xs)
  (hd:D.aO w (ly f w (.slice A n c)) k cG) {s:Nat} (hs:w.heap.size<=s) (az:ab.ownsRow B e cQ (.slice I (n+m) aD) (n+m) (xs++cG)) (aY:w.grownBy ab (Value.slice A n c).ownBlock)
  (O:(Value.slice I (n+m) aD).ownBlock=(Value.slice A n c).ownBlock\/(Value.slice I (n+m) aD).ownBlock=some s):Gr f B e cQ ab I (n+m) aD (l++k):=by
 refine⟨by simp[hl,hm],_,az,D.cK ?_ ?_⟩
 .refine D.bV (λb a4=>⟨a4.1,LC a4.2.1 aY.size,λhc=>?_⟩) _ _ (D.bU (λb a4=>aY.block b a4.2.1 λhe=>a4.2.2 he.symm) _ _ ax);exact xL
 .refine D.bV (λb a4=>⟨a4.1,LC a4.2.1 aY.size,λhc=>?_⟩) _ _ (D.bU (λb a4=>aY.block b a4.2.1 λhe=>a4.2.2 he.symm) _ _ hd);exact xL
theorem Fo{Q:Exit->Act->World->Prop}(bO:cm P t e z size bytes)(s x:Operand)
  (bn:o.op=.call {callee:=.builtin .append,args:=#[s,x],argTypes:=#[t,t]})
  {A A2:Mk} {n c m c2:Nat} {l k:List D} (h0:Gr f B e size S A n c l) (aj:Sl S (ly f S (.slice A n c)) A2 m k) (aG:∀d∈k,d.sz=size)
  (hs:a.eval s=.slice A n c) (hx:a.eval x=.slice A2 m c2)
  (r:(n+m)*bytes<=140737488355328) (y:n+m<=140737488355328) (C:B<=S.heap.size)
  (h:∀I aD ab,Gr f B e size ab I (n+m) aD (l++k)->Fr (λb=>(Value.slice A n c).ownBlock=some b) S ab->dx S A n c I (n+m) aD->n+m<=aD->K (a.put o.dst (.slice I (n+m) aD)) ab):o.wp P a S K Q:=by
 obtain⟨hl,xs,ac,ax⟩:=h0;obtain⟨cG,a9,aw⟩:=aj.src aG;refine kn _ bO s x bn B _ n xs hs ac _ m c2 cG hx aw r y C (λh=>(by subst h;exact aj.none_)) λG ab bR cR H=>?_;obtain⟨I,aD,rfl,hc,_⟩:=bH bR;exact h I aD ab (Gr.HE hl aj.1 ac ax a9 (s:=S.heap.size) (Lz _) bR cR H) (Mg.grown cR λg aY=>.inl aY) (λb O=>by
  rcases H with H|H
  .rw[H] at O;exact .inl O
  .rw[H] at O;injection O with O;right;omega) hc
theorem xx{Q:Exit->Act->World->Prop}(bO:cm P t e z size bytes)(i:o.guard=none)(s x:Operand)
  (bn:o.op=.call {callee:=.builtin .append,args:=#[s,x],argTypes:=#[t,t]})
  {A A2:Mk} {n c m c2:Nat} {l k:List D} (h0:Gr f B e size S A n c l) (aj:Sl S (ly f S (.slice A n c)) A2 m k) (aG:∀d∈k,d.sz=size)
  (hs:a.eval s=.slice A n c) (hx:a.eval x=.slice A2 m c2)
  (r:(n+m)*bytes<=140737488355328) (y:n+m<=140737488355328) (C:B<=S.heap.size)
  (h:∀I aD ab,Gr f B e size ab I (n+m) aD (l++k)->Fr (λb=>(Value.slice A n c).ownBlock=some b) S ab->dx S A n c I (n+m) aD->n+m<=aD->wpList P ops Q rest (a.put o.dst (.slice I (n+m) aD)) ab):wpList P ops Q (o::rest) a S:=
 wpList_plain i λ_ hK=>Fo bO s x bn h0 aj aG hs hx r y C λI aD ab ce g2 cN cZ=>hK _ _ (h I aD ab ce g2 cN cZ)
end
structure lL(B:Nat)(e1:TypeId)(cU:Nat)(e2:TypeId)(cy:Nat)(w:World)(A:Mk)(n c:Nat)(l:List D)(I:Mk)(aQ aD:Nat)(aM:List D):Prop where
 one:Gr (λb=>B<=b/\(Value.slice I aQ aD).ownBlock≠some b) B e1 cU w A n c l
 two:Gr (λb=>B<=b/\(Value.slice A n c).ownBlock≠some b) B e2 cy w I aQ aD aM
 ne:∀b,(Value.slice A n c).ownBlock=some b->(Value.slice I aQ aD).ownBlock≠some b
section
variable {B:Nat} {e1 e2:TypeId} {cU cy:Nat} {w ab:World} {A I A2:Mk} {n c aQ aD n2 c2:Nat} {l aM c0:List D}
theorem lL.nil(B:Nat)(e1:TypeId)(cU:Nat)(e2:TypeId)(cy:Nat)(w:World):lL B e1 cU e2 cy w none 0 0 [] none 0 0 []:=⟨Gr.nil _ _ _ _ _,Gr.nil _ _ _ _ _,λb h=>by cases h⟩
theorem lL.swap(h:lL B e1 cU e2 cy w A n c l I aQ aD aM):lL B e2 cy e1 cU w I aQ aD aM A n c l:=⟨h.two,h.one,λb ac ax=>h.ne b ax ac⟩
theorem lL.cS(h:lL B e1 cU e2 cy w A n c l I aQ aD aM)(O:Fr M w ab)(hM:∀b,M b->b<w.heap.size->b<B):lL B e1 cU e2 cy ab A n c l I aQ aD aM:=by
 refine⟨h.one.dh O.size λb ap hp=>O.block b ap λhm=>?_,h.two.dh O.size λb ap hp=>O.block b ap λhm=>?_,h.ne⟩
 .have:=hM b hm ap;rcases hp with hp|hp
  .have:=hp.1;omega
  .have:=(h.one.lt hp).1;omega
 .have:=hM b hm ap;rcases hp with hp|hp
  .have:=hp.1;omega
  .have:=(h.two.lt hp).1;omega
theorem lL.aj(h:lL B e1 cU e2 cy w A n c l I aQ aD aM)(O:Ext w ab):lL B e1 cU e2 cy ab A n c l I aQ aD aM:=h.cS O λ_ h _=>h.elim
theorem lL.grow(h:lL B e1 cU e2 cy w A n c l I aQ aD aM)(aY:Gr (λb=>B<=b/\(Value.slice I aQ aD).ownBlock≠some b) B e1 cU ab A2 n2 c2 c0)(J:Fr (λb=>(Value.slice A n c).ownBlock=some b) w ab)(bn:dx w A n c A2 n2 c2) :
  lL B e1 cU e2 cy ab A2 n2 c2 c0 I aQ aD aM:=by
 have ac:Gr (λb=>(B<=b/\(Value.slice A n c).ownBlock≠some b)/\(Value.slice A2 n2 c2).ownBlock≠some b) B e2 cy w I aQ aD aM:=h.two.mono λb ap hp=>⟨hp,λO=>by
  rcases bn b O with ac|ac
  .exact hp.2 ac
  .omega⟩
 have ax:=ac.dh J.size λb ap hp=>J.block b ap λhm=>by
  rcases hp with hp|hp
  .exact hp.1.2 hm
  .exact h.ne b hm hp
 refine⟨aY,ax.mono λb _ hp=>⟨hp.1.1,hp.2⟩,λb O ax=>?_⟩;rcases bn b O with ac|ac
 .exact h.ne b ac ax
 .have:=(h.two.lt ax).2;omega
end
theorem Gr.lit{P:Nat->Prop}{w:World}{e:TypeId}{z n:Nat}{cs:Array Value}{l:List D}(hl:l.length=n)(T:cs.size=n*z)(hn:n<=1000000)(a9:D.aO w (λb=>P b/\b<w.heap.size) l cs.toList):
  Gr P w.heap.size e z (w.alloc (.cells cs e)) (some ⟨w.heap.size,0,none⟩) n n l:=by
 refine⟨hl,cs.toList,World.ownsRow_lit w _ n (Lz _) (by unfold maxLen;omega) T,?_⟩;refine D.bV (λb O=>⟨O.1,by have:=O.2;simp;omega,λhc=>?_⟩) _ _ (D.bU (λb O=>Below.heap_alloc w _ b O.2) _ _ a9);simp[Value.ownBlock] at hc;have:=O.2;omega
def rX(g:Nat):World->Nat->List Value->World
 | V,_,[]=>V
 | V,i,v::vs=>rX g (V.setCell ⟨g,i,none⟩ v) (i+1) vs
def jm:Array Value->Nat->List Value->Array Value
 | cs,_,[]=>cs
 | cs,i,v::vs=>jm (cs.setIfInBounds i v) (i+1) vs
theorem mB:∀(vs:List Value) (i:Nat) (cs:Array Value),i+vs.length<=cs.size->(jm cs i vs).toList=cs.toList.take i++vs++cs.toList.drop (i+vs.length)
 | [],i,cs,_=>by simp[jm]
 | v::vs,i,cs,h=>by
  simp only[LP] at h;rw[jm,mB vs (i+1) _ (by simp;omega),Array.toList_setIfInBounds];have al:i<cs.toList.length:=by simp;omega
  rw[List.take_succ_eq_append_getElem (by simpa using al),List.take_set_of_le (Lz _),List.drop_set_of_lt ad];simp[Nat.add_assoc,Nat.add_comm 1]
theorem lr{g:Nat}{t:TypeId}:∀(vs:List Value) (i:Nat) (V:World) (cs:Array Value),ao V g t cs->ao (rX g V i vs) g t (jm cs i vs)
 | [],_,_,_,h=>h
 | _::vs,i,_,_,h=>lr vs (i+1) _ _ (h.aJ i _)
theorem kN{g:Nat}:∀(vs:List Value) (i:Nat) (V:World),Fr (λb=>b=g) V (rX g V i vs)
 | [],_,_=>Mg
 | _::vs,i,_=>Fr.trans ((Fr.refl (λb=>b=g) _).setCell (.inl rfl) _) (kN vs (i+1) _)
theorem bs{w X V:World}{t:TypeId}{cs:Array Value}(vs:List Value)(hs:cs.size=vs.length)(aS:ao V g t cs)(aF:Ext w V)(aY:w.heap.size<=g)(hX:rX g V 0 vs=X):
  ao X g t vs.toArray/\Ext w X/\Fr (λb=>b=g) V X:=by
 subst hX;have J:=kN (g:=g) vs 0 V;refine⟨?_,Fr.low (M:=λb=>b=g) (Fr.trans (Fr.mono aF λ_ h=>h.elim) J) λk aj=>by subst aj;exact aY,J⟩;have ac:=lr vs 0 V cs aS;have ax:jm cs 0 vs=vs.toArray:=by
  apply Array.toList_inj.1
  rw[mB vs 0 cs ad];simp;omega
 rwa [ax] at ac
end Go.Proofs.YtflecliffjbleaaGreat

/- Part 3 of the proof (Src SrcB TabB TabC LawE ValR Idx TabD TabE), without conditions of its own. -/
import Derived.Test.YtjhgbdckgkppnaaGreatQ02
namespace Go.Proofs.YtjhgbdckgkppnaaGreat
open Go.RowKit Go.Proofs.Tryz
set_option maxRecDepth 1000000
set_option maxHeartbeats 25600000
set_option linter.unusedVariables false
variable{e th threads:Int}{l:List Int}{xs:List Value}{X:List bF}{T:List ct}{base c k n s sz:Nat}{A:GR}{a ab b w:World}{hd:ct}
structure fk(s:Nat)(w ab:World):Prop where
 os:ab.os=w.os
 tape:ab.tape=w.tape
 output:ab.output=w.output
 size:w.heap.size≤ab.heap.size
 block:∀k,k<w.heap.size→k≠s→ab.heap[k]?=w.heap[k]?
theorem fk.refl(s:Nat)(w:World):fk s w w:=⟨rfl,rfl,rfl,Gb _,fun _ _ _=>rfl⟩
theorem fk.trans{s:Nat}{a b c:World}(h:fk s a b)(k:fk s b c):fk s a c:=
 ⟨k.os.trans h.os,k.tape.trans h.tape,k.output.trans h.output,Gu h.size k.size,fun i aJ hn=>(k.block i (Gc aJ h.size) hn).trans (h.block i aJ hn)⟩
theorem fk.of(h:Below a.heap.size a b):fk s a b:=⟨h.os,h.tape,h.output,h.size,fun k ap _=>h.block k ap⟩
theorem fk.below(h:fk s a b)(hs:s≤a.heap.size):Below s a b:=⟨h.os,h.tape,h.output,h.size,fun k ap=>h.block k ad ad⟩
theorem fk.setCell{s:Nat}{a b:World}(h:fk s a b)(j:Nat)(v:Value):fk s a (b.setCell ⟨s,j,none⟩ v):=by
 refine⟨h.os,h.tape,h.output,by simpa using h.size,fun k ap hn=>?_⟩;rw[Below.heap_setCell _ _ _ _ hn];exact h.block k ap hn
theorem fk.drew{s:Nat}{a b:World}(h:fk s a b):fk s a b.drew:=⟨h.os,h.tape,h.output,h.size,h.block⟩
theorem fk.cell{s:Nat}{a b:World}(h:fk s a b){k j:Nat}(ap:k<a.heap.size)(hn:k≠s):b.cell? ⟨k,j,none⟩=a.cell? ⟨k,j,none⟩:=World.cell?_of_block (h.block k ap hn)
structure bV(w:World)(s:Nat)(A:GR)(n c:Nat)(l:List Int):Prop where
 lt:s<w.heap.size
 c0:w.cell? ⟨s,0,none⟩=some (.slice A n c)
 c1:∃i:Nat,i≤n∧w.cell? ⟨s,1,none⟩=some (.int .i64 i)
 fz:w.frozen? ⟨s,1,none⟩=false
 ls:cG (EF dB) 1 w s A n l
 hn:n≤1000
theorem bV.on(h:bV w s A n c l)(O:Below w.heap.size w ab):bV ab s A n c l:=by
 have ao:=h.lt;refine⟨Gc h.lt O.size,?_,?_,?_,h.ls.d9 (O.mono ad),h.hn⟩
 ·exact(O.cell (p:=⟨s,0,none⟩) ao).trans h.c0
 ·obtain⟨i,aJ,hc⟩:=h.c1;exact⟨i,aJ,(O.cell (p:=⟨s,1,none⟩) ao).trans hc⟩
 ·exact(O.frozen (p:=⟨s,1,none⟩) ao).trans h.fz
def t6(w:World)(s:Nat)(A:GR)(n c:Nat)(l:List Int)(m:Int)(e:Ending)(ab:World):Prop:=
 ∃k,e=.returned (.int .i64 k)∧0≤k∧k<m∧bV ab s A n c l∧fk s w ab
theorem aN(w:World)(s:Nat)(A:GR)(n c:Nat)(l:List Int)(m:Int)(h:bV w s A n c l)(hm:0<m)(L:m≤4611686018427387904) :
  Calls prog 73 #[.pointer (some ⟨s,0,none⟩),.int .i64 m] w (t6 w s A n c l m):=by
 have H:=ae h;obtain⟨ao,M,⟨i,aJ,bn⟩,dh,ck,hn⟩:=h;by_cases aA:i<n
 case neg=>
  have q:decide ((i:Int)≥n)=true:=by simp;omega
  clear ck;go_enter func73,ntmps73;go_wp2;go_quiet (fail)
  go_wp2;go_ret;exact⟨0,rfl,ad,hm,H.on (dq (Below.refl _ _) _),.of (dq (Below.refl _ _) _)⟩
 have q:decide ((i:Int)≥n)=false:=by simp;omega
 obtain⟨b,o,x,rfl,O,hx,hc⟩:=ck.int aA;clear hx ck;go_enter func73,ntmps73;go_wp2;go_quiet (fail)
 go_wp2;obtain⟨h,av,e,f,aw⟩:bV ((w.drewN nq).setCell ⟨s,1,none⟩ (.int .i64 ((i:Int)+1))) s (some ⟨b,o,none⟩) n c l∧fk s w ((w.drewN nq).setCell ⟨s,1,none⟩ (.int .i64 ((i:Int)+1)))∧
   ((w.drewN nq).setCell ⟨s,1,none⟩ (.int .i64 ((i:Int)+1))).cell? ⟨s,0,none⟩=some (.slice (some ⟨b,o,none⟩) n c)∧((w.drewN nq).setCell ⟨s,1,none⟩ (.int .i64 ((i:Int)+1))).cell? ⟨s,1,none⟩=some (.int .i64 ((i:Int)+1))∧
   ((w.drewN nq).setCell ⟨s,1,none⟩ (.int .i64 ((i:Int)+1))).cell? ⟨b,o+i,none⟩=some (.int .i64 x):=by
  have d:=H.on (dq (Below.refl _ _) nq);have av:fk s w (w.drewN nq):=.of (dq (Below.refl _ _) nq);generalize w.drewN nq=v at *;have e0:(v.setCell ⟨s,1,none⟩ (.int .i64 ((i:Int)+1))).cell? ⟨s,0,none⟩=some (.slice (some ⟨b,o,none⟩) n c):=(World.cell?_setCell_other _ _ _ _ (by simp)).trans d.c0;have e1:(v.setCell ⟨s,1,none⟩ (.int .i64 ((i:Int)+1))).cell? ⟨s,1,none⟩=some (.int .i64 ((i:Int)+1)):=by
   obtain⟨k,_,ap⟩:=d.c1;simp[go_sem,ap]
  have cf:Below s v (v.setCell ⟨s,1,none⟩ (.int .i64 ((i:Int)+1))):=(Below.refl s v).setCell (p:=⟨s,1,none⟩) (Gb s) _;refine⟨⟨by simpa using d.lt,e0,⟨i+1,ad,by rw[e1];simp⟩,(World.frozen?_setCell _ _ _ _).trans d.fz,d.ls.d9 cf,d.hn⟩,av.setCell _ _,e0,e1,?_⟩;rw[cf.cell (by exact O),←hc];exact av.cell ad ad
 have cd:IntKind.i64.wrap ((i:Int)+1 - 1)=i:=by rw[show (i:Int)+1 - 1=i by omega];exact IntWalk.i64_in _ ad
 have u:=ai h av;clear h av H M bn hc dh;generalize (w.drewN nq).setCell ⟨s,1,none⟩ (.int .i64 ((i:Int)+1))=v at *;go_quiet (first|(go_at_call 49;refine Calls.quiet_of_same ((tY x m hm L _).mono fun _ _ h=>⟨h.1,h.2.symm⟩)))
 go_wp2;go_ret;have aX:=qK (x:=x) (n:=m) hm;exact⟨_,rfl,aX.1,aX.2,u.1.on (dq (Below.refl _ _) _),u.2.trans (.of (dq (Below.refl _ _) _))⟩
theorem bV.Ez{g:Nat}(h:bV w s A n c l)(O:Below g w ab)(hs:s<g):bV ab s A n c l:=by
 have ao:=h.lt;refine⟨Gc h.lt O.size,?_,?_,?_,h.ls.d9 (O.mono ad),h.hn⟩
 ·exact(O.cell (p:=⟨s,0,none⟩) hs).trans h.c0
 ·obtain⟨i,aJ,hc⟩:=h.c1;exact⟨i,aJ,(O.cell (p:=⟨s,1,none⟩) hs).trans hc⟩
 ·exact(O.frozen (p:=⟨s,1,none⟩) hs).trans h.fz
theorem fk.eg{aQ v:World}(h:fk s w aQ)(O:Below w.heap.size aQ v):fk s w v:=
 ⟨O.os.trans h.os,O.tape.trans h.tape,O.output.trans h.output,Gu h.size O.size,fun k ap hn=>(O.block k ap).trans (h.block k ap hn)⟩
theorem fk.frozen{s:Nat}{a b:World}(h:fk s a b){k j:Nat}(ap:k<a.heap.size)(hn:k≠s):b.frozen? ⟨k,j,none⟩=a.frozen? ⟨k,j,none⟩:=by
 simp only[World.frozen?,h.block k ap hn]
structure pQ(w:World)(s b:Nat):Prop where
 lt:b<w.heap.size
 ne:b≠s
 cs:∃u s1 s2,w.cell? ⟨b,0,none⟩=some (.string u)∧w.cell? ⟨b,1,none⟩=some (.string s1)∧w.cell? ⟨b,2,none⟩=some (.string s2)
theorem pQ.on{b:Nat}(h:pQ w s b)(he:fk s w ab):pQ ab s b:=by
 obtain⟨hl,hn,u,s1,s2,h0,ac,J⟩:=h;exact⟨Gc hl he.size,hn,u,s1,s2,(he.cell hl hn).trans h0,(he.cell hl hn).trans ac,(he.cell hl hn).trans J⟩
def VE.made:VE→Prop
 | .num n=>0≤n∧n<4611686018427387904
 | .ga _=>True
 | .loc _=>False
 | .hR _=>False
 | .un op x=>(op=3∨op=4)∧x.made
 | .bin op x y=>(5≤op∧op≤17)∧x.made∧y.made
theorem kL(w:World)(s:Nat)(A:GR)(n c:Nat)(l:List Int)(h:bV w s A n c l) :
  Calls prog 145 #[.pointer (some ⟨s,0,none⟩)] w (t6 w s A n c l 4611686018427387904):=by
 have H:=ae h;clear h;go_enter func145,ntmps145;go_wp2_with (fail);refine(aN _ s A n c l 8 H.o ad ad).mono ?_;rintro e aH ⟨k,rfl,aG,bF,ac,ar⟩;have H1:=ai ac ar;clear ac ar;by_cases ap:k=1
 ·have q:(k == 1)=true:=by simpa using ap
  go_wp2_with (fail);refine(aN _ s A n c l 4611686018427387904 H1.1 ad ad).mono ?_;rintro e aQ ⟨bZ,rfl,az,Q,J,bE⟩;have bk:=ai J bE;clear J bE;go_wp2;go_ret;exact⟨bZ,rfl,az,Q,bk.1,H1.2.trans bk.2⟩
 ·have q:(k == 1)=false:=by simpa using ap
  go_wp2_with (fail);refine(aN _ s A n c l 4 H1.1 ad ad).mono ?_;rintro e aQ ⟨bZ,rfl,az,Q,J,bE⟩;have bk:=ai J bE;clear J bE;go_wp2;go_ret;exact⟨bZ,rfl,az,ad,bk.1,H1.2.trans bk.2⟩
section
attribute [local go_sem ↓] fv fw
theorem ot{e:TypeId}(h:w.ownsRow base e sz (.slice A n c) n xs):n≤c∧(A=none→n=0):=by
 rcases h.2 with⟨bC,h0⟩|⟨g,cap,cur,bC,_,_,aL,_⟩
 ·injection bC with ac J aS;exact⟨ad,fun _=>h0⟩
 ·injection bC with ac J aS;subst ac aS;exact⟨aL,(fun h=>nomatch h)⟩
theorem tq(A:GR)(n c:Nat)(X:List bF)(w:World)(h:cG (EF hi) 3 w w.heap.size A n X)(ah:oQ X) :
  Calls prog 33 #[.slice A n c] w fun r ab=>∃az aG,r=.returned (.slice az (own X).length aG)∧(own X).length≤aG∧cG (EF dB) 1 ab ab.heap.size az (own X).length (own X)∧Below w.heap.size w ab:=by
 have hl:=h.1;have hn:=ah.1;go_enter func33,ntmps33;go_wp2;go_loopw [3,4] (fun v i wr=>∃k:Nat,k≤n∧i=.int .i64 k∧wr.ownsRow w.heap.size 3 1 v (hH X k).length ((hH X k).flatMap dB)∧Below w.heap.size w wr) (fun _ i _=>n - (intOf i).toNat)
 case atStart=>exact⟨0,Gz _,rfl,by rw[oo];exact World.ownsRow_nil _ _ _ _,Below.refl _ _⟩
 case round=>
  obtain⟨k,ap,rfl,I,O⟩:=hrel;by_cases ao:k<n
  ·have dr:∃m,X[k]?=some m:=⟨_,List.getElem?_eq_getElem ad⟩
   obtain⟨m,hm⟩:=dr;have bQ:=ah.at_ hm;have dr:=ae hm;clear hm;go_wp2;obtain⟨cu,rfl⟩:∃cu:World,cu=wr:=⟨_,rfl⟩
   go_loopw [3,5] (fun v i wr=>∃j:Nat,j≤m.oi∧i=.int .i64 j∧wr.ownsRow w.heap.size 3 1 v ((hH X k).length+j) ((hH X k++List.replicate j (k:Int)).flatMap dB)∧Below w.heap.size w wr) (fun _ i _=>m.oi - (intOf i).toNat)
   case atStart=>exact⟨0,Gz _,rfl,by simpa using I,O⟩
   case round=>
    obtain⟨j,ba,rfl,f,aN⟩:=hrel;clear I;obtain⟨b,o,b3,rfl,U,hm,c0,c1,c2⟩:=(h.d9 aN).E6 ao;obtain rfl:b3=m:=by have:=dr.o;rw[hm] at this;injection this
    have cf:=aN.size;have K:(b3.oi:Int)=max b3.size 1:=b3.qp;have a:=gV X k ad;have N:=ah.mW k;clear hm;by_cases T:j<b3.oi
    ·have u:(j:Int)<max b3.size 1:=ad;have z:(hH X k).length+j+1≤5000:=ad;have bB:=ae K;have cO:=ae a;clear K a;go_wp2_with (at_builtin;refine dM _ dj (by rfl) (.tmp 22) (.tmp 24) (by rfl) w.heap.size _ _ _ _ (by rfl) f (by rfl) (by rfl) (AW _ _) ad ad cf ?_;intro v1 aH t cg dC);go_roundw
     case rel=>
      refine⟨j+1,ad,by go_num,?_,gZ aN f cg (Gb _) cf⟩;rw[List.replicate_succ',←Gq,oZ];exact t
     case measure=>simp[intOf];omega
    ·obtain rfl:j=b3.oi:=ad;have a3:¬((b3.oi:Int)<max b3.size 1):=ad;have bB:=ae K;have cO:=ae a;clear K a;go_wp2;go_roundw
     case rel=>
      refine⟨k+1,ad,by go_num,?_,aN⟩;rw[i6 dr.o,Gd,List.length_replicate];exact f
     case measure=>simp[intOf];omega
  ·obtain rfl:k=n:=ad;obtain⟨cC,c1,rfl,bn,_,_,_⟩:=bT I;have b0:=ae hl;clear hl;go_wp2;go_ret;have he:own X=hH X k:=by unfold own;rw[b0.o]
   rw[he];exact⟨_,_,rfl,bn,lv I (n8 _) rfl,O⟩
end
section
attribute [local go_sem ↓] fv fw
def i2(T:List ct)(e:Int):ct:=(T[e.toNat]?).getD ⟨0,0⟩
def tw(X:List bF)(i:Int):Bool:=((X[i.toNat]?).map bF.re).getD false
def free(X:List bF)(T:List ct)(e th:Int):Bool:=
 decide (0≤bG X e∧0≤th) && ((i2 T e).owner == 0 || ((i2 T e).owner == th+1 && tw X (bG X e)))
def heldBy(X:List bF)(T:List ct)(e th:Int):Bool:=decide (0≤bG X e∧0≤th) && (i2 T e).owner == th+1
def gO(X:List bF)(T:List ct)(e th:Int):List ct:=if free X T e th then T.set e.toNat ⟨th+1,(i2 T e).depth+1⟩ else T
def down(h:ct):ct:=⟨if h.depth - 1=0 then 0 else h.owner,h.depth - 1⟩
def dD(X:List bF)(T:List ct)(e th:Int):List ct:=if heldBy X T e th then T.set e.toNat (down (i2 T e)) else T
structure Ex(X:List bF)(T:List ct):Prop where
 len:T.length=(own X).length
 bound:∀h∈T,0≤h.owner∧h.owner≤1000000000∧0≤h.depth∧h.depth≤1000000000
theorem Ex.at_(h:Ex X T)(he:0≤bG X e):∃k m hd,e=(k:Nat)∧k<T.length∧T[k]?=some hd∧i2 T e=hd∧bG X e=(m:Nat)∧m<X.length:=by
 obtain⟨h0,ac⟩:=e7.1 he;obtain⟨i,t,aJ,hm,_⟩:=lk he;obtain⟨k,rfl⟩:=Gg h0;have hl:=eY X;have ap:k<T.length:=by rw[h.len];omega
 exact⟨k,i,T[k],rfl,ap,List.getElem?_eq_getElem ap,by unfold i2;rw[Gy,List.getElem?_eq_getElem ap];rfl,aJ,(List.getElem?_eq_some_iff.1 hm).1⟩
theorem n2(h:¬(0≤bG X e∧0≤th)):free X T e th=false:=by
 unfold free;rw[decide_eq_false h];rfl
theorem kF(h:¬(0≤bG X e∧0≤th)):heldBy X T e th=false:=by
 unfold heldBy;rw[decide_eq_false h];rfl
theorem gT(X:List bF)(T:List ct)(e th:Int):(gO X T e th).length=T.length:=by
 unfold gO;split<;>simp
theorem fD(X:List bF)(T:List ct)(e th:Int):(dD X T e th).length=T.length:=by
 unfold dD;split<;>simp
theorem Ax(A A2:GR)(n c bl c2:Nat)(X:List bF)(T:List ct)(e th:Int)(w:World)(h:cG (EF hi) 3 w w.heap.size A n X)(ah:oQ X)
  (ht:cG (EF bZ) 2 w w.heap.size A2 bl T) (aR:Ex X T) (he:e≤9223372036854775807) (M:th≤4611686018427387904) :
  Calls prog 120 #[.slice A n c,.slice A2 bl c2,.int .i64 e,.int .i64 th] w fun r ab=>r=.returned (.bool (free X T e th))∧Below w.heap.size w ab:=by
 go_enter func120,ntmps120;go_wp2_with (fail);refine(mA A n c X e w h ah he).mono ?_;rintro r aH ⟨rfl,O⟩;by_cases hm:0≤bG X e
 case neg=>
  have aZ:=ae (show free X T e th=false from n2 ad);have aU:bG X e<0:=ad;clear hm;exact qS
 obtain⟨k,m,hd,rfl,ap,z,f,P,l⟩:=aR.at_ hm;rw[P];have aY:k<bl:=by have:=ht.1;omega
 have bX:m<n:=by have:=h.1;omega
 by_cases h0:0≤th
 case neg=>
  have aZ:=ae (show free X T k th=false from n2 ad);have j:th<0:=ad;clear h0 z f P;exact qS
 obtain⟨b,o,C,rfl,U,hx,c0,c1⟩:=(ht.d9 O).hold aY;obtain rfl:hd=C:=by rw[z] at hx;injection hx
 obtain⟨K,V,mx,rfl,g,a,a6,ca,aP⟩:=(h.d9 O).E6 bX;have b1:=aR.bound hd (Ge z);have aa:tw X m=mx.re:=by unfold tw;rw[Gy,a];rfl
 have bL:free X T k th=(hd.owner == 0 || (hd.owner == th+1 && mx.re)):=by
  unfold free;rw[decide_eq_true ⟨hm,h0⟩,f,P,aa,Bool.true_and]
 have aZ:=ae bL;clear bL hx a z f P hm aa;by_cases bi:hd.owner=0
 ·have cO:=ae bi;have dg:(hd.owner == 0)=true:=by simpa using bi
  clear bi;go_wp2;go_ret;exact⟨ret_bool (by rw[aZ.o,cO.o];rfl),O⟩
 have dg:(hd.owner == 0)=false:=by simpa using bi
 by_cases b3:hd.owner=th+1
 ·have cO:=ae b3;have d:=ae dg;have i:(hd.owner - 1 == th)=true:=by simp;omega
  exact wB
 ·have cO:=ae (show (hd.owner == th+1)=false by simpa using b3);have d:=ae dg;have i:(hd.owner - 1 == th)=false:=by simp;omega
  exact wB
theorem lS(A:GR)(n c:Nat)(T:List ct)(w:World)(ht:cG (EF bZ) 2 w w.heap.size A n T)(hn:n≤5000) :
  Calls prog 89 #[.slice A n c] w fun r ab=>∃az aG,r=.returned (.slice az n aG)∧ab.ownsRow w.heap.size 87 2 (.slice az n aG) n (T.flatMap bZ)∧Below w.heap.size w ab:=by
 have heq:=fun W=>pI (P:=prog) W 37 87 A n c 0 0 Tryz.underlying37;rcases A with _|a
 ·have u:n=0:=by
   rcases Nat.eq_zero_or_pos n with h0|h0
   ·exact h0
   ·obtain⟨b,o,h,_⟩:=ht.2 h0;cases h
  subst u;have aR:T=[]:=List.eq_nil_of_length_eq_zero ht.1;subst aR;go_enter func89,ntmps89;exact wF
 ·have aC:=Src.ru ht (g4 T) (vC T) ad;go_enter func89,ntmps89;go_wp2_with (at_builtin;refine mJ _ p1 (by rfl) (.tmp 5) (.tmp 6) (by rfl) (by rfl) _ _ _ _ (by rfl) aC ad ad (fun h=>nomatch h) ?_;intro cC c1 aH t bQ);go_ret;exact⟨cC,c1,rfl,t,bQ⟩
theorem lr{a:Nat}{e:TypeId}{v:Value}(h:w.ownsRow base e sz v n xs)(O:a≤base):w.ownsRow a e sz v n xs:=by
 refine⟨h.1,?_⟩;rcases h.2 with J|⟨g,cap,cur,rfl,j,rest⟩
 ·exact .inl J
 ·exact .inr ⟨g,cap,cur,rfl,ad,rest⟩
def hg(w:World)(T:List ct)(b:Bool)(r:Ending)(ab:World):Prop:=
 ∃az aG,r=.returned (.tuple #[.slice az T.length aG,.bool b])∧ab.ownsRow w.heap.size 87 2 (.slice az T.length aG) T.length (T.flatMap bZ)∧Below w.heap.size w ab
theorem hg.mk'{b K:Bool}(hn:T.length=n)(I:ab.ownsRow w.heap.size 87 2 (.slice A n c) n (T.flatMap bZ))(O:Below w.heap.size w ab)(U:b=K):
  hg w T b (.returned (.tuple #[.slice A n c,.bool K])) ab:=by
 subst hn U;exact⟨A,c,rfl,I,O⟩
theorem hg.open_{b:Bool}{r:Ending}(h:hg w T b r ab)(hn:T.length=n):
  ∃az aG,r=.returned (.tuple #[.slice az n aG,.bool b])∧n≤aG∧cG (EF bZ) 2 ab ab.heap.size az n T∧ab.ownsRow w.heap.size 87 2 (.slice az n aG) n (T.flatMap bZ)∧Below w.heap.size w ab:=by
 subst hn;obtain⟨A,c,aX,I,O⟩:=h;exact⟨A,c,aX,(ot I).1,lv I (g4 T) rfl,I,O⟩
theorem lu(h:w.ownsRow base 87 2 (.slice A n c) n (T.flatMap bZ))(ap:k<n)(hx:T[k]?=some hd):
  ∃g,A=some ⟨g,0,none⟩∧base≤g∧g<w.heap.size∧w.cell? ⟨g,k*2,none⟩=some (.int .i64 hd.owner)∧w.cell? ⟨g,k*2+1,none⟩=some (.int .i64 hd.depth)∧(∀j,w.frozen? ⟨g,j,none⟩=false)∧
   (∀x,(w.setCell ⟨g,k*2,none⟩ (.int .i64 x)).ownsRow base 87 2 (.slice A n c) n ((T.set k ⟨x,hd.depth⟩).flatMap bZ))∧
   (∀x,(w.setCell ⟨g,k*2+1,none⟩ (.int .i64 x)).ownsRow base 87 2 (.slice A n c) n ((T.set k ⟨hd.owner,x⟩).flatMap bZ)):=by
 obtain⟨g,bb,O,ao,hc,aw,hs⟩:=j9 h ad;have h0:=eT bZ 2 T (g4 T) k hd hx 0 ad;have ac:=eT bZ 2 T (g4 T) k hd hx 1 ad;refine⟨g,bb,O,ao,hc _ _ h0,hc _ _ ac,aw,fun x=>?_,fun x=>?_⟩
 ·rw[←iY bZ 2 T (g4 T) k hd hx 0 (.int .i64 x) ⟨x,hd.depth⟩ ad rfl];exact hs _ _ ad
 ·rw[←iY bZ 2 T (g4 T) k hd hx 1 (.int .i64 x) ⟨hd.owner,x⟩ ad rfl];exact hs _ _ ad
theorem AM(A A2:GR)(n c bl c2:Nat)(X:List bF)(T:List ct)(e th:Int)(w:World)(h:cG (EF hi) 3 w w.heap.size A n X)(ah:oQ X)
  (ht:cG (EF bZ) 2 w w.heap.size A2 bl T) (aR:Ex X T) (he:e≤9223372036854775807) (M:th≤4611686018427387904) :
  Calls prog 92 #[.slice A n c,.slice A2 bl c2,.int .i64 e,.int .i64 th] w (hg w (gO X T e th) (free X T e th)):=by
 have bR:=ht.1;have cE:bl≤5000:=by have:=dy ah;have:=aR.len;omega
 have t:=gT X T e th;generalize aT:gO X T e th=L at *;have a4:=ae aT;clear aT;rw[bR] at t;have R:=ae t;clear t;go_enter func92,ntmps92;go_wp2_with (fail);refine(lS A2 bl c2 T w ht cE).mono ?_;rintro r aH ⟨cC,c1,rfl,I,O⟩;go_wp2_with (fail);have F:=h.cZ O O.size;have j:=ht.cZ O O.size;refine(Ax A A2 n c bl c2 X T e th aH F ah j aR he M).mono ?_;rintro r aQ ⟨rfl,bt⟩;have cf:=O.size;have de:=O.trans (bt.mono O.size);have d:=cn I bt
 cases aw:free X T e th with
 | false=>
  go_wp2
  go_ret2
  have ca:L=T:=by rw[←a4.o];unfold gO;rw[aw];rfl
  exact hg.mk' R.o (by rw[ca];exact d) de aw
 | true=>
  have hm:0≤bG X e∧0≤th:=by
   by_cases aj:0≤bG X e∧0≤th
   ·exact aj
   ·rw[n2 aj] at aw;cases aw
  obtain⟨k,m,hd,rfl,ap,z,f,P,l⟩:=aR.at_ hm.1;have aY:k<bl:=ad;have b1:=aR.bound hd (Ge z);obtain⟨b,o,C,rfl,U,hx,c0,cJ⟩:=(ht.d9 de).hold aY;obtain rfl:hd=C:=by rw[z] at hx;injection hx
  obtain⟨g,rfl,aM,dB,e0,e1,S,u,s1⟩:=lu d aY z;have s:=S (k*2);have v:=S (k*2+1);have ca:L=T.set k ⟨th+1,hd.depth+1⟩:=by rw[←a4.o];unfold gO;rw[aw,f];rfl
  have b0:=ae ca;have bW:=ae aw;have an:=hm.2;have a:=ae (u (th+1));clear hx z f P ca aw hm u s1 S bR;go_wp2
  go_ret2
  refine hg.mk' (A:=some ⟨g,0,none⟩) (c:=c1) (n:=bl) R.o ?_ ?_ bW.o
  ·rw[b0.o];have bV:(T.set k ⟨th+1,hd.depth⟩)[k]?=some ⟨th+1,hd.depth⟩:=by rw[List.getElem?_set_self ad]
   obtain⟨ai,i,_,_,_,_,_,_,s1⟩:=lu a.o aY bV;injection i with i;injection i with i;subst i;have:=s1 (hd.depth+1);rw[List.set_set] at this;exact this
  ·exact(de.setCell (by simpa using aM) _).setCell (by simpa using aM) _
theorem tT(A A2:GR)(n c bl c2:Nat)(X:List bF)(T:List ct)(e th:Int)(w:World)(ah:oQ X)
  (ht:cG (EF bZ) 2 w w.heap.size A2 bl T) (aR:Ex X T) (M:th≤4611686018427387904) :
  Calls prog 93 #[.slice A n c,.slice A2 bl c2,.int .i64 e,.int .i64 th] w (hg w (dD X T e th) (heldBy X T e th)):=by
 have bR:=ht.1;have cE:bl≤5000:=by have:=dy ah;have:=aR.len;omega
 have t:=fD X T e th;have hlen:(bl:Int)=elems X:=by rw[←eY,←aR.len,bR]
 generalize aT:dD X T e th=L at *;have a4:=ae aT;have bB:=ae hlen;clear aT hlen;rw[bR] at t;have R:=ae t;clear t;go_enter func93,ntmps93;go_wp2_with (fail);refine(lS A2 bl c2 T w ht cE).mono ?_;rintro r aH ⟨cC,c1,rfl,I,O⟩;have cf:=O.size;have no:heldBy X T e th=false→L=T:=fun h=>by rw[←a4.o];unfold dD;rw[h];rfl
 by_cases ac:0≤e
 case neg=>
  have aw:heldBy X T e th=false:=kF (fun aj=>ac (e7.1 aj.1).1);have b0:=ae (no aw);have bW:=ae aw;have co:e<0:=ad;clear ac no aw bR;go_wp2
  go_ret2
  exact um
 by_cases J:e<bl
 case neg=>
  have aw:heldBy X T e th=false:=kF (fun aj=>by have:=(e7.1 aj.1).2;have:=bB.o;omega);have b0:=ae (no aw);have bW:=ae aw;have B:(bl:Int)≤e:=ad;clear J no aw bR;go_wp2
  go_ret2
  exact um
 have hm:0≤bG X e:=kJ ac (aB bB.o);obtain⟨k,m,hd,rfl,ap,z,f,P,l⟩:=aR.at_ hm;have aY:k<bl:=ad;by_cases aS:0≤th
 case neg=>
  have aw:heldBy X T k th=false:=kF ad;have b0:=ae (no aw);have bW:=ae aw;have a:th<0:=ad;clear aS no aw bR z f P hm;go_wp2
  go_ret2
  exact um
 have b1:=aR.bound hd (Ge z);obtain⟨b,o,C,rfl,U,hx,c0,cJ⟩:=(ht.d9 O).hold aY;obtain rfl:hd=C:=by rw[z] at hx;injection hx
 by_cases bo:hd.owner=th+1
 case neg=>
  have aw:heldBy X T k th=false:=by
   unfold heldBy;rw[f,show (hd.owner == th+1)=false by simpa using bo];simp
  have b0:=ae (no aw);have bW:=ae aw;have d:(hd.owner - 1 != th)=true:=by simp;omega
  clear bo no aw bR z f P hm hx;go_wp2
  go_ret2
  exact um
 have aw:heldBy X T k th=true:=by
  unfold heldBy;rw[f,show (hd.owner == th+1)=true by simpa using bo,decide_eq_true ⟨hm,aS⟩];rfl
 have d:(hd.owner - 1 != th)=false:=by simp;omega
 obtain⟨g,rfl,aM,dB,e0,e1,S,u,s1⟩:=lu I aY z;have s:=S (k*2);have v:=S (k*2+1);have ca:L=T.set k (down hd):=by rw[←a4.o];unfold dD;rw[aw,f];rfl
 have b0:=ae ca;have bW:=ae aw;have y:=ae (s1 (hd.depth - 1));have Q:=ae z;clear hx z f P ca aw hm u s1 S bR no bo;by_cases cr:hd.depth - 1=0
 ·have j:(hd.depth - 1 == 0)=true:=by simpa using cr
  have c4:=ae cr;clear cr;go_wp2
  go_ret2
  refine hg.mk' (A:=some ⟨g,0,none⟩) (c:=c1) (n:=bl) R.o ?_ ?_ bW.o
  ·rw[b0.o,down,if_pos c4.o];have bV:(T.set k ⟨hd.owner,hd.depth - 1⟩)[k]?=some ⟨hd.owner,hd.depth - 1⟩:=by rw[List.getElem?_set_self ad]
   obtain⟨ai,i,_,_,_,_,_,u,_⟩:=lu y.o aY bV;injection i with i;injection i with i;subst i;have:=u 0;rw[List.set_set] at this;exact this
  ·exact(O.setCell (by simpa using aM) _).setCell (by simpa using aM) _
 ·have j:(hd.depth - 1 == 0)=false:=by simpa using cr
  have c4:=ae cr;clear cr;go_wp2
  go_ret2
  refine hg.mk' (A:=some ⟨g,0,none⟩) (c:=c1) (n:=bl) R.o ?_ ?_ bW.o
  ·rw[b0.o,down,if_neg c4.o];exact y.o
  ·exact O.setCell (by simpa using aM) _
end
section
attribute [local go_sem ↓] fv fw
def Fits(n:Int):Prop:=-9223372036854775808≤n∧n≤9223372036854775807
theorem mL(n:Int):Fits (wrap64 n):=by unfold Fits wrap64;omega
theorem kQ(b:Bool):Fits (gj b):=by cases b<;>(unfold Fits gj;decide)
def VE.fit:VE→Prop
 | .num n=>Fits n
 | .ga _=>True
 | .loc _=>True
 | .hR _=>True
 | .un _ x=>x.fit
 | .bin _ x y=>x.fit∧y.fit
theorem vN(a b:Int)(aV:Fits a):Fits (a.tmod b):=by
 have c:=Int.natAbs_tmod a b;have hle:a.natAbs % b.natAbs≤a.natAbs:=Nat.mod_le _ _;rw[←c] at hle;unfold Fits at *;rcases Int.lt_trichotomy a 0 with h|h|h
 ·have J:=Int.tmod_nonneg b (show 0≤-a by omega);rw[Int.neg_tmod] at J;generalize a.tmod b=r at *;omega
 ·subst h;simp
 ·have J:=Int.tmod_nonneg b (show 0≤a by omega);generalize a.tmod b=r at *;omega
theorem hb:Fits 0:=by unfold Fits;decide
theorem AY:Fits 1:=by unfold Fits;decide
theorem sK(op a b:Int)(aV:Fits a):Fits (arith op a b).1:=by
 unfold arith
 repeat' split
 all_goals first|exact mL _|exact kQ _|exact vN _ _ aV|exact hb
theorem pt{g:List Int}(aM:∀x∈g,Fits x)(k:Nat):Fits (g.getD k 0):=by
 rw[List.getD_eq_getElem?_getD]
 cases h:g[k]? with
 | none=>exact hb
 | some v=>exact aM v (Ge h)
theorem uE{g l:List Int}(aM:∀x∈g,Fits x)(hl:∀x∈l,Fits x):∀e:VE,e.fit→Fits (ev g l e).1
 | .num _,h=>h
 | .ga _,_=>hb
 | .loc _,_=>pt hl _
 | .hR _,_=>pt aM _
 | .un op x,_=>by
  rw[ev]
  repeat' split
  all_goals first|exact hb|exact mL _|exact kQ _
 | .bin op x y,h=>by
  rw[ev]
  repeat' split
  all_goals first|exact hb|exact AY|exact kQ _|exact sK _ _ _ (uE aM hl x h.1)
structure vZ(g l:List Int)(e:VE):Prop where
 fg:∀x∈g,Fits x
 fl:∀x∈l,Fits x
 fe:e.fit
end
def idx(ms:Int)(r:Int×Int):Int×Int:=if r.2≠0 then (0,r.2) else if r.1<0∨ms≤r.1 then (0,2) else (r.1,0)
structure CM(w:World)(MA:GR)(mn:Nat)(X:List bF)(G L:GR)(ng nl:Nat)(g l:List Int)(e:VE)(i:Nat)(m:bF)(b o:Nat)(c0 c1 c2 c3:Value):Prop where
 ev:kU w G L ng nl g l e [c0,c1,c2,c3]
 ms:cG (EF hi) 3 w w.heap.size MA mn X
 i1:i<mn
 hm:X[i]?=some m
 bl:b<w.heap.size
 e0:w.cell? ⟨b,o,none⟩=some c0
 e1:w.cell? ⟨b,o+1,none⟩=some c1
 e2:w.cell? ⟨b,o+2,none⟩=some c2
 e3:w.cell? ⟨b,o+3,none⟩=some c3
theorem cG.FH{B:Nat}{l:List bF}(h:cG (EF hi) 3 w B A n l)(ap:k<n):
  ∃b o m,A=some ⟨b,o,none⟩∧b<B∧l[k]?=some m∧w.cell? ⟨b,o+k*3,none⟩=some (.string m.name)∧w.cell? ⟨b,o+k*3+1,none⟩=some (.bool m.re)∧w.cell? ⟨b,o+k*3+2,none⟩=some (.int .i64 m.size):=by
 obtain⟨b,o,x,bb,O,hx,_,hc⟩:=h.EU ap;exact⟨b,o,x,bb,O,hx,hc 0 _ rfl,hc 1 _ rfl,hc 2 _ rfl⟩
theorem u2(w:World)(MA:GR)(mn mc:Nat)(X:List bF)(G L:GR)(ng nl cg cl:Nat)(g l:List Int)(e:VE)(i:Nat)(m:bF)(b o pc:Nat)(c0 c1 c2 c3:Value)
  (h:CM w MA mn X G L ng nl g l e i m b o c0 c1 c2 c3) :
  Calls prog 68 #[.agg #[.bool false,.int .i64 i,.slice (some ⟨b,o,none⟩) 1 pc],.slice MA mn mc,.slice G ng cg,.slice L nl cl] w (jn w (idx m.size (ev g l e))):=by
 have av:Ext w (w.alloc (.cells #[.bool false,.int .i64 i,.slice (some ⟨b,o,none⟩) 1 pc] 57)):=GN.alloc _;have a:ag (w.alloc (.cells #[.bool false,.int .i64 i,.slice (some ⟨b,o,none⟩) 1 pc] 57)) w.heap.size 57 #[.bool false,.int .i64 i,.slice (some ⟨b,o,none⟩) 1 pc]:=GO;obtain⟨V,H,c5,hm,R,e0,e1,e2,e3⟩:=h;obtain⟨hY,bG,b3,rfl,b9,aU,fn,aF,eL⟩:=H.FH c5;have P:b3=m:=by rw[hm] at aU;injection aU with h;exact h.symm
 subst P;have co:decide ((i:Int)<0)=false:=by simp
 have ej:decide (i≥mn)=false:=by simp;omega
 have c:decide (mn≤i)=false:=by simp;omega
 have cT:(0:Int)≤(i:Int):=ad;have c7:(i:Int)<(mn:Int):=ad;have bs:=ae (V.on (Fr.ext av));clear hm aU V H;go_enter func68,ntmps68;go_wp2_with (fail);have cH:=(av.cell (j:=o) R (fun h=>h)).trans e0;have cm:=(av.cell (j:=o+1) R (fun h=>h)).trans e1;generalize w.alloc (.cells #[.bool false,.int .i64 i,.slice (some ⟨b,o,none⟩) 1 pc] 57)=W at *;refine(nr e W G L ng nl cg cl g l _ _ _ _ bs.o).mono ?_;rintro r aH ⟨rfl,bQ⟩;have aI:Ext w aH:=av.trans (Fr.of bQ);obtain⟨p0,a2,dh⟩:=(a.al (Fr.of bQ)).two;have gN:=(aI.cell (j:=bG+i*3+2) b9 (fun h=>h)).trans eL;have bp:=ae aI;clear av aI a e0 e1 e2 e3 fn aF eL cH cm bQ;generalize ev g l e=r at *;obtain⟨v,f⟩:=r;by_cases aw:f=0
 case neg=>
  have bb:(f != 0)=true:=by simpa using aw
  have cW:=ae (show idx b3.size (v,f)=(0,f) by unfold idx;rw[if_pos aw]);clear aw;go_wp2
  go_ret2
  exact jn.mk' cW.o (Fr.ext bp.o)
 have bb:(f != 0)=false:=by simpa using aw
 by_cases bC:v<0
 ·have c6:decide (v<0)=true:=by simpa using bC
  have cW:=ae (show idx b3.size (v,f)=(0,2) by unfold idx;rw[if_neg (by simpa using aw),if_pos (.inl bC)]);clear aw bC;go_wp2
  go_ret2
  exact jn.mk' cW.o (Fr.ext bp.o)
 have c6:decide (v<0)=false:=by simpa using bC
 by_cases u:b3.size≤v
 ·have az:decide (v≥b3.size)=true:=by simpa using u
  have cW:=ae (show idx b3.size (v,f)=(0,2) by unfold idx;rw[if_neg (by simpa using aw),if_pos (.inr u)]);clear aw bC u;go_wp2
  go_ret2
  exact jn.mk' cW.o (Fr.ext bp.o)
 ·have az:decide (v≥b3.size)=false:=by simpa using u
  have cW:=ae (show idx b3.size (v,f)=(v,0) by unfold idx;rw[if_neg (by simpa using aw),if_neg ad]);clear aw bC u;go_wp2
  go_ret2
  exact jn.mk' cW.o (Fr.ext bp.o)
theorem r5(w:World)(i:Int)(A:GR)(pc:Nat)(b:Bool)(m g l:Value):Calls prog 68 #[.agg #[.bool b,.int .i64 i,.slice A 0 pc],m,g,l] w (jn w (0,0)):=by
 go_enter func68,ntmps68;go_wp2
 go_ret2
 exact jn.mk' rfl ((Below.refl _ _).alloc (Gb _) _)
section
attribute [local go_sem ↓] fv fw
theorem uN(a b c d:Int)(w:World):(binOp .neq 87 (.agg #[.int .i64 a,.int .i64 b]) (.agg #[.int .i64 c,.int .i64 d])).run prog w=.ok (.bool (decide (a≠c∨b≠d))) w:=by
 exact wK
theorem B4(a b c d:Int)(w:World):(binOp .eql 87 (.agg #[.int .i64 a,.int .i64 b]) (.agg #[.int .i64 c,.int .i64 d])).run prog w=.ok (.bool (decide (a=c∧b=d))) w:=by
 exact wK
namespace zs
theorem pW{p:Prop}(h:p:=by
 go_enter func31,ntmps31;exact uk
 ):p:=h
end zs
open zs in
theorem Bc(A A2:GR)(n c bl c2:Nat)(S T:List ct)(w:World)(hs:cG (EF bZ) 2 w w.heap.size A n S)(ht:cG (EF bZ) 2 w w.heap.size A2 bl T)(hn:n≤140737488355328) :
  Calls prog 31 #[.slice A n c,.slice A2 bl c2] w fun r ab=>r=.returned (.bool (decide (S=T)))∧Below w.heap.size w ab:=by
 have hl:=hs.1;have bR:=ht.1;by_cases a2:n=bl
 case neg=>
  exact pV
 subst a2;have b0:=ae hl;have ak:=ae bR;clear hl bR;have a8:((n:Int) != (n:Int))=false:=by simp
 go_enter func31,ntmps31;go_wp2;go_loopw [5] (fun i wr=>∃k:Nat,k≤n∧i=.int .i64 k∧(∀j,j<k→S[j]?=T[j]?)∧Below w.heap.size w wr) (fun i _=>n - (intOf i).toNat)
 case atStart=>exact⟨0,Gz _,rfl,fun j ba=>absurd ba ad,Below.refl _ _⟩
 case round=>
  obtain⟨k,ap,rfl,cr,O⟩:=hrel;have aO:=ae cr;clear cr;by_cases ao:k<n
  ·obtain⟨b,o,x,rfl,U,hx,c0,c1⟩:=(hs.d9 O).hold ao;obtain⟨K,V,d,rfl,g,a,a6,ca⟩:=(ht.d9 O).hold ao;have aG:(0:Int)≤(k:Int):=ad;have bF:(k:Int)<(n:Int):=ad;have e:=uN;by_cases hd:x.owner≠d.owner∨x.depth≠d.depth
   ·have aZ:=ae (show decide (S=T)=false from decide_eq_false (fun h=>by
     subst h;rw[hx] at a;injection a with a;subst a;simp at hd))
    have C:decide (x.owner≠d.owner∨x.depth≠d.depth)=true:=decide_eq_true hd;exact De
   ·have aU:=ae (show S[k]?=T[k]? by
     have ac:x.owner=d.owner:=by
      by_cases aj:x.owner=d.owner
      ·exact aj
      ·exact absurd (.inl aj) hd
     have J:x.depth=d.depth:=by
      by_cases aj:x.depth=d.depth
      ·exact aj
      ·exact absurd (.inr aj) hd
     rw[hx,a];congr 1
     cases x;cases d
     simp_all)
    have C:decide (x.owner≠d.owner∨x.depth≠d.depth)=false:=decide_eq_false hd;exact C3
  ·obtain rfl:k=n:=ad;exact ud
def EW(X:List bF)(T:List ct)(m th:Int)(i:Nat):Int:=if (own X)[i]?=some m∧(i2 T i).owner=th+1∧0≤th then (i2 T i).depth else 0
def Dy(X:List bF)(T:List ct)(m th:Int):Nat→Int
 | 0=>0
 | k+1=>Dy X T m th k+EW X T m th k
def depth(X:List bF)(T:List ct)(m th:Int):Int:=Dy X T m th (own X).length
end
section
attribute [local go_sem ↓] fv fw
def d6(X:List bF)(threads:Int)(i:Nat)(h:ct):Bool:=
 !(decide (h.owner<0) || decide (threads<h.owner) || ((h.owner == 0) != (h.depth == 0)) || decide (h.depth<0) || (decide (1<h.depth) && !tw X (bG X i)))
def f8(X:List bF)(T:List ct)(threads:Int):Bool:=decide (T.length=(own X).length) && (List.range T.length).all fun i=>d6 X threads i (i2 T i)
theorem tV(h:T.length≠(own X).length):f8 X T threads=false:=by
 unfold f8;rw[decide_eq_false h];rfl
theorem tU(hx:T[k]?=some hd)(h:d6 X threads k hd=false):f8 X T threads=false:=by
 unfold f8;have ap:=(List.getElem?_eq_some_iff.1 hx).1;have bb:i2 T (k:Int)=hd:=by unfold i2;rw[Gy,hx];rfl
 rw[Bool.and_eq_false_iff];right;rw[List.all_eq_false];exact⟨k,List.mem_range.2 ap,by rw[bb,h];simp⟩
theorem mH(hl:T.length=(own X).length)(h:∀k hd,T[k]?=some hd→d6 X threads k hd=true):f8 X T threads=true:=by
 unfold f8;rw[decide_eq_true hl,Bool.true_and,List.all_eq_true];intro k ap;have ap:=List.mem_range.1 ap;refine h k _ ?_;unfold i2;rw[Gy,List.getElem?_eq_getElem ap];rfl
theorem vQ(A A2:GR)(n c bl c2:Nat)(X:List bF)(T:List ct)(th:Int)(w:World)(h:cG (EF hi) 3 w w.heap.size A n X)(ah:oQ X)
  (ht:cG (EF bZ) 2 w w.heap.size A2 bl T) :
  Calls prog 40 #[.slice A n c,.slice A2 bl c2,.int .i64 th] w fun r ab=>r=.returned (.bool (f8 X T th))∧Below w.heap.size w ab:=by
 have hl:=h.1;have bR:=ht.1;have z:=dy ah;have f:=eY X;go_enter func40,ntmps40;go_wp2_with (fail);refine(gR A n c X w h ah).mono ?_;rintro r aH ⟨rfl,O⟩;rw[←f];generalize cj:(own X).length=N at *;by_cases a2:bl=N
 case neg=>
  have aZ:=ae (show f8 X T th=false from tV ad);have s:(bl != N)=true:=by simpa using a2
  have l:((bl:Int) != (N:Int))=true:=by simp;omega
  clear hl bR cj f a2;exact qS
 subst a2;have b0:=ae (show T.length=(own X).length by omega);have y:=ae f;have ak:=ae bR;have v:=ae hl;clear hl bR cj f;have a8:((bl:Int) != (bl:Int))=false:=by simp
 go_wp2;go_loopw [16] (fun i wr=>∃k:Nat,k≤bl∧i=.int .i64 k∧(∀j hd,j<k→T[j]?=some hd→d6 X th j hd=true)∧Below w.heap.size w wr) (fun i _=>bl - (intOf i).toNat)
 case atStart=>exact⟨0,Gz _,rfl,fun j hd ba=>absurd ba ad,O⟩
 case round=>
  obtain⟨k,ap,rfl,cr,aN⟩:=hrel;have aO:=ae cr;clear cr;by_cases ao:k<bl
  ·obtain⟨b,o,hd,rfl,U,hx,c0,c1⟩:=(ht.d9 aN).hold ao;have cf:=aN.size;have aU:=ae hx;have d:GU (d6 X th k hd=false→f8 X T th=false):=ae fun ac=>tU aU.o ac;clear hx;by_cases e1:hd.owner<0
   ·have aZ:=ae (d.o (by unfold d6;simp[e1]));exact qU
   by_cases e2:th<hd.owner
   ·have aZ:=ae (d.o (by unfold d6;simp[e2]));exact qU
   by_cases aF:hd.owner=0
   ·have b4:(hd.owner == 0)=true:=by simpa using aF
    by_cases eL:hd.depth=0
    ·have g2:(hd.depth == 0)=true:=by simpa using eL
     have bw:=ae (show d6 X th k hd=true by unfold d6;rw[b4,g2];simp;omega);have cv:¬hd.depth<0:=ad;have da:¬1<hd.depth:=ad;clear aF eL;exact Dd
    ·have g2:(hd.depth == 0)=false:=by simpa using eL
     have aZ:=ae (d.o (by unfold d6;rw[b4,g2];simp));clear aF eL;exact qU
   have b4:(hd.owner == 0)=false:=by simpa using aF
   by_cases eL:hd.depth=0
   ·have g2:(hd.depth == 0)=true:=by simpa using eL
    have aZ:=ae (d.o (by unfold d6;rw[b4,g2];simp));clear aF eL;exact qU
   have g2:(hd.depth == 0)=false:=by simpa using eL
   by_cases ch:hd.depth<0
   ·have aZ:=ae (d.o (by unfold d6;simp[ch]));exact qU
   by_cases bT:1<hd.depth
   case neg=>
    have bw:=ae (show d6 X th k hd=true by unfold d6;rw[b4,g2];simp[e1,e2,ch,bT]);exact Dd
   have an:0≤bG X (k:Int):=kJ ad (aB y.o);obtain⟨i,t,aJ,P,_⟩:=lk an;have aA:i<n:=by have:=(List.getElem?_eq_some_iff.1 P).1;have:=v.o;omega
   have aa:tw X (bG X (k:Int))=t.re:=by rw[aJ];unfold tw;rw[Gy,P];rfl
   have m:=ae aa;have cW:=ae aJ;have az:=ae P;clear aa aJ P an;go_wp2_with (fail);have e:=aN.alloc cf (.cells #[.int .i64 hd.owner,.int .i64 hd.depth] 87);refine(mA A n c X k _ (h.cZ e e.size) ah ad).mono ?_;rintro r aQ ⟨rfl,bt⟩;have bz:=e.trans (bt.mono e.size);obtain⟨K,V,B,rfl,g,a,a6,ca,aP⟩:=(h.d9 bz).E6 aA;obtain rfl:t=B:=by have:=az.o;rw[a] at this;injection this with this;exact this.symm
   clear a;rw[cW.o]
   cases aX:t.re with
   | false=>
    have aZ:=ae (d.o (by unfold d6;rw[m.o,aX];simp[bT]));rw[aX] at ca;clear aX;go_wp2;go_ret
    exact⟨ret_bool (by rw[aZ.o]),bz⟩
   | true=>
    have bw:=ae (show d6 X th k hd=true by unfold d6;rw[m.o,aX,b4,g2];simp[e1,e2,ch]);rw[aX] at ca;clear aX;go_wp2;go_roundw
    case rel=>
     refine⟨k+1,ad,by go_num,fun j C ba a=>?_,bz⟩;by_cases u:j<k
     ·exact aO.o j C u a
     ·obtain rfl:j=k:=ad;rw[aU.o] at a;injection a with a;rw[←a];exact bw.o
    case measure=>simp[intOf];omega
  ·obtain rfl:k=bl:=ad;have aZ:=ae (show f8 X T th=true from mH b0.o fun j hd hx=>aO.o j hd (by have:=(List.getElem?_eq_some_iff.1 hx).1;have:=ak.o;omega) hx);go_wp2;go_ret;exact⟨ret_bool (by rw[aZ.o]),aN⟩
end
end Go.Proofs.YtjhgbdckgkppnaaGreat

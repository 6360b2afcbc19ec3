/- Part 3 of the proof. No condition of its own. -/
import Derived.Test.YtnhhdaggkiomoaaGreatQ02
namespace Go.Proofs.YtnhhdaggkiomoaaGreat
open Go.RowKit Go.Proofs.Tryz
set_option maxRecDepth 1000000
set_option maxHeartbeats 25600000
set_option linter.unusedVariables false
variable{e th:Int}{l:List Int}{xs:List Value}{X:List bI}{T:List cy}{base c n s sz:Nat}{A:Ls}{p:Prop}{a ab b w:World}
structure fY(s:Nat)(w ab:World):Prop where
 os:ab.os=w.os
 tape:ab.tape=w.tape
 output:ab.output=w.output
 size:w.heap.size≤ab.heap.size
 block:∀k,k<w.heap.size→k≠s→ab.heap[k]?=w.heap[k]?
theorem fY.refl(s:Nat)(w:World):fY s w w:=⟨rfl,rfl,rfl,KG _,fun _ _ _=>rfl⟩
theorem fY.trans{s:Nat}{a b c:World}(h:fY s a b)(k:fY s b c):fY s a c:=
 ⟨k.os.trans h.os,k.tape.trans h.tape,k.output.trans h.output,KX h.size k.size,fun i an hn=>(k.block i (KH an h.size) hn).trans (h.block i an hn)⟩
theorem fY.of(h:Below a.heap.size a b):fY s a b:=⟨h.os,h.tape,h.output,h.size,fun k ap _=>h.block k ap⟩
theorem fY.below(h:fY s a b)(hs:s≤a.heap.size):Below s a b:=⟨h.os,h.tape,h.output,h.size,fun k ap=>h.block k ad ad⟩
theorem fY.setCell{s:Nat}{a b:World}(h:fY s a b)(j:Nat)(v:Value):fY s a (b.setCell ⟨s,j,none⟩ v):=by
 refine⟨h.os,h.tape,h.output,by simpa using h.size,fun k ap hn=>?_⟩;rw[Below.heap_setCell _ _ _ _ hn];exact h.block k ap hn
theorem fY.drew{s:Nat}{a b:World}(h:fY s a b):fY s a b.drew:=⟨h.os,h.tape,h.output,h.size,h.block⟩
theorem fY.cell{s:Nat}{a b:World}(h:fY s a b){k j:Nat}(ap:k<a.heap.size)(hn:k≠s):b.cell? ⟨k,j,none⟩=a.cell? ⟨k,j,none⟩:=World.cell?_of_block (h.block k ap hn)
structure cm(w:World)(s:Nat)(A:Ls)(n c:Nat)(l:List Int):Prop where
 lt:s<w.heap.size
 c0:w.cell? ⟨s,0,none⟩=some (.slice A n c)
 c1:∃i:Nat,i≤n∧w.cell? ⟨s,1,none⟩=some (.int .i64 i)
 fz:w.frozen? ⟨s,1,none⟩=false
 ls:cq (EF cM) 1 w s A n l
 hn:n≤1000
theorem cm.on(h:cm w s A n c l)(O:Below w.heap.size w ab):cm ab s A n c l:=by
 have ak:=h.lt;refine⟨KH h.lt O.size,?_,?_,?_,h.ls.ez (O.mono ad),h.hn⟩
 ·exact(O.cell (p:=⟨s,0,none⟩) ak).trans h.c0
 ·obtain⟨i,an,hc⟩:=h.c1;exact⟨i,an,(O.cell (p:=⟨s,1,none⟩) ak).trans hc⟩
 ·exact(O.frozen (p:=⟨s,1,none⟩) ak).trans h.fz
def w8(w:World)(s:Nat)(A:Ls)(n c:Nat)(l:List Int)(m:Int)(e:Ending)(ab:World):Prop:=
 ∃k,e=.returned (.int .i64 k)∧0≤k∧k<m∧cm ab s A n c l∧fY s w ab
theorem a2(w:World)(s:Nat)(A:Ls)(n c:Nat)(l:List Int)(m:Int)(h:cm w s A n c l)(hm:0<m)(al:m≤4611686018427387904) :
  Calls prog 76 #[.pointer (some ⟨s,0,none⟩),.int .i64 m] w (w8 w s A n c l m):=by
 have H:=ae h;obtain⟨ak,u,⟨i,an,cK⟩,du,y,hn⟩:=h;by_cases aJ:i<n
 case neg=>
  have q:decide ((i:Int)≥n)=true:=by simp;omega
  clear y;go_enter func76,ntmps76;go_wp2;go_quiet (fail)
  go_wp2;go_ret;exact⟨0,rfl,ad,hm,H.on (dH (Below.refl _ _) _),.of (dH (Below.refl _ _) _)⟩
 have q:decide ((i:Int)≥n)=false:=by simp;omega
 obtain⟨b,o,x,rfl,O,hx,hc⟩:=y.int aJ;clear hx y;go_enter func76,ntmps76;go_wp2;go_quiet (fail)
 go_wp2;obtain⟨h,aw,e,f,ay⟩:cm ((w.drewN nq).setCell ⟨s,1,none⟩ (.int .i64 ((i:Int)+1))) s (some ⟨b,o,none⟩) n c l∧fY s w ((w.drewN nq).setCell ⟨s,1,none⟩ (.int .i64 ((i:Int)+1)))∧
   ((w.drewN nq).setCell ⟨s,1,none⟩ (.int .i64 ((i:Int)+1))).cell? ⟨s,0,none⟩=some (.slice (some ⟨b,o,none⟩) n c)∧((w.drewN nq).setCell ⟨s,1,none⟩ (.int .i64 ((i:Int)+1))).cell? ⟨s,1,none⟩=some (.int .i64 ((i:Int)+1))∧
   ((w.drewN nq).setCell ⟨s,1,none⟩ (.int .i64 ((i:Int)+1))).cell? ⟨b,o+i,none⟩=some (.int .i64 x):=by
  have d:=H.on (dH (Below.refl _ _) nq);have aw:fY s w (w.drewN nq):=.of (dH (Below.refl _ _) nq);generalize w.drewN nq=v at *;have e0:(v.setCell ⟨s,1,none⟩ (.int .i64 ((i:Int)+1))).cell? ⟨s,0,none⟩=some (.slice (some ⟨b,o,none⟩) n c):=(World.cell?_setCell_other _ _ _ _ (by simp)).trans d.c0;have e1:(v.setCell ⟨s,1,none⟩ (.int .i64 ((i:Int)+1))).cell? ⟨s,1,none⟩=some (.int .i64 ((i:Int)+1)):=by
   obtain⟨k,_,ap⟩:=d.c1;simp[go_sem,ap]
  have b0:Below s v (v.setCell ⟨s,1,none⟩ (.int .i64 ((i:Int)+1))):=(Below.refl s v).setCell (p:=⟨s,1,none⟩) (KG s) _;refine⟨⟨by simpa using d.lt,e0,⟨i+1,ad,by rw[e1];simp⟩,(World.frozen?_setCell _ _ _ _).trans d.fz,d.ls.ez b0,d.hn⟩,aw.setCell _ _,e0,e1,?_⟩;rw[b0.cell (by exact O),←hc];exact aw.cell ad ad
 have ao:IntKind.i64.wrap ((i:Int)+1 - 1)=i:=by rw[show (i:Int)+1 - 1=i by omega];exact IntWalk.i64_in _ ad
 have bv:=ag h aw;clear h aw H u cK hc du;generalize (w.drewN nq).setCell ⟨s,1,none⟩ (.int .i64 ((i:Int)+1))=v at *;go_quiet (first|(go_at_call 27;refine Calls.quiet_of_same ((mb x m hm al _).mono fun _ _ h=>⟨h.1,h.2.symm⟩)))
 go_wp2;go_ret;have a5:=tk (x:=x) (n:=m) hm;exact⟨_,rfl,a5.1,a5.2,bv.1.on (dH (Below.refl _ _) _),bv.2.trans (.of (dH (Below.refl _ _) _))⟩
theorem cm.HT{g:Nat}(h:cm w s A n c l)(O:Below g w ab)(hs:s<g):cm ab s A n c l:=by
 have ak:=h.lt;refine⟨KH h.lt O.size,?_,?_,?_,h.ls.ez (O.mono ad),h.hn⟩
 ·exact(O.cell (p:=⟨s,0,none⟩) hs).trans h.c0
 ·obtain⟨i,an,hc⟩:=h.c1;exact⟨i,an,(O.cell (p:=⟨s,1,none⟩) hs).trans hc⟩
 ·exact(O.frozen (p:=⟨s,1,none⟩) hs).trans h.fz
theorem fY.eN{aT v:World}(h:fY s w aT)(O:Below w.heap.size aT v):fY s w v:=
 ⟨O.os.trans h.os,O.tape.trans h.tape,O.output.trans h.output,KX h.size O.size,fun k ap hn=>(O.block k ap).trans (h.block k ap hn)⟩
theorem fY.frozen{s:Nat}{a b:World}(h:fY s a b){k j:Nat}(ap:k<a.heap.size)(hn:k≠s):b.frozen? ⟨k,j,none⟩=a.frozen? ⟨k,j,none⟩:=by
 simp only[World.frozen?,h.block k ap hn]
structure r0(w:World)(s b:Nat):Prop where
 lt:b<w.heap.size
 ne:b≠s
 cs:∃am s1 s2,w.cell? ⟨b,0,none⟩=some (.string am)∧w.cell? ⟨b,1,none⟩=some (.string s1)∧w.cell? ⟨b,2,none⟩=some (.string s2)
theorem r0.on{b:Nat}(h:r0 w s b)(he:fY s w ab):r0 ab s b:=by
 obtain⟨hl,hn,am,s1,s2,h0,ac,av⟩:=h;exact⟨KH hl he.size,hn,am,s1,s2,(he.cell hl hn).trans h0,(he.cell hl hn).trans ac,(he.cell hl hn).trans av⟩
def VE.made:VE→Prop
 | .num n=>0≤n∧n<4611686018427387904
 | .g0 _=>True
 | .loc _=>False
 | .iC _=>False
 | .un op x=>(op=3∨op=4)∧x.made
 | .bin op x y=>(5≤op∧op≤17)∧x.made∧y.made
theorem qd(w:World)(s:Nat)(A:Ls)(n c:Nat)(l:List Int)(h:cm w s A n c l) :
  Calls prog 152 #[.pointer (some ⟨s,0,none⟩)] w (w8 w s A n c l 4611686018427387904):=by
 have H:=ae h;clear h;go_enter func152,ntmps152;go_wp2_with(fail);refine(a2 _ s A n c l 8 H.o ad ad).mono ?_;rintro e aS ⟨k,rfl,bo,cf,ac,ar⟩;have H1:=ag ac ar;clear ac ar;by_cases ap:k=1
 ·have q:(k == 1)=true:=by simpa using ap
  go_wp2_with(fail);refine(a2 _ s A n c l 4611686018427387904 H1.1 ad ad).mono ?_;rintro e aT ⟨bP,rfl,bX,eA,av,bw⟩;have bG:=ag av bw;clear av bw;go_wp2;go_ret;exact⟨bP,rfl,bX,eA,bG.1,H1.2.trans bG.2⟩
 ·have q:(k == 1)=false:=by simpa using ap
  go_wp2_with(fail);refine(a2 _ s A n c l 4 H1.1 ad ad).mono ?_;rintro e aT ⟨bP,rfl,bX,eA,av,bw⟩;have bG:=ag av bw;clear av bw;go_wp2;go_ret;exact⟨bP,rfl,bX,ad,bG.1,H1.2.trans bG.2⟩
section
attribute [local go_sem ↓] gk gm
theorem qh{e:TypeId}(h:w.ownsRow base e sz (.slice A n c) n xs):n≤c∧(A=none→n=0):=by
 rcases h.2 with⟨bM,h0⟩|⟨g,cap,cur,bM,_,_,U,_⟩
 ·injection bM with ac av aV;exact⟨ad,fun _=>h0⟩
 ·injection bM with ac av aV;subst ac aV;exact⟨U,(fun h=>nomatch h)⟩
theorem l2(A:Ls)(n c:Nat)(X:List bI)(w:World)(h:cq (EF gy) 3 w w.heap.size A n X)(hX:m2 X) :
  Calls prog 53 #[.slice A n c] w fun r ab=>∃I aK,r=.returned (.slice I (own X).length aK)∧(own X).length≤aK∧cq (EF cM) 1 ab ab.heap.size I (own X).length (own X)∧Below w.heap.size w ab:=by
 have hl:=h.1;have hn:=hX.1;go_enter func53,ntmps53;go_wp2;go_loopw [3,4] (fun v i wr=>∃k:Nat,k≤n∧i=.int .i64 k∧wr.ownsRow w.heap.size 3 1 v (iJ X k).length ((iJ X k).flatMap cM)∧Below w.heap.size w wr) (fun _ i _=>n - (intOf i).toNat)
 case atStart=>exact⟨0,Ld _,rfl,by rw[qg];exact World.ownsRow_nil _ _ _ _,Below.refl _ _⟩
 case round=>
  obtain⟨k,ap,rfl,aC,O⟩:=hrel;by_cases ak:k<n
  ·have cR:∃m,X[k]?=some m:=⟨_,List.getElem?_eq_getElem ad⟩
   obtain⟨m,hm⟩:=cR;have bU:=hX.at_ hm;have cR:=ae hm;clear hm;go_wp2;obtain⟨cN,rfl⟩:∃cN:World,cN=wr:=⟨_,rfl⟩
   go_loopw [3,5] (fun v i wr=>∃j:Nat,j≤m.qa∧i=.int .i64 j∧wr.ownsRow w.heap.size 3 1 v ((iJ X k).length+j) ((iJ X k++List.replicate j (k:Int)).flatMap cM)∧Below w.heap.size w wr) (fun _ i _=>m.qa - (intOf i).toNat)
   case atStart=>exact⟨0,Ld _,rfl,by simpa using aC,O⟩
   case round=>
    obtain⟨j,bi,rfl,f,aX⟩:=hrel;clear aC;obtain⟨b,o,bO,rfl,U,hm,c0,c1,c2⟩:=(h.ez aX).IE ak;obtain rfl:bO=m:=by have:=cR.o;rw[hm] at this;injection this
    have b0:=aX.size;have K:(bO.qa:Int)=max bO.size 1:=bO.sW;have d:=gj X k ad;have C:=hX.mm k;clear hm;by_cases dq:j<bO.qa
    ·have bj:(j:Int)<max bO.size 1:=ad;have E:(iJ X k).length+j+1≤5000:=ad;obtain⟨b4,bN⟩:=aI K d;clear K d;go_wp2_with(at_builtin;refine dk _ de (by rfl) (.tmp 22) (.tmp 24) (by rfl) w.heap.size _ _ _ _ (by rfl) f (by rfl) (by rfl) (qf _ _) ad ad b0 ?_;intro v1 aS bb a7 cU);go_roundw
     case rel=>
      refine⟨j+1,ad,by go_num,?_,fN aX f a7 (KG _) b0⟩;rw[List.replicate_succ',←List.append_assoc,lp];exact bb
     case measure=>exact aH
    ·obtain rfl:j=bO.qa:=ad;have aj:¬((bO.qa:Int)<max bO.size 1):=ad;obtain⟨b4,bN⟩:=aI K d;clear K d;go_wp2;go_roundw
     case rel=>
      refine⟨k+1,ad,by go_num,?_,aX⟩;rw[j1 cR.o,KI,List.length_replicate];exact f
     case measure=>exact aH
  ·obtain rfl:k=n:=ad;obtain⟨bY,c1,rfl,cK,_,_,_⟩:=b2 aC;have ca:=ae hl;clear hl;go_wp2;go_ret;have he:own X=iJ X k:=by unfold own;rw[ca.o]
   rw[he];exact⟨_,_,rfl,cK,jE aC (jA _) rfl,O⟩
theorem uo(A:Ls)(n c:Nat)(X:List bI)(m:Int)(w:World)(h:cq (EF gy) 3 w w.heap.size A n X)(hX:m2 X) :
  Calls prog 71 #[.slice A n c,.int .i64 m] w fun r ab=>r=.returned (.int .i64 (eR X m))∧Below w.heap.size w ab:=by
 go_enter func71,ntmps71;go_wp2_with(fail);refine(l2 A n c X w h hX).mono ?_;rintro e aS ⟨bY,c1,rfl,cK,a5,O⟩;have Q:=cA hX;have hl:=h.1;generalize hN:(own X).length=N at *;obtain⟨b4,ca⟩:=aI hN hl;clear hN hl;go_wp2
 go_loop [6] (fun i=>∃k:Nat,k≤N∧i=.int .i64 k∧∀j,j<k→(own X)[j]?≠some m) (fun i=>N - (intOf i).toNat)
 case atStart=>exact⟨0,Ld _,rfl,fun j bi=>absurd bi ad⟩
 case round=>
  obtain⟨k,ap,rfl,bR⟩:=hrel;have aA:=ae bR;clear bR;by_cases ak:k<N
  ·obtain⟨b,o,x,rfl,U,hx,c0⟩:=a5.int ak;have aQ:=ae hx;clear hx;by_cases aN:x=m
   ·subst aN;have aW:=ae (show eR X x=k by
     obtain⟨i,t,bM,P,ac,av⟩:=Fu aQ.o;have an:i<X.length:=(List.getElem?_eq_some_iff.1 P).1;rw[bM,m9 an];have J:=rL an;rcases Int.lt_or_le (elems (X.take i)) k with ak|hle
     ·exact absurd (by rw[J,bM]) (aA.o (elems (X.take i)).toNat (by have:=(hX.mm i).1;omega))
     ·omega)
    exact ra
   ·have bf:(x == m)=false:=by simpa using aN
    go_wp2
    go_round
    case rel=>
     refine⟨k+1,ad,by go_num,fun j bi=>?_⟩;by_cases z:j<k
     ·exact aA.o j z
     ·obtain rfl:j=k:=ad;rw[aQ.o];intro he;injection he with he;exact aN he
    case measure=>exact aH
  ·obtain rfl:k=N:=ad;have aW:=ae (show eR X m = -1 by
    apply lO
    rcases Int.lt_or_le m 0 with h0|h0
    ·exact .inl h0
    ·rcases Int.lt_or_le m X.length with ac|ac
     ·exfalso;have J:=rL (X:=X) (k:=m.toNat) ad;have ak:=(List.getElem?_eq_some_iff.1 J).1;rw[b4.o] at ak;exact aA.o _ ak (by rw[J];congr 1;omega)
     ·exact .inr ac)
   exact ra
theorem kE(A:Ls)(n c:Nat)(X:List bI)(m:Int)(w:World)(h:cq (EF gy) 3 w w.heap.size A n X)(hX:m2 X) :
  Calls prog 73 #[.slice A n c,.int .i64 m] w fun r ab=>r=.returned (.int .i64 (bt X m))∧Below w.heap.size w ab:=by
 go_enter func73,ntmps73;go_wp2_with(fail);refine(l2 A n c X w h hX).mono ?_;rintro e aS ⟨bY,c1,rfl,cK,a5,O⟩;have Q:=cA hX;have b0:=eu X;generalize hN:(own X).length=N at *;obtain⟨b4,bq⟩:=aI hN b0;clear hN b0;by_cases h0:m<0
 ·have aW:=ae (show bt X m = -1 from iV h0);exact ra
 by_cases ac:(N:Int)≤m
 ·have aW:=ae (show bt X m = -1 from iW (aD bq.o));exact ra
 obtain⟨k,rfl⟩:=KL (show 0≤m by omega);obtain⟨b,o,x,rfl,U,hx,c0⟩:=a5.int (show k<N by omega);have aW:=ae (show bt X k=x by unfold bt;rw[if_neg ad,Lc,hx];rfl);have d:k<N:=ad;clear hx ac h0;exact ra
end
section
attribute [local go_sem ↓] gk gm
def jW(T:List cy)(e:Int):cy:=(T[e.toNat]?).getD ⟨0,0⟩
def wA(X:List bI)(i:Int):Bool:=((X[i.toNat]?).map bI.re).getD false
def free(X:List bI)(T:List cy)(e th:Int):Bool:=
 decide (0≤bt X e∧0≤th) && ((jW T e).owner == 0 || ((jW T e).owner == th+1 && wA X (bt X e)))
def heldBy(X:List bI)(T:List cy)(e th:Int):Bool:=decide (0≤bt X e∧0≤th) && (jW T e).owner == th+1
def fw(X:List bI)(T:List cy)(e th:Int):List cy:=if free X T e th then T.set e.toNat ⟨th+1,(jW T e).depth+1⟩ else T
def down(h:cy):cy:=⟨if h.depth - 1=0 then 0 else h.owner,h.depth - 1⟩
def cV(X:List bI)(T:List cy)(e th:Int):List cy:=if heldBy X T e th then T.set e.toNat (down (jW T e)) else T
structure EU(X:List bI)(T:List cy):Prop where
 len:T.length=(own X).length
 bound:∀h∈T,0≤h.owner∧h.owner≤1000000000∧0≤h.depth∧h.depth≤1000000000
theorem EU.at_(h:EU X T)(he:0≤bt X e):∃k m hd,e=(k:Nat)∧k<T.length∧T[k]?=some hd∧jW T e=hd∧bt X e=(m:Nat)∧m<X.length:=by
 obtain⟨h0,ac⟩:=fQ.1 he;obtain⟨i,t,an,hm,_⟩:=mF he;obtain⟨k,rfl⟩:=KL h0;have hl:=eu X;have ap:k<T.length:=by rw[h.len];omega
 exact⟨k,i,T[k],rfl,ap,List.getElem?_eq_getElem ap,by unfold jW;rw[Lc,List.getElem?_eq_getElem ap];rfl,an,(List.getElem?_eq_some_iff.1 hm).1⟩
theorem pP(h:¬(0≤bt X e∧0≤th)):free X T e th=false:=by
 unfold free;rw[decide_eq_false h];rfl
theorem jX(h:¬(0≤bt X e∧0≤th)):heldBy X T e th=false:=by
 unfold heldBy;rw[decide_eq_false h];rfl
theorem fa(X:List bI)(T:List cy)(e th:Int):(fw X T e th).length=T.length:=by
 unfold fw;split<;>simp
theorem eZ(X:List bI)(T:List cy)(e th:Int):(cV X T e th).length=T.length:=by
 unfold cV;split<;>simp
namespace B0
theorem zW(h:p:=by
 by_cases al:hd.owner=th+1
 ·have bN:=ae al;have i:=ae ca;have a:(hd.owner - 1 == th)=true:=by simp;omega
  exact xl
 ·have bN:=ae (show (hd.owner == th+1)=false by simpa using al);have i:=ae ca;have a:(hd.owner - 1 == th)=false:=by simp;omega
  exact xl
 ):p:=h
end B0
open B0 in
theorem DG(A A2:Ls)(n c n2 c2:Nat)(X:List bI)(T:List cy)(e th:Int)(w:World)(h:cq (EF gy) 3 w w.heap.size A n X)(hX:m2 X)
  (ht:cq (EF bJ) 2 w w.heap.size A2 n2 T) (hT:EU X T) (he:e≤9223372036854775807) (aL:th≤4611686018427387904) :
  Calls prog 117 #[.slice A n c,.slice A2 n2 c2,.int .i64 e,.int .i64 th] w fun r ab=>r=.returned (.bool (free X T e th))∧Below w.heap.size w ab:=by
 go_enter func117,ntmps117;go_wp2_with(fail);refine(nZ A n c X e w h hX he).mono ?_;exact zV
namespace B1
theorem zW(h:p:=by
 by_cases al:hd.owner=th+1
 ·have bN:=ae al;have i:=ae ca;have a:(hd.owner == th+1)=true:=by simp;omega
  exact xl
 ·have bN:=ae (show (hd.owner == th+1)=false by simpa using al);have i:=ae ca;have a:(hd.owner == th+1)=false:=by simp;omega
  exact xl
 ):p:=h
end B1
open B1 in
theorem uq(A A2:Ls)(n c n2 c2:Nat)(X:List bI)(T:List cy)(e th:Int)(w:World)(h:cq (EF gy) 3 w w.heap.size A n X)(hX:m2 X)
  (ht:cq (EF bJ) 2 w w.heap.size A2 n2 T) (hT:EU X T) (aL:th≤4611686018427387904) :
  Calls prog 93 #[.slice A n c,.slice A2 n2 c2,.int .i64 e,.int .i64 th] w fun r ab=>r=.returned (.bool (free X T e th))∧Below w.heap.size w ab:=by
 go_enter func93,ntmps93;go_wp2_with(fail);refine(kE A n c X e w h hX).mono ?_;exact zV
theorem na(A:Ls)(n c:Nat)(T:List cy)(w:World)(ht:cq (EF bJ) 2 w w.heap.size A n T)(hn:n≤5000) :
  Calls prog 85 #[.slice A n c] w fun r ab=>∃I aK,r=.returned (.slice I n aK)∧ab.ownsRow w.heap.size 102 2 (.slice I n aK) n (T.flatMap bJ)∧Below w.heap.size w ab:=by
 have heq:=fun W=>rR (P:=prog) W 37 102 A n c 0 0 Tryz.underlying37;rcases A with _|a
 ·have aM:n=0:=by
   rcases Nat.eq_zero_or_pos n with h0|h0
   ·exact h0
   ·obtain⟨b,o,h,_⟩:=ht.2 h0;cases h
  subst aM;have hT:T=[]:=List.eq_nil_of_length_eq_zero ht.1;subst hT;go_enter func85,ntmps85;exact zH
 ·have ay:=Src.lx ht (eE T) (k5 T) ad;go_enter func85,ntmps85;go_wp2_with(at_builtin;refine fT _ kO (by rfl) (.tmp 5) (.tmp 6) (by rfl) (by rfl) _ _ _ _ (by rfl) ay ad ad (fun h=>nomatch h) ?_;intro bY c1 aS bb bU);go_ret;exact⟨bY,c1,rfl,bb,bU⟩
theorem g9{a:Nat}{e:TypeId}{v:Value}(h:w.ownsRow base e sz v n xs)(O:a≤base):w.ownsRow a e sz v n xs:=by
 refine⟨h.1,?_⟩;rcases h.2 with av|⟨g,cap,cur,rfl,j,rest⟩
 ·exact .inl av
 ·exact .inr ⟨g,cap,cur,rfl,ad,rest⟩
def gE(w:World)(T:List cy)(b:Bool)(r:Ending)(ab:World):Prop:=
 ∃I aK,r=.returned (.tuple #[.slice I T.length aK,.bool b])∧ab.ownsRow w.heap.size 102 2 (.slice I T.length aK) T.length (T.flatMap bJ)∧Below w.heap.size w ab
theorem gE.mk'{b K:Bool}(hn:T.length=n)(aC:ab.ownsRow w.heap.size 102 2 (.slice A n c) n (T.flatMap bJ))(O:Below w.heap.size w ab)(U:b=K):
  gE w T b (.returned (.tuple #[.slice A n c,.bool K])) ab:=by
 subst hn U;exact⟨A,c,rfl,aC,O⟩
theorem gE.open_{b:Bool}{r:Ending}(h:gE w T b r ab)(hn:T.length=n):
  ∃I aK,r=.returned (.tuple #[.slice I n aK,.bool b])∧n≤aK∧cq (EF bJ) 2 ab ab.heap.size I n T∧ab.ownsRow w.heap.size 102 2 (.slice I n aK) n (T.flatMap bJ)∧Below w.heap.size w ab:=by
 subst hn;obtain⟨A,c,a5,aC,O⟩:=h;exact⟨A,c,a5,(qh aC).1,jE aC (eE T) rfl,aC,O⟩
theorem jD{k:Nat}{hd:cy}(h:w.ownsRow base 102 2 (.slice A n c) n (T.flatMap bJ))(ap:k<n)(hx:T[k]?=some hd):
  ∃g,A=some ⟨g,0,none⟩∧base≤g∧g<w.heap.size∧w.cell? ⟨g,k*2,none⟩=some (.int .i64 hd.owner)∧w.cell? ⟨g,k*2+1,none⟩=some (.int .i64 hd.depth)∧(∀j,w.frozen? ⟨g,j,none⟩=false)∧
   (∀x,(w.setCell ⟨g,k*2,none⟩ (.int .i64 x)).ownsRow base 102 2 (.slice A n c) n ((T.set k ⟨x,hd.depth⟩).flatMap bJ))∧
   (∀x,(w.setCell ⟨g,k*2+1,none⟩ (.int .i64 x)).ownsRow base 102 2 (.slice A n c) n ((T.set k ⟨hd.owner,x⟩).flatMap bJ)):=by
 obtain⟨g,bw,O,ak,hc,J,hs⟩:=ie h ad;have h0:=fH bJ 2 T (eE T) k hd hx 0 ad;have ac:=fH bJ 2 T (eE T) k hd hx 1 ad;refine⟨g,bw,O,ak,hc _ _ h0,hc _ _ ac,J,fun x=>?_,fun x=>?_⟩
 ·rw[←jT bJ 2 T (eE T) k hd hx 0 (.int .i64 x) ⟨x,hd.depth⟩ ad rfl];exact hs _ _ ad
 ·rw[←jT bJ 2 T (eE T) k hd hx 1 (.int .i64 x) ⟨hd.owner,x⟩ ad rfl];exact hs _ _ ad
theorem DU(A A2:Ls)(n c n2 c2:Nat)(X:List bI)(T:List cy)(e th:Int)(w:World)(h:cq (EF gy) 3 w w.heap.size A n X)(hX:m2 X)
  (ht:cq (EF bJ) 2 w w.heap.size A2 n2 T) (hT:EU X T) (he:e≤9223372036854775807) (aL:th≤4611686018427387904) :
  Calls prog 88 #[.slice A n c,.slice A2 n2 c2,.int .i64 e,.int .i64 th] w (gE w (fw X T e th) (free X T e th)):=by
 have cg:=ht.1;have cF:n2≤5000:=by have:=cA hX;have:=hT.len;omega
 have aJ:=fa X T e th;generalize aR:fw X T e th=L at *;have b2:=ae aR;clear aR;rw[cg] at aJ;have I:=ae aJ;clear aJ;go_enter func88,ntmps88;go_wp2_with(fail);refine(na A2 n2 c2 T w ht cF).mono ?_;rintro r aS ⟨bY,c1,rfl,aC,O⟩;go_wp2_with(fail);have F:=h.c4 O O.size;have j:=ht.c4 O O.size;refine(DG A A2 n c n2 c2 X T e th aS F hX j hT he aL).mono ?_;rintro r aT ⟨rfl,bg⟩;have b0:=O.size;have dm:=O.trans (bg.mono O.size);have az:=b1 aC bg
 cases J:free X T e th with
 | false=>
  go_wp2
  go_ret2
  exact zp
 | true=>
  have hm:0≤bt X e∧0≤th:=by
   exact zC
  obtain⟨k,m,hd,rfl,ap,d,f,P,bw⟩:=hT.at_ hm.1;have cp:k<n2:=ad;have bl:=hT.bound hd (KJ d);obtain⟨b,o,u,rfl,U,hx,c0,cM⟩:=(ht.ez dm).hold cp;obtain rfl:hd=u:=by rw[d] at hx;injection hx
  obtain⟨g,rfl,a2,cY,e0,e1,s,am,s1⟩:=jD az cp d;have t:=s (k*2);have v:=s (k*2+1);have bS:L=T.set k ⟨th+1,hd.depth+1⟩:=by rw[←b2.o];unfold fw;rw[J,f];rfl
  obtain⟨ca,bV⟩:=aI bS J;have bB:=hm.2;have l:=ae (am (th+1));clear hx d f P bS J hm am s1 s cg;go_wp2
  go_ret2
  exact Gh
theorem ur(A A2:Ls)(n c n2 c2:Nat)(X:List bI)(T:List cy)(e th:Int)(w:World)(h:cq (EF gy) 3 w w.heap.size A n X)(hX:m2 X)
  (ht:cq (EF bJ) 2 w w.heap.size A2 n2 T) (hT:EU X T) (aL:th≤4611686018427387904) :
  Calls prog 44 #[.slice A n c,.slice A2 n2 c2,.int .i64 e,.int .i64 th] w (gE w (fw X T e th) (free X T e th)):=by
 have cg:=ht.1;have cF:n2≤5000:=by have:=cA hX;have:=hT.len;omega
 have aJ:=fa X T e th;generalize aR:fw X T e th=L at *;have b2:=ae aR;clear aR;rw[cg] at aJ;have I:=ae aJ;clear aJ;go_enter func44,ntmps44;have ay:=Src.lx ht (eE T) (k5 T) ad;have a3:A2=none→n2=0:=fun h0=>by
  exact zr
 have bW:=ae a3;clear a3;go_wp2_with(at_builtin;refine fT _ kO (by rfl) (.tmp 10) (.tmp 11) (by rfl) (by rfl) _ _ _ _ (by rfl) ay ad ad bW.o ?_;intro bY c1 aS aC O);go_wp2_with(fail);have F:=h.c4 O O.size;have j:cq (EF bJ) 2 aS aS.heap.size bY n2 T:=jE aC (eE T) cg;refine(uq A bY n c n2 c1 X T e th aS F hX j hT aL).mono ?_;rintro r aT ⟨rfl,bg⟩;have b0:=O.size;have dm:=O.trans (bg.mono O.size);have az:=b1 aC bg
 cases J:free X T e th with
 | false=>
  go_wp2
  go_ret2
  exact zp
 | true=>
  have hm:0≤bt X e∧0≤th:=by
   exact zC
  obtain⟨k,m,hd,rfl,ap,d,f,P,bw⟩:=hT.at_ hm.1;have cp:k<n2:=ad;have bl:=hT.bound hd (KJ d);obtain⟨g,rfl,a2,cY,e0,e1,s,am,s1⟩:=jD az cp d;have t:=s (k*2);have v:=s (k*2+1);have bS:L=T.set k ⟨th+1,hd.depth+1⟩:=by rw[←b2.o];unfold fw;rw[J,f];rfl
  obtain⟨ca,bV⟩:=aI bS J;have bB:=hm.2;have l:=ae (am (th+1));clear d f P bS J hm am s1 s cg;go_wp2
  go_ret2
  exact Gh
namespace B2
theorem AM(h:p:=by
 obtain⟨b,o,u,rfl,U,hx,c0,cM⟩:=(ht.ez O).hold cp;obtain rfl:hd=u:=by rw[d] at hx;injection hx
 by_cases bz:hd.owner=th+1
 case neg=>
  have J:heldBy X T k th=false:=by
   exact zG
  have ca:=ae (no J);have bV:=ae J;have y:(hd.owner - 1 != th)=true:=by simp;omega
  clear bz no J cg d f P hm hx;go_wp2
  go_ret2
  exact q9
 have J:heldBy X T k th=true:=by
  exact zu
 have y:(hd.owner - 1 != th)=false:=by simp;omega
 obtain⟨g,rfl,a2,cY,e0,e1,s,am,s1⟩:=jD aC cp d;have t:=s (k*2);have v:=s (k*2+1);have bS:L=T.set k (down hd):=by rw[←b2.o];unfold cV;rw[J,f];rfl
 obtain⟨ca,bV⟩:=aI bS J;have D:=ae (s1 (hd.depth - 1));have Q:=ae d;clear hx d f P bS J hm am s1 s cg no bz;exact F6
 ):p:=h
theorem Ar(h:p:=by
 go_enter func89,ntmps89;go_wp2_with(fail);refine(na A2 n2 c2 T w ht cF).mono ?_;rintro r aS ⟨bY,c1,rfl,aC,O⟩;have b0:=O.size;have no:heldBy X T e th=false→L=T:=fun h=>by rw[←b2.o];unfold cV;rw[h];rfl
 by_cases ac:0≤e
 case neg=>
  have J:heldBy X T e th=false:=jX (fun ah=>ac (fQ.1 ah.1).1);have ca:=ae (no J);have bV:=ae J;have bX:e<0:=ad;clear ac no J cg;go_wp2
  go_ret2
  exact q9
 by_cases av:e<n2
 case neg=>
  have J:heldBy X T e th=false:=jX (fun ah=>by have:=(fQ.1 ah.1).2;have:=b4.o;omega);have ca:=ae (no J);have bV:=ae J;have j:(n2:Int)≤e:=ad;clear av no J cg;go_wp2
  go_ret2
  exact q9
 have hm:0≤bt X e:=l0 ac (aD b4.o);obtain⟨k,m,hd,rfl,ap,d,f,P,bw⟩:=hT.at_ hm;have cp:k<n2:=ad;exact AL
 ):p:=h
end B2
open B2 in
theorem wY(A A2:Ls)(n c n2 c2:Nat)(X:List bI)(T:List cy)(e th:Int)(w:World)(hX:m2 X)
  (ht:cq (EF bJ) 2 w w.heap.size A2 n2 T) (hT:EU X T) (aL:th≤4611686018427387904) :
  Calls prog 89 #[.slice A n c,.slice A2 n2 c2,.int .i64 e,.int .i64 th] w (gE w (cV X T e th) (heldBy X T e th)):=by
 exact Aq
namespace B3
theorem AM(h:p:=by
 obtain⟨g,rfl,a2,cY,e0,e1,s,am,s1⟩:=jD aC cp d;by_cases bz:hd.owner=th+1
 case neg=>
  have J:heldBy X T k th=false:=by
   exact zG
  have ca:=ae (no J);have bV:=ae J;have y:(hd.owner != th+1)=true:=by simpa using bz
  clear bz no J cg d f P hm am s1 s;go_wp2
  go_ret2
  exact q9
 have J:heldBy X T k th=true:=by
  exact zu
 have y:(hd.owner != th+1)=false:=by simpa using bz
 have t:=s (k*2);have v:=s (k*2+1);have bS:L=T.set k (down hd):=by rw[←b2.o];unfold cV;rw[J,f];rfl
 obtain⟨ca,bV⟩:=aI bS J;have D:=ae (s1 (hd.depth - 1));have Q:=ae d;clear d f P bS J hm am s1 s cg no bz;exact F6
 ):p:=h
theorem Ar(h:p:=by
 go_enter func45,ntmps45;have ay:=Src.lx ht (eE T) (k5 T) ad;have a3:A2=none→n2=0:=fun h0=>by
  exact zr
 have bW:=ae a3;clear a3;go_wp2_with(at_builtin;refine fT _ kO (by rfl) (.tmp 10) (.tmp 11) (by rfl) (by rfl) _ _ _ _ (by rfl) ay ad ad bW.o ?_;intro bY c1 aS j C);go_wp2_with(fail);have F:=h.c4 C C.size;refine(kE A n c X e aS F hX).mono ?_;rintro r aT ⟨rfl,bg⟩;have q:=C.size;have O:=C.trans (bg.mono C.size);have b0:=O.size;have aC:=b1 j bg;clear bg j C q;have no:heldBy X T e th=false→L=T:=fun h=>by rw[←b2.o];unfold cV;rw[h];rfl
 by_cases hm:0≤bt X e
 case neg=>
  have J:heldBy X T e th=false:=jX (fun ah=>hm ah.1);have ca:=ae (no J);have bV:=ae J;have bX:bt X e<0:=ad;clear hm no J cg;go_wp2
  go_ret2
  exact q9
 obtain⟨k,m,hd,rfl,ap,d,f,P,bw⟩:=hT.at_ hm;have cp:k<n2:=ad;rw[P];exact AL
 ):p:=h
end B3
open B3 in
theorem q3(A A2:Ls)(n c n2 c2:Nat)(X:List bI)(T:List cy)(e th:Int)(w:World)(h:cq (EF gy) 3 w w.heap.size A n X)(hX:m2 X)
  (ht:cq (EF bJ) 2 w w.heap.size A2 n2 T) (hT:EU X T) (aL:th≤4611686018427387904) :
  Calls prog 45 #[.slice A n c,.slice A2 n2 c2,.int .i64 e,.int .i64 th] w (gE w (cV X T e th) (heldBy X T e th)):=by
 exact Aq
end
theorem uU(x:Int):∃k,wrap64 x=x - 18446744073709551616*k:=⟨(x+9223372036854775808) / 18446744073709551616,by unfold wrap64;omega⟩
theorem qL(z m:Int):wrap64 (z - 18446744073709551616*m)=wrap64 z:=by unfold wrap64;omega
theorem oy(x y:Int):wrap64 (wrap64 x*y)=wrap64 (x*y):=by
 obtain⟨k,ap⟩:=uU x;rw[ap,show (x - 18446744073709551616*k)*y=x*y - 18446744073709551616*(k*y) by rw[Int.sub_mul,Int.mul_assoc],qL]
theorem nJ(x y:Int):wrap64 (x - wrap64 y)=wrap64 (x - y):=by
 obtain⟨k,ap⟩:=uU y;rw[ap,show x - (y - 18446744073709551616*k)=x - y - 18446744073709551616*(-k) by omega,qL]
section
attribute [local go_sem ↓] gk gm
def Fits(n:Int):Prop:=-9223372036854775808≤n∧n≤9223372036854775807
theorem og(n:Int):Fits (wrap64 n):=by unfold Fits wrap64;omega
theorem l9(b:Bool):Fits (fi b):=by cases b<;>(unfold Fits fi;decide)
def VE.fit:VE→Prop
 | .num n=>Fits n
 | .g0 _=>True
 | .loc _=>True
 | .iC _=>True
 | .un _ x=>x.fit
 | .bin _ x y=>x.fit∧y.fit
theorem rV(a b:Int)(bx:Fits a):Fits (a.tmod b):=by
 have c:=Int.natAbs_tmod a b;have hle:a.natAbs % b.natAbs≤a.natAbs:=Nat.mod_le _ _;rw[←c] at hle;unfold Fits at *;rcases Int.lt_trichotomy a 0 with h|h|h
 ·have av:=Int.tmod_nonneg b (show 0≤-a by omega);rw[Int.neg_tmod] at av;generalize a.tmod b=r at *;omega
 ·subst h;simp
 ·have av:=Int.tmod_nonneg b (show 0≤a by omega);generalize a.tmod b=r at *;omega
theorem iq:Fits 0:=by unfold Fits;decide
theorem D4:Fits 1:=by unfold Fits;decide
theorem vB(op a b:Int)(bx:Fits a):Fits (arith op a b).1:=by
 unfold arith
 repeat' split
 all_goals first|exact og _|exact l9 _|exact rV _ _ bx|exact iq
theorem rC{g:List Int}(a2:∀x∈g,Fits x)(k:Nat):Fits (g.getD k 0):=by
 rw[List.getD_eq_getElem?_getD]
 cases h:g[k]? with
 | none=>exact iq
 | some v=>exact a2 v (KJ h)
theorem sK{g l:List Int}(a2:∀x∈g,Fits x)(hl:∀x∈l,Fits x):∀e:VE,e.fit→Fits (ev g l e).1
 | .num _,h=>h
 | .g0 _,_=>iq
 | .loc _,_=>rC hl _
 | .iC _,_=>rC a2 _
 | .un op x,_=>by
  rw[ev]
  repeat' split
  all_goals first|exact iq|exact og _|exact l9 _
 | .bin op x y,h=>by
  rw[ev]
  repeat' split
  all_goals first|exact iq|exact D4|exact l9 _|exact vB _ _ _ (sK a2 hl x h.1)
theorem FF(a b:Int)(bx:Fits a):wrap64 (a - wrap64 (wrap64 (a.tdiv b)*b))=a.tmod b:=by
 rw[oy,nJ,show a - a.tdiv b*b=a.tmod b by have:=Int.tdiv_mul_add_tmod a b;omega];exact IntWalk.wrap64_in _ (rV a b bx)
structure nL(g l:List Int)(e:VE):Prop where
 fg:∀x∈g,Fits x
 fl:∀x∈l,Fits x
 fe:e.fit
def iR(e:VE):Prop:=∀(w:World) (G L:Ls) (ng nl cg cl:Nat) (g l:List Int) (c0 c1 c2 c3:Value),lD w G L ng nl g l e [c0,c1,c2,c3]→nL g l e→
 Calls prog 41 #[.agg #[c0,c1,c2,c3],.slice G ng cg,.slice L nl cl] w (fX w (ev g l e))
theorem FE(n:Int):iR (.num n):=by
 intro w G L ng nl cg cl g l c0 c1 c2 c3 h _;obtain⟨nm,A,c,T⟩:=h.rep;injection T with h0 T;injection T with ac T;injection T with av T;injection T with aV T;subst h0 ac av aV;clear h T;go_enter func41,ntmps41;go_wp2
 go_ret2
 exact vg
theorem xP(e:VE)(k:Int)(he:e=.loc k∨e=.iC k):iR e:=by
 intro w G L ng nl cg cl g l c0 c1 c2 c3 h _;have a:=(Below.refl w.heap.size w).alloc (KG _) (.cells #[c0,c1,c2,c3] 54);have bJ:=h.gs.c4 a a.size;have y:=h.ls.c4 a a.size;clear a;have bZ:=h.ok;rcases he with rfl|rfl
 all_goals
  obtain⟨nm,A,c,T⟩:=h.rep;injection T with h0 T;injection T with ac T;injection T with av T;injection T with aV T;subst h0 ac av aV;clear h T;obtain⟨bo,cf⟩:=bZ;obtain⟨j,rfl⟩:=KL bo
 ·obtain⟨b,o,x,rfl,O,hx,hc⟩:=y.int (show j<nl by omega);have bi:j<nl:=ad;have aQ:=ae (show ev g l (.loc j)=(x,0) by simp[ev,List.getD_eq_getElem?_getD,hx]);clear hx bJ y;go_enter func41,ntmps41;go_wp2
  go_ret2
  exact fX.mk' aQ.o ((Below.refl _ _).alloc (KG _) _)
 ·obtain⟨b,o,x,rfl,O,hx,hc⟩:=bJ.int (show j<ng by omega);have bi:j<ng:=ad;have aQ:=ae (show ev g l (.iC j)=(x,0) by simp[ev,List.getD_eq_getElem?_getD,hx]);clear hx bJ y;go_enter func41,ntmps41;go_wp2
  go_ret2
  exact fX.mk' aQ.o ((Below.refl _ _).alloc (KG _) _)
namespace B4
theorem AB(h:p:=by
 have bV:=ae (show nL g l x from ⟨i.fg,i.fl,i.fe⟩);obtain⟨cp,bN⟩:=aI ax cy;clear h hx ax i;have cd:(op == 1)=false:=by simp;omega
 have g2:(op == 18)=false:=by simp;omega
 have cS:(op == 19)=false:=by simp;omega
 clear cy;have f:=(Below.refl w.heap.size w).alloc (KG _) (.cells #[.int .i64 op,.int .i64 n,.string nm,.slice (some ⟨b,o,none⟩) 1 c] 54);have a0:(w.alloc (.cells #[.int .i64 op,.int .i64 n,.string nm,.slice (some ⟨b,o,none⟩) 1 c] 54)).cell? ⟨w.heap.size,0,none⟩=some (.int .i64 op):=by simp[go_sem]
 have a3:(w.alloc (.cells #[.int .i64 op,.int .i64 n,.string nm,.slice (some ⟨b,o,none⟩) 1 c] 54)).cell? ⟨w.heap.size,3,none⟩=some (.slice (some ⟨b,o,none⟩) 1 c):=by simp[go_sem]
 have bO:(w.alloc (.cells #[.int .i64 op,.int .i64 n,.string nm,.slice (some ⟨b,o,none⟩) 1 c] 54)).heap.size=w.heap.size+1:=by simp
 have HA:=bH a0 a3 bO f;clear a0 a3 bO f;go_enter func41,ntmps41;go_wp2_with(fail);refine(cp.o _ G L ng nl cg cl g l bs Z bv E (aJ.on HA.2.2.2) bV.o).mono ?_;rintro r aS ⟨rfl,bU⟩;obtain⟨a0,a3,bO,f⟩:=HA.o;have cK:=(bU.cell (p:=⟨w.heap.size,0,none⟩) (by simp only[];omega)).trans a0;have J:=f.trans (bU.mono f.size);have z:=ae J;clear HA a0 a3 bO f bU aJ cp J;have bq:=ae (show ev g l (.un op x)=if (ev g l x).2≠0 then (0,(ev g l x).2) else if op=3 then (wrap64 (-(ev g l x).1),0) else (fi ((ev g l x).1 == 0),0) from rfl);clear bV;generalize ev g l x=r1 at *;obtain⟨v1,f1⟩:=r1;by_cases aK:f1=0
 case neg=>
  have q1:(f1 != 0)=true:=by simpa using aK
  have a4:=ae (show ev g l (.un op x)=(0,f1) by rw[bq.o];simp[aK]);clear aK;go_wp2
  go_ret2
  exact fX.mk' a4.o z.o
 have q1:(f1 != 0)=false:=by simpa using aK
 rcases bN.o with aV|bz
 ·have a4:=ae (show ev g l (.un op x)=(wrap64 (-v1),0) by rw[bq.o];simp[aK,aV]);subst aV;clear aK;go_wp2
  go_ret2
  exact fX.mk' a4.o z.o
 ·have a4:=ae (show ev g l (.un op x)=(fi (v1 == 0),0) by rw[bq.o];simp[aK,bz]);subst bz;clear aK;go_wp2_with(fail);refine(h4 _ _).mono ?_;rintro e ab ⟨rfl,rfl⟩;go_wp2
  go_ret2
  exact fX.mk' a4.o z.o
 ):p:=h
end B4
open B4 in
theorem Hx(op:Int)(x:VE)(ax:iR x):iR (.un op x):=by
 intro w G L ng nl cg cl g l c0 c1 c2 c3 h i;exact AA
namespace B5
theorem AI(h:p:=by
 have split:(op == 16)=true∧(v1 == 0)=false∧(op == 17)=false∨(op == 16)=false∧(op == 17)=true∧(v1 != 0)=false∨(op == 16)=false∧(op == 17)=false:=by
  exact Gl
 clear bx bn bq;have bm:=ae split;clear split;have second:∀(P:Prop),P→P:=fun _ h=>h;clear second;rcases bm.o with⟨br,bo,dB⟩|⟨br,bo,dB⟩|⟨br,bo⟩
 all_goals
  go_wp2_with(fail);refine(t.o _ G L ng nl cg cl g l cE cw cG b5 (j.on z.o) bV.2).mono ?_;rintro r aT ⟨rfl,bg⟩;have hk:=(bg.cell (p:=⟨w.heap.size,0,none⟩) ak).trans cK;have cC:=ae (z.trans (bg.mono z.size));clear bg z cK cU d4 d5 d6 d7 j t ak;generalize ev g l y=gM at *;obtain⟨v2,f2⟩:=gM;by_cases az:f2=0
  case neg=>
   have dd:(f2 != 0)=true:=by simpa using az
   have cj:=ae (show ev g l (.bin op x y)=(0,f2) by rw[a9.o];simp[az]);clear az;go_wp2
   go_ret2
   exact fX.mk' cj.o cC.o
  have dd:(f2 != 0)=false:=by simpa using az
  have cj:=ae (show ev g l (.bin op x y)=if op=16∨op=17 then (fi (v2 != 0),0) else arith op v1 v2 by rw[a9.o];simp[az]);clear az a9 bm
  try clear dB
  first
  | (have F:=ae (show ev g l (.bin op x y)=(fi (v2 != 0),0) by rw[cj.o,if_pos (by first|exact .inl (by simpa using br)|exact .inr (by simpa using bo))]);have hc:op=16∨op=17:=(by first|exact .inl (by simpa using br)|exact .inr (by simpa using bo));clear br bo cj cd g2 cS c9 fk;rcases hc with rfl|rfl;all_goals
     go_wp2_with(fail);refine(h4 _ _).mono ?_;rintro e ab ⟨rfl,rfl⟩;go_wp2
     go_ret2
     exact fX.mk' F.o cC.o)
  | (have bf:op≠16∧op≠17:=⟨by simpa using br,by simpa using bo⟩;have F:=ae (show ev g l (.bin op x y)=arith op v1 v2 by rw[cj.o,if_neg ad]);have hc:op=5∨op=6∨op=7∨op=8∨op=9∨op=10∨op=11∨op=12∨op=13∨op=14∨op=15:=(aD bN.o);clear br bo cj cd g2 cS c9 fk bf bN;by_cases h0:v2=0
     ·subst h0;clear cc;rcases hc with rfl|rfl|rfl|rfl|rfl|rfl|rfl|rfl|rfl|rfl|rfl
      all_goals
       go_wp2_with(fail)
       try (refine(h4 _ _).mono ?_;rintro e ab ⟨rfl,rfl⟩;go_wp2)
       go_ret2
       first|exact fX.mk' F.o cC.o|exact fX.mk' (F.trans (by first|(simp[arith];done)|(simp[arith];decide +kernel))) cC.o
     ·have df:(v2 == 0)=false:=by simpa using h0
      have bd:=ae h0;clear h0;rcases hc with rfl|rfl|rfl|rfl|rfl|rfl|rfl|rfl|rfl|rfl|rfl
      case inr.inl=>
       go_wp2_with(fail);refine(mM _ _ bd.o _).mono ?_;rintro e ab ⟨rfl,rfl⟩;go_wp2
       go_ret2
       exact fX.mk' (F.trans (by simp[arith,bd.o])) cC.o
      case inr.inr.inl=>
       go_wp2_with(fail);refine(mM _ _ bd.o _).mono ?_;rintro e ab ⟨rfl,rfl⟩;go_wp2
       go_ret2
       exact fX.mk' (F.trans (by simp[arith,bd.o,FF _ _ cc.o])) cC.o
      all_goals
       clear df;go_wp2_with(fail)
       try (refine(h4 _ _).mono ?_;rintro e ab ⟨rfl,rfl⟩;go_wp2)
       go_ret2
       exact fX.mk' F.o cC.o)
 ):p:=h
theorem Ah(h:p:=by
 by_cases aK:f1=0
 case neg=>
  have q1:(f1 != 0)=true:=by simpa using aK
  have a4:=ae (show ev g l (.bin op x y)=(0,f1) by rw[bq.o];simp[aK]);clear aK;go_wp2
  go_ret2
  exact fX.mk' a4.o z.o
 have q1:(f1 != 0)=false:=by simpa using aK
 have bw:=ae aK;clear aK;by_cases bx:op=16∧v1=0
 ·obtain⟨rfl,rfl⟩:=bx;have a4:=ae (show ev g l (.bin 16 x y)=(0,0) by rw[bq.o];simp[bw.o]);go_wp2
  go_ret2
  exact fX.mk' a4.o z.o
 by_cases bn:op=17∧v1≠0
 ·obtain⟨rfl,bM⟩:=bn;have cB:(v1 != 0)=true:=by simpa using bM
  have a4:=ae (show ev g l (.bin 17 x y)=(1,0) by rw[bq.o];simp[bw.o,bM]);clear bM;go_wp2
  go_ret2
  exact fX.mk' a4.o z.o
 exact AH
 ):p:=h
theorem Aa(h:p:=by
 have bV:=ag (show nL g l x from ⟨i.fg,i.fl,i.fe.1⟩) (show nL g l y from ⟨i.fg,i.fl,i.fe.2⟩);have cc:=ae (sK i.fg i.fl x i.fe.1);obtain⟨cp,t,bN⟩:=eh k m cy;clear h hx bb k m i;have cd:(op == 1)=false:=by simp;omega
 have g2:(op == 18)=false:=by simp;omega
 have cS:(op == 19)=false:=by simp;omega
 have c9:(op == 3)=false:=by simp;omega
 have fk:(op == 4)=false:=by simp;omega
 clear cy;have f:=(Below.refl w.heap.size w).alloc (KG _) (.cells #[.int .i64 op,.int .i64 n,.string nm,.slice (some ⟨b,o,none⟩) 2 c] 54);have a0:(w.alloc (.cells #[.int .i64 op,.int .i64 n,.string nm,.slice (some ⟨b,o,none⟩) 2 c] 54)).cell? ⟨w.heap.size,0,none⟩=some (.int .i64 op):=by simp[go_sem]
 have a3:(w.alloc (.cells #[.int .i64 op,.int .i64 n,.string nm,.slice (some ⟨b,o,none⟩) 2 c] 54)).cell? ⟨w.heap.size,3,none⟩=some (.slice (some ⟨b,o,none⟩) 2 c):=by simp[go_sem]
 have bO:(w.alloc (.cells #[.int .i64 op,.int .i64 n,.string nm,.slice (some ⟨b,o,none⟩) 2 c] 54)).heap.size=w.heap.size+1:=by simp
 have HA:=bH a0 a3 bO f;clear a0 a3 bO f;go_enter func41,ntmps41;go_wp2_with(fail);refine(cp.o _ G L ng nl cg cl g l bs Z bv E (aJ.on HA.2.2.2) bV.1).mono ?_;rintro r aS ⟨rfl,bU⟩;obtain⟨a0,a3,bO,f⟩:=HA.o;have cK:=(bU.cell (p:=⟨w.heap.size,0,none⟩) (by simp only[];omega)).trans a0;have cU:=(bU.cell (p:=⟨w.heap.size,3,none⟩) (by simp only[];omega)).trans a3;have J:=f.trans (bU.mono f.size);have d4:=(J.cell (p:=⟨b,o+4,none⟩) O).trans cH;have d5:=(J.cell (p:=⟨b,o+5,none⟩) O).trans cr;have d6:=(J.cell (p:=⟨b,o+6,none⟩) O).trans a7;have d7:=(J.cell (p:=⟨b,o+7,none⟩) O).trans e7;have ak:w.heap.size<aS.heap.size:=by have:=bU.size;omega
 have z:=ae J;clear HA a0 a3 bO f bU aJ cp J e0 e1 e2 e3 cH cr a7 e7;exact Ag
 ):p:=h
end B5
open B5 in
theorem FD(op:Int)(x y:VE)(k:iR x)(m:iR y):iR (.bin op x y):=by
 intro w G L ng nl cg cl g l c0 c1 c2 c3 h i;exact z9
theorem ny:∀e:VE,iR e
 | .num n=>FE n
 | .g0 _=>fun _ _ _ _ _ _ _ _ _ _ _ _ _ h _=>h.ok.elim
 | .loc k=>xP _ k (.inl rfl)
 | .iC k=>xP _ k (.inr rfl)
 | .un op x=>Hx op x (ny x)
 | .bin op x y=>FD op x y (ny x) (ny y)
end
end Go.Proofs.YtnhhdaggkiomoaaGreat

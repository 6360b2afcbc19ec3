/- Part 3 of the proof. No condition of its own. -/
import Derived.Test.YtglbpimocmhojaaGreatQ02
namespace Go.Proofs.YtglbpimocmhojaaGreat
open Go.RowKit Go.Proofs.Tryz
set_option maxRecDepth 1000000
set_option maxHeartbeats 25600000
set_option linter.unusedVariables false
variable{e:Int}{l:List Int}{xs:List Value}{X:List bG}{T:List cy}{base c n s sz:Nat}{A:Lp}{p:Prop}{a ab b w:World}
structure fZ(s:Nat)(w ab:World):Prop where
 os:ab.os=w.os
 tape:ab.tape=w.tape
 output:ab.output=w.output
 size:w.heap.size<=ab.heap.size
 block:∀k,k<w.heap.size->k≠s->ab.heap[k]?=w.heap[k]?
theorem fZ.refl(s:Nat)(w:World):fZ s w w:=⟨rfl,rfl,rfl,KD _,λ_ _ _=>rfl⟩
theorem fZ.trans{s:Nat}{a b c:World}(h:fZ s a b)(k:fZ s b c):fZ s a c:=
 ⟨k.os.trans h.os,k.tape.trans h.tape,k.output.trans h.output,KU h.size k.size,λi an hn=>(k.block i (KE an h.size) hn).trans (h.block i an hn)⟩
theorem fZ.of(h:Below a.heap.size a b):fZ s a b:=⟨h.os,h.tape,h.output,h.size,λk ap _=>h.block k ap⟩
theorem fZ.below(h:fZ s a b)(hs:s<=a.heap.size):Below s a b:=⟨h.os,h.tape,h.output,h.size,λk ap=>h.block k ad ad⟩
theorem fZ.setCell{s:Nat}{a b:World}(h:fZ s a b)(j:Nat)(v:Value):fZ s a (b.setCell ⟨s,j,none⟩ v):=by
 refine⟨h.os,h.tape,h.output,by simpa using h.size,λk ap hn=>?_⟩;rw[Below.heap_setCell _ _ _ _ hn];exact h.block k ap hn
theorem fZ.drew{s:Nat}{a b:World}(h:fZ s a b):fZ s a b.drew:=⟨h.os,h.tape,h.output,h.size,h.block⟩
theorem fZ.cell{s:Nat}{a b:World}(h:fZ s a b){k j:Nat}(ap:k<a.heap.size)(hn:k≠s):b.cell? ⟨k,j,none⟩=a.cell? ⟨k,j,none⟩:=World.cell?_of_block (h.block k ap hn)
structure cm(w:World)(s:Nat)(A:Lp)(n c:Nat)(l:List Int):Prop where
 lt:s<w.heap.size
 c0:w.cell? ⟨s,0,none⟩=some (.slice A n c)
 c1:∃i:Nat,i<=n/\w.cell? ⟨s,1,none⟩=some (.int .i64 i)
 fz:w.frozen? ⟨s,1,none⟩=false
 ls:cx (EF cT) 1 w s A n l
 hn:n<=1000
theorem cm.on(h:cm w s A n c l)(O:Below w.heap.size w ab):cm ab s A n c l:=by
 have ak:=h.lt;refine⟨KE h.lt O.size,?_,?_,?_,h.ls.ez (O.mono ad),h.hn⟩
 .exact(O.cell (p:=⟨s,0,none⟩) ak).trans h.c0
 .obtain⟨i,an,hc⟩:=h.c1;exact⟨i,an,(O.cell (p:=⟨s,1,none⟩) ak).trans hc⟩
 .exact(O.frozen (p:=⟨s,1,none⟩) ak).trans h.fz
def w1(w:World)(s:Nat)(A:Lp)(n c:Nat)(l:List Int)(m:Int)(e:Ending)(ab:World):Prop:=
 ∃k,e=.returned (.int .i64 k)/\0<=k/\k<m/\cm ab s A n c l/\fZ s w ab
theorem a2(w:World)(s:Nat)(A:Lp)(n c:Nat)(l:List Int)(m:Int)(h:cm w s A n c l)(hm:0<m)(al:m<=4611686018427387904) :
  Calls prog 65 #[.pointer (some ⟨s,0,none⟩),.int .i64 m] w (w1 w s A n c l m):=by
 have H:=ae h;obtain⟨ak,u,⟨i,an,dB⟩,dv,y,hn⟩:=h;by_cases aI:i<n
 case neg=>
  have q:decide ((i:Int)>=n)=true:=by simp;omega
  clear y;go_enter func65,ntmps65;go_wp2;go_quiet (fail)
  go_wp2;go_ret;exact⟨0,rfl,ad,hm,H.on (dG (Below.refl _ _) _),.of (dG (Below.refl _ _) _)⟩
 have q:decide ((i:Int)>=n)=false:=by simp;omega
 obtain⟨b,o,x,rfl,O,hx,hc⟩:=y.int aI;clear hx y;go_enter func65,ntmps65;go_wp2;go_quiet (fail)
 go_wp2;obtain⟨h,aw,e,f,az⟩:cm ((w.drewN nq).setCell ⟨s,1,none⟩ (.int .i64 ((i:Int)+1))) s (some ⟨b,o,none⟩) n c l/\fZ s w ((w.drewN nq).setCell ⟨s,1,none⟩ (.int .i64 ((i:Int)+1)))/\
   ((w.drewN nq).setCell ⟨s,1,none⟩ (.int .i64 ((i:Int)+1))).cell? ⟨s,0,none⟩=some (.slice (some ⟨b,o,none⟩) n c)/\((w.drewN nq).setCell ⟨s,1,none⟩ (.int .i64 ((i:Int)+1))).cell? ⟨s,1,none⟩=some (.int .i64 ((i:Int)+1))/\
   ((w.drewN nq).setCell ⟨s,1,none⟩ (.int .i64 ((i:Int)+1))).cell? ⟨b,o+i,none⟩=some (.int .i64 x):=by
  have d:=H.on (dG (Below.refl _ _) nq);have aw:fZ s w (w.drewN nq):=.of (dG (Below.refl _ _) nq);generalize w.drewN nq=v at *;have e0:(v.setCell ⟨s,1,none⟩ (.int .i64 ((i:Int)+1))).cell? ⟨s,0,none⟩=some (.slice (some ⟨b,o,none⟩) n c):=(World.cell?_setCell_other _ _ _ _ (by simp)).trans d.c0;have e1:(v.setCell ⟨s,1,none⟩ (.int .i64 ((i:Int)+1))).cell? ⟨s,1,none⟩=some (.int .i64 ((i:Int)+1)):=by
   obtain⟨k,_,ap⟩:=d.c1;simp[go_sem,ap]
  have b2:Below s v (v.setCell ⟨s,1,none⟩ (.int .i64 ((i:Int)+1))):=(Below.refl s v).setCell (p:=⟨s,1,none⟩) (KD s) _;refine⟨⟨by simpa using d.lt,e0,⟨i+1,ad,by rw[e1];simp⟩,(World.frozen?_setCell _ _ _ _).trans d.fz,d.ls.ez b2,d.hn⟩,aw.setCell _ _,e0,e1,?_⟩;rw[b2.cell (by exact O),<-hc];exact aw.cell ad ad
 have ao:IntKind.i64.wrap ((i:Int)+1 - 1)=i:=by rw[show (i:Int)+1 - 1=i by omega];exact IntWalk.i64_in _ ad
 have dh:=ah h aw;clear h aw H u dB hc dv;generalize (w.drewN nq).setCell ⟨s,1,none⟩ (.int .i64 ((i:Int)+1))=v at *;go_quiet (first|(go_at_call 28;refine Calls.quiet_of_same ((mb x m hm al _).mono λ_ _ h=>⟨h.1,h.2.symm⟩)))
 go_wp2;go_ret;have a5:=td (x:=x) (n:=m) hm;exact⟨_,rfl,a5.1,a5.2,dh.1.on (dG (Below.refl _ _) _),dh.2.trans (.of (dG (Below.refl _ _) _))⟩
theorem cm.HP{g:Nat}(h:cm w s A n c l)(O:Below g w ab)(hs:s<g):cm ab s A n c l:=by
 have ak:=h.lt;refine⟨KE h.lt O.size,?_,?_,?_,h.ls.ez (O.mono ad),h.hn⟩
 .exact(O.cell (p:=⟨s,0,none⟩) hs).trans h.c0
 .obtain⟨i,an,hc⟩:=h.c1;exact⟨i,an,(O.cell (p:=⟨s,1,none⟩) hs).trans hc⟩
 .exact(O.frozen (p:=⟨s,1,none⟩) hs).trans h.fz
theorem fZ.eN{aT v:World}(h:fZ s w aT)(O:Below w.heap.size aT v):fZ s w v:=
 ⟨O.os.trans h.os,O.tape.trans h.tape,O.output.trans h.output,KU h.size O.size,λk ap hn=>(O.block k ap).trans (h.block k ap hn)⟩
theorem fZ.frozen{s:Nat}{a b:World}(h:fZ s a b){k j:Nat}(ap:k<a.heap.size)(hn:k≠s):b.frozen? ⟨k,j,none⟩=a.frozen? ⟨k,j,none⟩:=by
 simp only[World.frozen?,h.block k ap hn]
structure rW(w:World)(s b:Nat):Prop where
 lt:b<w.heap.size
 ne:b≠s
 cs:∃am s1 s2,w.cell? ⟨b,0,none⟩=some (.string am)/\w.cell? ⟨b,1,none⟩=some (.string s1)/\w.cell? ⟨b,2,none⟩=some (.string s2)
theorem rW.on{b:Nat}(h:rW w s b)(he:fZ s w ab):rW ab s b:=by
 obtain⟨hl,hn,am,s1,s2,h0,ac,au⟩:=h;exact⟨KE hl he.size,hn,am,s1,s2,(he.cell hl hn).trans h0,(he.cell hl hn).trans ac,(he.cell hl hn).trans au⟩
def VE.made:VE->Prop
 | .num n=>0<=n/\n<4611686018427387904
 | .g1 _=>True
 | .loc _=>False
 | .iB _=>False
 | .un op x=>(op=3\/op=4)/\x.made
 | .bin op x y=>(5<=op/\op<=17)/\x.made/\y.made
theorem p5(w:World)(s:Nat)(A:Lp)(n c:Nat)(l:List Int)(h:cm w s A n c l) :
  Calls prog 143 #[.pointer (some ⟨s,0,none⟩)] w (w1 w s A n c l 4611686018427387904):=by
 have H:=ae h;clear h;go_enter func143,ntmps143;go_wp2_with(fail);refine(a2 _ s A n c l 8 H.o ad ad).mono ?_;rintro e aS ⟨k,rfl,bz,cb,ac,ar⟩;have H1:=ah ac ar;clear ac ar;by_cases ap:k=1
 .have q:(k == 1)=true:=by simpa using ap
  go_wp2_with(fail);refine(a2 _ s A n c l 4611686018427387904 H1.1 ad ad).mono ?_;rintro e aT ⟨bO,rfl,cN,eA,au,bw⟩;have bJ:=ah au bw;clear au bw;go_wp2;go_ret;exact⟨bO,rfl,cN,eA,bJ.1,H1.2.trans bJ.2⟩
 .have q:(k == 1)=false:=by simpa using ap
  go_wp2_with(fail);refine(a2 _ s A n c l 4 H1.1 ad ad).mono ?_;rintro e aT ⟨bO,rfl,cN,eA,au,bw⟩;have bJ:=ah au bw;clear au bw;go_wp2;go_ret;exact⟨bO,rfl,cN,ad,bJ.1,H1.2.trans bJ.2⟩
section
attribute [local go_sem ↓] gm gp
theorem qd{e:TypeId}(h:w.ownsRow base e sz (.slice A n c) n xs):n<=c/\(A=none->n=0):=by
 rcases h.2 with⟨bI,h0⟩|⟨g,cap,cur,bI,_,_,U,_⟩
 .injection bI with ac au aU;exact⟨ad,λ_=>h0⟩
 .injection bI with ac au aU;subst ac aU;exact⟨U,(λh=>nomatch h)⟩
theorem l2(A:Lp)(n c:Nat)(X:List bG)(w:World)(h:cx (EF gy) 3 w w.heap.size A n X)(hX:m1 X) :
  Calls prog 27 #[.slice A n c] w λr ab=>∃I aJ,r=.returned (.slice I (own X).length aJ)/\(own X).length<=aJ/\cx (EF cT) 1 ab ab.heap.size I (own X).length (own X)/\Below w.heap.size w ab:=by
 have hl:=h.1;have hn:=hX.1;go_enter func27,ntmps27;go_wp2;go_loopw [3,4] (λv i wr=>∃k:Nat,k<=n/\i=.int .i64 k/\wr.ownsRow w.heap.size 3 1 v (iI X k).length ((iI X k).flatMap cT)/\Below w.heap.size w wr) (λ_ i _=>n - (intOf i).toNat)
 case atStart=>exact⟨0,KZ _,rfl,by rw[qb];exact World.ownsRow_nil _ _ _ _,Below.refl _ _⟩
 case round=>
  obtain⟨k,ap,rfl,aB,O⟩:=hrel;by_cases ak:k<n
  .have cQ:∃m,X[k]?=some m:=⟨_,List.getElem?_eq_getElem ad⟩
   obtain⟨m,hm⟩:=cQ;have bS:=hX.at_ hm;have cQ:=ae hm;clear hm;go_wp2;obtain⟨cL,rfl⟩:∃cL:World,cL=wr:=⟨_,rfl⟩
   go_loopw [3,5] (λv i wr=>∃j:Nat,j<=m.p1/\i=.int .i64 j/\wr.ownsRow w.heap.size 3 1 v ((iI X k).length+j) ((iI X k++List.replicate j (k:Int)).flatMap cT)/\Below w.heap.size w wr) (λ_ i _=>m.p1 - (intOf i).toNat)
   case atStart=>exact⟨0,KZ _,rfl,by simpa using aB,O⟩
   case round=>
    obtain⟨j,bi,rfl,f,aV⟩:=hrel;clear aB;obtain⟨b,o,bK,rfl,U,hm,c0,c1,c2⟩:=(h.ez aV).Iw ak;obtain rfl:bK=m:=by have:=cQ.o;rw[hm] at this;injection this
    have b2:=aV.size;have K:(bK.p1:Int)=max bK.size 1:=bK.sR;have d:=gk X k ad;have C:=hX.ml k;clear hm;by_cases dq:j<bK.p1
    .have bJ:(j:Int)<max bK.size 1:=ad;have E:(iI X k).length+j+1<=5000:=ad;obtain⟨b4,bM⟩:=aH K d;clear K d;go_wp2_with(at_builtin;refine dk _ de (by rfl) (.tmp 22) (.tmp 24) (by rfl) w.heap.size _ _ _ _ (by rfl) f (by rfl) (by rfl) (qa _ _) ad ad b2 ?_;intro v1 aS bb a7 cH);go_roundw
     case rel=>
      refine⟨j+1,ad,by go_num,?_,fO aV f a7 (KD _) b2⟩;rw[List.replicate_succ',<-List.append_assoc,ll];exact bb
     case measure=>exact aG
    .obtain rfl:j=bK.p1:=ad;have aj:¬((bK.p1:Int)<max bK.size 1):=ad;obtain⟨b4,bM⟩:=aH K d;clear K d;go_wp2;go_roundw
     case rel=>
      refine⟨k+1,ad,by go_num,?_,aV⟩;rw[j1 cQ.o,KF,List.length_replicate];exact f
     case measure=>exact aG
  .obtain rfl:k=n:=ad;obtain⟨bU,c1,rfl,dB,_,_,_⟩:=b1 aB;have b9:=ae hl;clear hl;go_wp2;go_ret;have he:own X=iI X k:=by unfold own;rw[b9.o]
   rw[he];exact⟨_,_,rfl,dB,jE aB (jA _) rfl,O⟩
theorem uh(A:Lp)(n c:Nat)(X:List bG)(m:Int)(w:World)(h:cx (EF gy) 3 w w.heap.size A n X)(hX:m1 X) :
  Calls prog 63 #[.slice A n c,.int .i64 m] w λr ab=>r=.returned (.int .i64 (eR X m))/\Below w.heap.size w ab:=by
 go_enter func63,ntmps63;go_wp2_with(fail);refine(l2 A n c X w h hX).mono ?_;rintro e aS ⟨bU,c1,rfl,dB,a5,O⟩;have Q:=cA hX;have hl:=h.1;generalize hN:(own X).length=N at *;obtain⟨b4,b9⟩:=aH hN hl;clear hN hl;go_wp2
 go_loop [6] (λi=>∃k:Nat,k<=N/\i=.int .i64 k/\∀j,j<k->(own X)[j]?≠some m) (λi=>N - (intOf i).toNat)
 case atStart=>exact⟨0,KZ _,rfl,λj bi=>absurd bi ad⟩
 case round=>
  obtain⟨k,ap,rfl,bQ⟩:=hrel;have aA:=ae bQ;clear bQ;by_cases ak:k<N
  .obtain⟨b,o,x,rfl,U,hx,c0⟩:=a5.int ak;have aQ:=ae hx;clear hx;by_cases aN:x=m
   .subst aN;have aW:=ae (show eR X x=k by
     obtain⟨i,t,bI,P,ac,au⟩:=Fj aQ.o;have an:i<X.length:=(List.getElem?_eq_some_iff.1 P).1;rw[bI,m8 an];have J:=rG an;rcases Int.lt_or_le (elems (X.take i)) k with ak|hle
     .exact absurd (by rw[J,bI]) (aA.o (elems (X.take i)).toNat (by have:=(hX.ml i).1;omega))
     .omega)
    exact q3
   .have be:(x == m)=false:=by simpa using aN
    go_wp2
    go_round
    case rel=>
     refine⟨k+1,ad,by go_num,λj bi=>?_⟩;by_cases z:j<k
     .exact aA.o j z
     .obtain rfl:j=k:=ad;rw[aQ.o];intro he;injection he with he;exact aN he
    case measure=>exact aG
  .obtain rfl:k=N:=ad;have aW:=ae (show eR X m = -1 by
    apply lO
    rcases Int.lt_or_le m 0 with h0|h0
    .exact .inl h0
    .rcases Int.lt_or_le m X.length with ac|ac
     .exfalso;have J:=rG (X:=X) (k:=m.toNat) ad;have ak:=(List.getElem?_eq_some_iff.1 J).1;rw[b4.o] at ak;exact aA.o _ ak (by rw[J];congr 1;omega)
     .exact .inr ac)
   exact q3
theorem kD(A:Lp)(n c:Nat)(X:List bG)(m:Int)(w:World)(h:cx (EF gy) 3 w w.heap.size A n X)(hX:m1 X) :
  Calls prog 83 #[.slice A n c,.int .i64 m] w λr ab=>r=.returned (.int .i64 (bt X m))/\Below w.heap.size w ab:=by
 go_enter func83,ntmps83;go_wp2_with(fail);refine(l2 A n c X w h hX).mono ?_;rintro e aS ⟨bU,c1,rfl,dB,a5,O⟩;have Q:=cA hX;have b9:=eu X;generalize hN:(own X).length=N at *;obtain⟨b4,bq⟩:=aH hN b9;clear hN b9;by_cases h0:m<0
 .have aW:=ae (show bt X m = -1 from iV h0);exact q3
 by_cases ac:(N:Int)<=m
 .have aW:=ae (show bt X m = -1 from iW (aC bq.o));exact q3
 obtain⟨k,rfl⟩:=KI (show 0<=m by omega);obtain⟨b,o,x,rfl,U,hx,c0⟩:=a5.int (show k<N by omega);have aW:=ae (show bt X k=x by unfold bt;rw[if_neg ad,KY,hx];rfl);have d:k<N:=ad;clear hx ac h0;exact q3
end
section
attribute [local go_sem ↓] gm gp
def jW(T:List cy)(e:Int):cy:=(T[e.toNat]?).getD ⟨0,0⟩
def wo(X:List bG)(i:Int):Bool:=((X[i.toNat]?).map bG.re).getD false
def free(X:List bG)(T:List cy)(e th:Int):Bool:=
 decide (0<=bt X e/\0<=th) && ((jW T e).owner == 0 || ((jW T e).owner == th+1 && wo X (bt X e)))
def heldBy(X:List bG)(T:List cy)(e th:Int):Bool:=decide (0<=bt X e/\0<=th) && (jW T e).owner == th+1
def fw(X:List bG)(T:List cy)(e th:Int):List cy:=if free X T e th then T.set e.toNat ⟨th+1,(jW T e).depth+1⟩ else T
def down(h:cy):cy:=⟨if h.depth - 1=0 then 0 else h.owner,h.depth - 1⟩
def cV(X:List bG)(T:List cy)(e th:Int):List cy:=if heldBy X T e th then T.set e.toNat (down (jW T e)) else T
structure EK(X:List bG)(T:List cy):Prop where
 len:T.length=(own X).length
 bound:∀h∈T,0<=h.owner/\h.owner<=1000000000/\0<=h.depth/\h.depth<=1000000000
theorem EK.at_(h:EK X T)(he:0<=bt X e):∃k m hd,e=(k:Nat)/\k<T.length/\T[k]?=some hd/\jW T e=hd/\bt X e=(m:Nat)/\m<X.length:=by
 obtain⟨h0,ac⟩:=fR.1 he;obtain⟨i,t,an,hm,_⟩:=mE he;obtain⟨k,rfl⟩:=KI h0;have hl:=eu X;have ap:k<T.length:=by rw[h.len];omega
 exact⟨k,i,T[k],rfl,ap,List.getElem?_eq_getElem ap,by unfold jW;rw[KY,List.getElem?_eq_getElem ap];rfl,an,(List.getElem?_eq_some_iff.1 hm).1⟩
theorem pL{th:Int}(h:¬(0<=bt X e/\0<=th)):free X T e th=false:=by
 unfold free;rw[decide_eq_false h];rfl
theorem jX{th:Int}(h:¬(0<=bt X e/\0<=th)):heldBy X T e th=false:=by
 unfold heldBy;rw[decide_eq_false h];rfl
theorem fa(X:List bG)(T:List cy)(e th:Int):(fw X T e th).length=T.length:=by
 unfold fw;split<;>simp
theorem eZ(X:List bG)(T:List cy)(e th:Int):(cV X T e th).length=T.length:=by
 unfold cV;split<;>simp
namespace BQ
theorem zN(h:p:=by
 by_cases al:hd.owner=th+1
 .have bM:=ae al;have i:=ae cg;have a:(hd.owner - 1 == th)=true:=by simp;omega
  exact xe
 .have bM:=ae (show (hd.owner == th+1)=false by simpa using al);have i:=ae cg;have a:(hd.owner - 1 == th)=false:=by simp;omega
  exact xe
 ):p:=h
end BQ
open BQ in
theorem Dx(A A2:Lp)(n c n2 c2:Nat)(X:List bG)(T:List cy)(e th:Int)(w:World)(h:cx (EF gy) 3 w w.heap.size A n X)(hX:m1 X)
  (ht:cx (EF bH) 2 w w.heap.size A2 n2 T) (hT:EK X T) (he:e<=9223372036854775807) (aL:th<=4611686018427387904) :
  Calls prog 108 #[.slice A n c,.slice A2 n2 c2,.int .i64 e,.int .i64 th] w λr ab=>r=.returned (.bool (free X T e th))/\Below w.heap.size w ab:=by
 go_enter func108,ntmps108;go_wp2_with(fail);refine(nX A n c X e w h hX he).mono ?_;exact zM
namespace BR
theorem zN(h:p:=by
 by_cases al:hd.owner=th+1
 .have bM:=ae al;have i:=ae cg;have a:(hd.owner == th+1)=true:=by simp;omega
  exact xe
 .have bM:=ae (show (hd.owner == th+1)=false by simpa using al);have i:=ae cg;have a:(hd.owner == th+1)=false:=by simp;omega
  exact xe
 ):p:=h
end BR
open BR in
theorem ui(A A2:Lp)(n c n2 c2:Nat)(X:List bG)(T:List cy)(e th:Int)(w:World)(h:cx (EF gy) 3 w w.heap.size A n X)(hX:m1 X)
  (ht:cx (EF bH) 2 w w.heap.size A2 n2 T) (hT:EK X T) (aL:th<=4611686018427387904) :
  Calls prog 82 #[.slice A n c,.slice A2 n2 c2,.int .i64 e,.int .i64 th] w λr ab=>r=.returned (.bool (free X T e th))/\Below w.heap.size w ab:=by
 go_enter func82,ntmps82;go_wp2_with(fail);refine(kD A n c X e w h hX).mono ?_;exact zM
theorem m9(A:Lp)(n c:Nat)(T:List cy)(w:World)(ht:cx (EF bH) 2 w w.heap.size A n T)(hn:n<=5000) :
  Calls prog 74 #[.slice A n c] w λr ab=>∃I aJ,r=.returned (.slice I n aJ)/\ab.ownsRow w.heap.size 107 2 (.slice I n aJ) n (T.flatMap bH)/\Below w.heap.size w ab:=by
 have heq:=λW=>rM (P:=prog) W 37 107 A n c 0 0 Tryz.underlying37;rcases A with _|a
 .have aM:n=0:=by
   rcases Nat.eq_zero_or_pos n with h0|h0
   .exact h0
   .obtain⟨b,o,h,_⟩:=ht.2 h0;cases h
  subst aM;have hT:T=[]:=List.eq_nil_of_length_eq_zero ht.1;subst hT;go_enter func74,ntmps74;exact zy
 .have ay:=Src.lv ht (eE T) (k4 T) ad;go_enter func74,ntmps74;go_wp2_with(at_builtin;refine fU _ kN (by rfl) (.tmp 5) (.tmp 6) (by rfl) (by rfl) _ _ _ _ (by rfl) ay ad ad (λh=>nomatch h) ?_;intro bU c1 aS bb bS);go_ret;exact⟨bU,c1,rfl,bb,bS⟩
theorem g9{a:Nat}{e:TypeId}{v:Value}(h:w.ownsRow base e sz v n xs)(O:a<=base):w.ownsRow a e sz v n xs:=by
 refine⟨h.1,?_⟩;rcases h.2 with au|⟨g,cap,cur,rfl,j,rest⟩
 .exact .inl au
 .exact .inr ⟨g,cap,cur,rfl,ad,rest⟩
def gF(w:World)(T:List cy)(b:Bool)(r:Ending)(ab:World):Prop:=
 ∃I aJ,r=.returned (.tuple #[.slice I T.length aJ,.bool b])/\ab.ownsRow w.heap.size 107 2 (.slice I T.length aJ) T.length (T.flatMap bH)/\Below w.heap.size w ab
theorem gF.mk'{b K:Bool}(hn:T.length=n)(aB:ab.ownsRow w.heap.size 107 2 (.slice A n c) n (T.flatMap bH))(O:Below w.heap.size w ab)(U:b=K):
  gF w T b (.returned (.tuple #[.slice A n c,.bool K])) ab:=by
 subst hn U;exact⟨A,c,rfl,aB,O⟩
theorem gF.open_{b:Bool}{r:Ending}(h:gF w T b r ab)(hn:T.length=n):
  ∃I aJ,r=.returned (.tuple #[.slice I n aJ,.bool b])/\n<=aJ/\cx (EF bH) 2 ab ab.heap.size I n T/\ab.ownsRow w.heap.size 107 2 (.slice I n aJ) n (T.flatMap bH)/\Below w.heap.size w ab:=by
 subst hn;obtain⟨A,c,a5,aB,O⟩:=h;exact⟨A,c,a5,(qd aB).1,jE aB (eE T) rfl,aB,O⟩
theorem jD{k:Nat}{hd:cy}(h:w.ownsRow base 107 2 (.slice A n c) n (T.flatMap bH))(ap:k<n)(hx:T[k]?=some hd):
  ∃g,A=some ⟨g,0,none⟩/\base<=g/\g<w.heap.size/\w.cell? ⟨g,k*2,none⟩=some (.int .i64 hd.owner)/\w.cell? ⟨g,k*2+1,none⟩=some (.int .i64 hd.depth)/\(∀j,w.frozen? ⟨g,j,none⟩=false)/\
   (∀x,(w.setCell ⟨g,k*2,none⟩ (.int .i64 x)).ownsRow base 107 2 (.slice A n c) n ((T.set k ⟨x,hd.depth⟩).flatMap bH))/\
   (∀x,(w.setCell ⟨g,k*2+1,none⟩ (.int .i64 x)).ownsRow base 107 2 (.slice A n c) n ((T.set k ⟨hd.owner,x⟩).flatMap bH)):=by
 obtain⟨g,bw,O,ak,hc,J,hs⟩:=ia h ad;have h0:=fI bH 2 T (eE T) k hd hx 0 ad;have ac:=fI bH 2 T (eE T) k hd hx 1 ad;refine⟨g,bw,O,ak,hc _ _ h0,hc _ _ ac,J,λx=>?_,λx=>?_⟩
 .rw[<-jT bH 2 T (eE T) k hd hx 0 (.int .i64 x) ⟨x,hd.depth⟩ ad rfl];exact hs _ _ ad
 .rw[<-jT bH 2 T (eE T) k hd hx 1 (.int .i64 x) ⟨hd.owner,x⟩ ad rfl];exact hs _ _ ad
theorem DL(A A2:Lp)(n c n2 c2:Nat)(X:List bG)(T:List cy)(e th:Int)(w:World)(h:cx (EF gy) 3 w w.heap.size A n X)(hX:m1 X)
  (ht:cx (EF bH) 2 w w.heap.size A2 n2 T) (hT:EK X T) (he:e<=9223372036854775807) (aL:th<=4611686018427387904) :
  Calls prog 77 #[.slice A n c,.slice A2 n2 c2,.int .i64 e,.int .i64 th] w (gF w (fw X T e th) (free X T e th)):=by
 have cg:=ht.1;have cG:n2<=5000:=by have:=cA hX;have:=hT.len;omega
 have aI:=fa X T e th;generalize aR:fw X T e th=L at *;have b1:=ae aR;clear aR;rw[cg] at aI;have I:=ae aI;clear aI;go_enter func77,ntmps77;go_wp2_with(fail);refine(m9 A2 n2 c2 T w ht cG).mono ?_;rintro r aS ⟨bU,c1,rfl,aB,O⟩;go_wp2_with(fail);have F:=h.c8 O O.size;have j:=ht.c8 O O.size;refine(Dx A A2 n c n2 c2 X T e th aS F hX j hT he aL).mono ?_;rintro r aT ⟨rfl,bg⟩;have b2:=O.size;have dm:=O.trans (bg.mono O.size);have az:=b0 aB bg
 cases J:free X T e th with
 | false=>
  go_wp2
  go_ret2
  exact zh
 | true=>
  have hm:0<=bt X e/\0<=th:=by
   exact zt
  obtain⟨k,m,hd,rfl,ap,d,f,P,bd⟩:=hT.at_ hm.1;have cm:k<n2:=ad;have bl:=hT.bound hd (KG d);obtain⟨b,o,u,rfl,U,hx,c0,cp⟩:=(ht.ez dm).hold cm;obtain rfl:hd=u:=by rw[d] at hx;injection hx
  obtain⟨g,rfl,a2,cO,e0,e1,N,am,s1⟩:=jD az cm d;have s:=N (k*2);have t:=N (k*2+1);have bR:L=T.set k ⟨th+1,hd.depth+1⟩:=by rw[<-b1.o];unfold fw;rw[J,f];rfl
  obtain⟨b9,bT⟩:=aH bR J;have bB:=hm.2;have l:=ae (am (th+1));clear hx d f P bR J hm am s1 N cg;go_wp2
  go_ret2
  exact Gc
theorem uj(A A2:Lp)(n c n2 c2:Nat)(X:List bG)(T:List cy)(e th:Int)(w:World)(h:cx (EF gy) 3 w w.heap.size A n X)(hX:m1 X)
  (ht:cx (EF bH) 2 w w.heap.size A2 n2 T) (hT:EK X T) (aL:th<=4611686018427387904) :
  Calls prog 38 #[.slice A n c,.slice A2 n2 c2,.int .i64 e,.int .i64 th] w (gF w (fw X T e th) (free X T e th)):=by
 have cg:=ht.1;have cG:n2<=5000:=by have:=cA hX;have:=hT.len;omega
 have aI:=fa X T e th;generalize aR:fw X T e th=L at *;have b1:=ae aR;clear aR;rw[cg] at aI;have I:=ae aI;clear aI;go_enter func38,ntmps38;have ay:=Src.lv ht (eE T) (k4 T) ad;have a3:A2=none->n2=0:=λh0=>by
  exact zj
 have cH:=ae a3;clear a3;go_wp2_with(at_builtin;refine fU _ kN (by rfl) (.tmp 10) (.tmp 11) (by rfl) (by rfl) _ _ _ _ (by rfl) ay ad ad cH.o ?_;intro bU c1 aS aB O);go_wp2_with(fail);have F:=h.c8 O O.size;have j:cx (EF bH) 2 aS aS.heap.size bU n2 T:=jE aB (eE T) cg;refine(ui A bU n c n2 c1 X T e th aS F hX j hT aL).mono ?_;rintro r aT ⟨rfl,bg⟩;have b2:=O.size;have dm:=O.trans (bg.mono O.size);have az:=b0 aB bg
 cases J:free X T e th with
 | false=>
  go_wp2
  go_ret2
  exact zh
 | true=>
  have hm:0<=bt X e/\0<=th:=by
   exact zt
  obtain⟨k,m,hd,rfl,ap,d,f,P,bd⟩:=hT.at_ hm.1;have cm:k<n2:=ad;have bl:=hT.bound hd (KG d);obtain⟨g,rfl,a2,cO,e0,e1,N,am,s1⟩:=jD az cm d;have s:=N (k*2);have t:=N (k*2+1);have bR:L=T.set k ⟨th+1,hd.depth+1⟩:=by rw[<-b1.o];unfold fw;rw[J,f];rfl
  obtain⟨b9,bT⟩:=aH bR J;have bB:=hm.2;have l:=ae (am (th+1));clear d f P bR J hm am s1 N cg;go_wp2
  go_ret2
  exact Gc
namespace BS
theorem AD(h:p:=by
 obtain⟨b,o,u,rfl,U,hx,c0,cp⟩:=(ht.ez O).hold cm;obtain rfl:hd=u:=by rw[d] at hx;injection hx
 by_cases bE:hd.owner=th+1
 case neg=>
  have J:heldBy X T k th=false:=by
   exact zx
  have b9:=ae (no J);have bT:=ae J;have v:(hd.owner - 1 != th)=true:=by simp;omega
  clear bE no J cg d f P hm hx;go_wp2
  go_ret2
  exact q2
 have J:heldBy X T k th=true:=by
  exact zm
 have v:(hd.owner - 1 != th)=false:=by simp;omega
 obtain⟨g,rfl,a2,cO,e0,e1,N,am,s1⟩:=jD aB cm d;have s:=N (k*2);have t:=N (k*2+1);have bR:L=T.set k (down hd):=by rw[<-b1.o];unfold cV;rw[J,f];rfl
 obtain⟨b9,bT⟩:=aH bR J;have y:=ae (s1 (hd.depth - 1));have Q:=ae d;clear hx d f P bR J hm am s1 N cg no bE;exact FZ
 ):p:=h
theorem Ai(h:p:=by
 go_enter func78,ntmps78;go_wp2_with(fail);refine(m9 A2 n2 c2 T w ht cG).mono ?_;rintro r aS ⟨bU,c1,rfl,aB,O⟩;have b2:=O.size;have no:heldBy X T e th=false->L=T:=λh=>by rw[<-b1.o];unfold cV;rw[h];rfl
 by_cases ac:0<=e
 case neg=>
  have J:heldBy X T e th=false:=jX (λag=>ac (fR.1 ag.1).1);have b9:=ae (no J);have bT:=ae J;have cb:e<0:=ad;clear ac no J cg;go_wp2
  go_ret2
  exact q2
 by_cases au:e<n2
 case neg=>
  have J:heldBy X T e th=false:=jX (λag=>by have:=(fR.1 ag.1).2;have:=b4.o;omega);have b9:=ae (no J);have bT:=ae J;have j:(n2:Int)<=e:=ad;clear au no J cg;go_wp2
  go_ret2
  exact q2
 have hm:0<=bt X e:=l0 ac (aC b4.o);obtain⟨k,m,hd,rfl,ap,d,f,P,bd⟩:=hT.at_ hm;have cm:k<n2:=ad;exact AB
 ):p:=h
end BS
open BS in
theorem wR(A A2:Lp)(n c n2 c2:Nat)(X:List bG)(T:List cy)(e th:Int)(w:World)(hX:m1 X)
  (ht:cx (EF bH) 2 w w.heap.size A2 n2 T) (hT:EK X T) (aL:th<=4611686018427387904) :
  Calls prog 78 #[.slice A n c,.slice A2 n2 c2,.int .i64 e,.int .i64 th] w (gF w (cV X T e th) (heldBy X T e th)):=by
 exact Ah
namespace BU
theorem AD(h:p:=by
 obtain⟨g,rfl,a2,cO,e0,e1,N,am,s1⟩:=jD aB cm d;by_cases bE:hd.owner=th+1
 case neg=>
  have J:heldBy X T k th=false:=by
   exact zx
  have b9:=ae (no J);have bT:=ae J;have v:(hd.owner != th+1)=true:=by simpa using bE
  clear bE no J cg d f P hm am s1 N;go_wp2
  go_ret2
  exact q2
 have J:heldBy X T k th=true:=by
  exact zm
 have v:(hd.owner != th+1)=false:=by simpa using bE
 have s:=N (k*2);have t:=N (k*2+1);have bR:L=T.set k (down hd):=by rw[<-b1.o];unfold cV;rw[J,f];rfl
 obtain⟨b9,bT⟩:=aH bR J;have y:=ae (s1 (hd.depth - 1));have Q:=ae d;clear d f P bR J hm am s1 N cg no bE;exact FZ
 ):p:=h
theorem Ai(h:p:=by
 go_enter func39,ntmps39;have ay:=Src.lv ht (eE T) (k4 T) ad;have a3:A2=none->n2=0:=λh0=>by
  exact zj
 have cH:=ae a3;clear a3;go_wp2_with(at_builtin;refine fU _ kN (by rfl) (.tmp 10) (.tmp 11) (by rfl) (by rfl) _ _ _ _ (by rfl) ay ad ad cH.o ?_;intro bU c1 aS j C);go_wp2_with(fail);have F:=h.c8 C C.size;refine(kD A n c X e aS F hX).mono ?_;rintro r aT ⟨rfl,bg⟩;have q:=C.size;have O:=C.trans (bg.mono C.size);have b2:=O.size;have aB:=b0 j bg;clear bg j C q;have no:heldBy X T e th=false->L=T:=λh=>by rw[<-b1.o];unfold cV;rw[h];rfl
 by_cases hm:0<=bt X e
 case neg=>
  have J:heldBy X T e th=false:=jX (λag=>hm ag.1);have b9:=ae (no J);have bT:=ae J;have cb:bt X e<0:=ad;clear hm no J cg;go_wp2
  go_ret2
  exact q2
 obtain⟨k,m,hd,rfl,ap,d,f,P,bd⟩:=hT.at_ hm;have cm:k<n2:=ad;rw[P];exact AB
 ):p:=h
end BU
open BU in
theorem qX(A A2:Lp)(n c n2 c2:Nat)(X:List bG)(T:List cy)(e th:Int)(w:World)(h:cx (EF gy) 3 w w.heap.size A n X)(hX:m1 X)
  (ht:cx (EF bH) 2 w w.heap.size A2 n2 T) (hT:EK X T) (aL:th<=4611686018427387904) :
  Calls prog 39 #[.slice A n c,.slice A2 n2 c2,.int .i64 e,.int .i64 th] w (gF w (cV X T e th) (heldBy X T e th)):=by
 exact Ah
end
theorem uO(x:Int):∃k,wrap64 x=x - 18446744073709551616*k:=⟨(x+9223372036854775808) / 18446744073709551616,by unfold wrap64;omega⟩
theorem qF(z m:Int):wrap64 (z - 18446744073709551616*m)=wrap64 z:=by unfold wrap64;omega
theorem ou(x y:Int):wrap64 (wrap64 x*y)=wrap64 (x*y):=by
 obtain⟨k,ap⟩:=uO x;rw[ap,show (x - 18446744073709551616*k)*y=x*y - 18446744073709551616*(k*y) by rw[Int.sub_mul,Int.mul_assoc],qF]
theorem nI(x y:Int):wrap64 (x - wrap64 y)=wrap64 (x - y):=by
 obtain⟨k,ap⟩:=uO y;rw[ap,show x - (y - 18446744073709551616*k)=x - y - 18446744073709551616*(-k) by omega,qF]
section
attribute [local go_sem ↓] gm gp
def Fits(n:Int):Prop:=-9223372036854775808<=n/\n<=9223372036854775807
theorem oc(n:Int):Fits (wrap64 n):=by unfold Fits wrap64;omega
theorem l9(b:Bool):Fits (fi b):=by cases b<;>(unfold Fits fi;decide)
def VE.fit:VE->Prop
 | .num n=>Fits n
 | .g1 _=>True
 | .loc _=>True
 | .iB _=>True
 | .un _ x=>x.fit
 | .bin _ x y=>x.fit/\y.fit
theorem rQ(a b:Int)(bx:Fits a):Fits (a.tmod b):=by
 have c:=Int.natAbs_tmod a b;have hle:a.natAbs % b.natAbs<=a.natAbs:=Nat.mod_le _ _;rw[<-c] at hle;unfold Fits at *;rcases Int.lt_trichotomy a 0 with h|h|h
 .have au:=Int.tmod_nonneg b (show 0<=-a by omega);rw[Int.neg_tmod] at au;generalize a.tmod b=r at *;omega
 .subst h;simp
 .have au:=Int.tmod_nonneg b (show 0<=a by omega);generalize a.tmod b=r at *;omega
theorem ik:Fits 0:=by unfold Fits;decide
theorem DW:Fits 1:=by unfold Fits;decide
theorem vu(op a b:Int)(bx:Fits a):Fits (arith op a b).1:=by
 unfold arith
 repeat' split
 all_goals first|exact oc _|exact l9 _|exact rQ _ _ bx|exact ik
theorem rv{g:List Int}(a2:∀x∈g,Fits x)(k:Nat):Fits (g.getD k 0):=by
 rw[List.getD_eq_getElem?_getD]
 cases h:g[k]? with
 | none=>exact ik
 | some v=>exact a2 v (KG h)
theorem sF{g l:List Int}(a2:∀x∈g,Fits x)(hl:∀x∈l,Fits x):∀e:VE,e.fit->Fits (ev g l e).1
 | .num _,h=>h
 | .g1 _,_=>ik
 | .loc _,_=>rv hl _
 | .iB _,_=>rv a2 _
 | .un op x,_=>by
  rw[ev]
  repeat' split
  all_goals first|exact ik|exact oc _|exact l9 _
 | .bin op x y,h=>by
  rw[ev]
  repeat' split
  all_goals first|exact ik|exact DW|exact l9 _|exact vu _ _ _ (sF a2 hl x h.1)
theorem Fv(a b:Int)(bx:Fits a):wrap64 (a - wrap64 (wrap64 (a.tdiv b)*b))=a.tmod b:=by
 rw[ou,nI,show a - a.tdiv b*b=a.tmod b by have:=Int.tdiv_mul_add_tmod a b;omega];exact IntWalk.wrap64_in _ (rQ a b bx)
structure nK(g l:List Int)(e:VE):Prop where
 fg:∀x∈g,Fits x
 fl:∀x∈l,Fits x
 fe:e.fit
def iR(e:VE):Prop:=∀(w:World) (G L:Lp) (ng nl cg cl:Nat) (g l:List Int) (c0 c1 c2 c3:Value),lC w G L ng nl g l e [c0,c1,c2,c3]->nK g l e->
 Calls prog 35 #[.agg #[c0,c1,c2,c3],.slice G ng cg,.slice L nl cl] w (fY w (ev g l e))
theorem Fu(n:Int):iR (.num n):=by
 intro w G L ng nl cg cl g l c0 c1 c2 c3 h _;obtain⟨nm,A,c,T⟩:=h.rep;injection T with h0 T;injection T with ac T;injection T with au T;injection T with aU T;subst h0 ac au aU;clear h T;go_enter func35,ntmps35;go_wp2
 go_ret2
 exact uZ
theorem xI(e:VE)(k:Int)(he:e=.loc k\/e=.iB k):iR e:=by
 intro w G L ng nl cg cl g l c0 c1 c2 c3 h _;have a:=(Below.refl w.heap.size w).alloc (KD _) (.cells #[c0,c1,c2,c3] 53);have co:=h.gs.c8 a a.size;have y:=h.ls.c8 a a.size;clear a;have bY:=h.ok;rcases he with rfl|rfl
 all_goals
  obtain⟨nm,A,c,T⟩:=h.rep;injection T with h0 T;injection T with ac T;injection T with au T;injection T with aU T;subst h0 ac au aU;clear h T;obtain⟨bz,cb⟩:=bY;obtain⟨j,rfl⟩:=KI bz
 .obtain⟨b,o,x,rfl,O,hx,hc⟩:=y.int (show j<nl by omega);have bi:j<nl:=ad;have aQ:=ae (show ev g l (.loc j)=(x,0) by simp[ev,List.getD_eq_getElem?_getD,hx]);clear hx co y;go_enter func35,ntmps35;go_wp2
  go_ret2
  exact fY.mk' aQ.o ((Below.refl _ _).alloc (KD _) _)
 .obtain⟨b,o,x,rfl,O,hx,hc⟩:=co.int (show j<ng by omega);have bi:j<ng:=ad;have aQ:=ae (show ev g l (.iB j)=(x,0) by simp[ev,List.getD_eq_getElem?_getD,hx]);clear hx co y;go_enter func35,ntmps35;go_wp2
  go_ret2
  exact fY.mk' aQ.o ((Below.refl _ _).alloc (KD _) _)
namespace BV
theorem As(h:p:=by
 have bT:=ae (show nK g l x from ⟨i.fg,i.fl,i.fe⟩);obtain⟨cq,bM⟩:=aH ax cx;clear h hx ax i;have ca:(op == 1)=false:=by simp;omega
 have g2:(op == 18)=false:=by simp;omega
 have cT:(op == 19)=false:=by simp;omega
 clear cx;have f:=(Below.refl w.heap.size w).alloc (KD _) (.cells #[.int .i64 op,.int .i64 n,.string nm,.slice (some ⟨b,o,none⟩) 1 c] 53);have a0:(w.alloc (.cells #[.int .i64 op,.int .i64 n,.string nm,.slice (some ⟨b,o,none⟩) 1 c] 53)).cell? ⟨w.heap.size,0,none⟩=some (.int .i64 op):=by simp[go_sem]
 have a3:(w.alloc (.cells #[.int .i64 op,.int .i64 n,.string nm,.slice (some ⟨b,o,none⟩) 1 c] 53)).cell? ⟨w.heap.size,3,none⟩=some (.slice (some ⟨b,o,none⟩) 1 c):=by simp[go_sem]
 have bN:(w.alloc (.cells #[.int .i64 op,.int .i64 n,.string nm,.slice (some ⟨b,o,none⟩) 1 c] 53)).heap.size=w.heap.size+1:=by simp
 have HA:=bL a0 a3 bN f;clear a0 a3 bN f;go_enter func35,ntmps35;go_wp2_with(fail);refine(cq.o _ G L ng nl cg cl g l bs Z bA E (aI.on HA.2.2.2) bT.o).mono ?_;rintro r aS ⟨rfl,bS⟩;obtain⟨a0,a3,bN,f⟩:=HA.o;have dh:=(bS.cell (p:=⟨w.heap.size,0,none⟩) (by simp only[];omega)).trans a0;have J:=f.trans (bS.mono f.size);have z:=ae J;clear HA a0 a3 bN f bS aI cq J;have bq:=ae (show ev g l (.un op x)=if (ev g l x).2≠0 then (0,(ev g l x).2) else if op=3 then (wrap64 (-(ev g l x).1),0) else (fi ((ev g l x).1 == 0),0) from rfl);clear bT;generalize ev g l x=r1 at *;obtain⟨v1,f1⟩:=r1;by_cases aJ:f1=0
 case neg=>
  have q1:(f1 != 0)=true:=by simpa using aJ
  have a4:=ae (show ev g l (.un op x)=(0,f1) by rw[bq.o];simp[aJ]);clear aJ;go_wp2
  go_ret2
  exact fY.mk' a4.o z.o
 have q1:(f1 != 0)=false:=by simpa using aJ
 rcases bM.o with aU|bE
 .have a4:=ae (show ev g l (.un op x)=(wrap64 (-v1),0) by rw[bq.o];simp[aJ,aU]);subst aU;clear aJ;go_wp2
  go_ret2
  exact fY.mk' a4.o z.o
 .have a4:=ae (show ev g l (.un op x)=(fi (v1 == 0),0) by rw[bq.o];simp[aJ,bE]);subst bE;clear aJ;go_wp2_with(fail);refine(h3 _ _).mono ?_;rintro e ab ⟨rfl,rfl⟩;go_wp2
  go_ret2
  exact fY.mk' a4.o z.o
 ):p:=h
end BV
open BV in
theorem Ht(op:Int)(x:VE)(ax:iR x):iR (.un op x):=by
 intro w G L ng nl cg cl g l c0 c1 c2 c3 h i;exact Ar
namespace BW
theorem Ay(h:p:=by
 have split:(op == 16)=true/\(v1 == 0)=false/\(op == 17)=false\/(op == 16)=false/\(op == 17)=true/\(v1 != 0)=false\/(op == 16)=false/\(op == 17)=false:=by
  exact Gg
 clear bx bn bq;have bo:=ae split;clear split;have second:∀(P:Prop),P->P:=λ_ h=>h;clear second;rcases bo.o with⟨bp,bF,dA⟩|⟨bp,bF,dA⟩|⟨bp,bF⟩
 all_goals
  go_wp2_with(fail);refine(t.o _ G L ng nl cg cl g l cr cy cd bv (j.on z.o) bT.2).mono ?_;rintro r aT ⟨rfl,bg⟩;have hQ:=(bg.cell (p:=⟨w.heap.size,0,none⟩) ak).trans dh;have cC:=ae (z.trans (bg.mono z.size));clear bg z dh cV d4 d5 d6 d7 j t ak;generalize ev g l y=dL at *;obtain⟨v2,f2⟩:=dL;by_cases az:f2=0
  case neg=>
   have dd:(f2 != 0)=true:=by simpa using az
   have cj:=ae (show ev g l (.bin op x y)=(0,f2) by rw[a9.o];simp[az]);clear az;go_wp2
   go_ret2
   exact fY.mk' cj.o cC.o
  have dd:(f2 != 0)=false:=by simpa using az
  have cj:=ae (show ev g l (.bin op x y)=if op=16\/op=17 then (fi (v2 != 0),0) else arith op v1 v2 by rw[a9.o];simp[az]);clear az a9 bo
  try clear dA
  first
  | (have F:=ae (show ev g l (.bin op x y)=(fi (v2 != 0),0) by rw[cj.o,if_pos (by first|exact .inl (by simpa using bp)|exact .inr (by simpa using bF))]);have hc:op=16\/op=17:=(by first|exact .inl (by simpa using bp)|exact .inr (by simpa using bF));clear bp bF cj ca g2 cT c8 fh;rcases hc with rfl|rfl;all_goals
     go_wp2_with(fail);refine(h3 _ _).mono ?_;rintro e ab ⟨rfl,rfl⟩;go_wp2
     go_ret2
     exact fY.mk' F.o cC.o)
  | (have be:op≠16/\op≠17:=⟨by simpa using bp,by simpa using bF⟩;have F:=ae (show ev g l (.bin op x y)=arith op v1 v2 by rw[cj.o,if_neg ad]);have hc:op=5\/op=6\/op=7\/op=8\/op=9\/op=10\/op=11\/op=12\/op=13\/op=14\/op=15:=(aC bM.o);clear bp bF cj ca g2 cT c8 fh be bM;by_cases h0:v2=0
     .subst h0;clear cc;rcases hc with rfl|rfl|rfl|rfl|rfl|rfl|rfl|rfl|rfl|rfl|rfl
      all_goals
       go_wp2_with(fail)
       try (refine(h3 _ _).mono ?_;rintro e ab ⟨rfl,rfl⟩;go_wp2)
       go_ret2
       first|exact fY.mk' F.o cC.o|exact fY.mk' (F.trans (by first|(simp[arith];done)|(simp[arith];decide +kernel))) cC.o
     .have df:(v2 == 0)=false:=by simpa using h0
      have bf:=ae h0;clear h0;rcases hc with rfl|rfl|rfl|rfl|rfl|rfl|rfl|rfl|rfl|rfl|rfl
      case inr.inl=>
       go_wp2_with(fail);refine(mM _ _ bf.o _).mono ?_;rintro e ab ⟨rfl,rfl⟩;go_wp2
       go_ret2
       exact fY.mk' (F.trans (by simp[arith,bf.o])) cC.o
      case inr.inr.inl=>
       go_wp2_with(fail);refine(mM _ _ bf.o _).mono ?_;rintro e ab ⟨rfl,rfl⟩;go_wp2
       go_ret2
       exact fY.mk' (F.trans (by simp[arith,bf.o,Fv _ _ cc.o])) cC.o
      all_goals
       clear df;go_wp2_with(fail)
       try (refine(h3 _ _).mono ?_;rintro e ab ⟨rfl,rfl⟩;go_wp2)
       go_ret2
       exact fY.mk' F.o cC.o)
 ):p:=h
theorem z8(h:p:=by
 by_cases aJ:f1=0
 case neg=>
  have q1:(f1 != 0)=true:=by simpa using aJ
  have a4:=ae (show ev g l (.bin op x y)=(0,f1) by rw[bq.o];simp[aJ]);clear aJ;go_wp2
  go_ret2
  exact fY.mk' a4.o z.o
 have q1:(f1 != 0)=false:=by simpa using aJ
 have bw:=ae aJ;clear aJ;by_cases bx:op=16/\v1=0
 .obtain⟨rfl,rfl⟩:=bx;have a4:=ae (show ev g l (.bin 16 x y)=(0,0) by rw[bq.o];simp[bw.o]);go_wp2
  go_ret2
  exact fY.mk' a4.o z.o
 by_cases bn:op=17/\v1≠0
 .obtain⟨rfl,bI⟩:=bn;have cI:(v1 != 0)=true:=by simpa using bI
  have a4:=ae (show ev g l (.bin 17 x y)=(1,0) by rw[bq.o];simp[bw.o,bI]);clear bI;go_wp2
  go_ret2
  exact fY.mk' a4.o z.o
 exact Ax
 ):p:=h
theorem z1(h:p:=by
 have bT:=ah (show nK g l x from ⟨i.fg,i.fl,i.fe.1⟩) (show nK g l y from ⟨i.fg,i.fl,i.fe.2⟩);have cc:=ae (sF i.fg i.fl x i.fe.1);obtain⟨cq,t,bM⟩:=eh k m cx;clear h hx bb k m i;have ca:(op == 1)=false:=by simp;omega
 have g2:(op == 18)=false:=by simp;omega
 have cT:(op == 19)=false:=by simp;omega
 have c8:(op == 3)=false:=by simp;omega
 have fh:(op == 4)=false:=by simp;omega
 clear cx;have f:=(Below.refl w.heap.size w).alloc (KD _) (.cells #[.int .i64 op,.int .i64 n,.string nm,.slice (some ⟨b,o,none⟩) 2 c] 53);have a0:(w.alloc (.cells #[.int .i64 op,.int .i64 n,.string nm,.slice (some ⟨b,o,none⟩) 2 c] 53)).cell? ⟨w.heap.size,0,none⟩=some (.int .i64 op):=by simp[go_sem]
 have a3:(w.alloc (.cells #[.int .i64 op,.int .i64 n,.string nm,.slice (some ⟨b,o,none⟩) 2 c] 53)).cell? ⟨w.heap.size,3,none⟩=some (.slice (some ⟨b,o,none⟩) 2 c):=by simp[go_sem]
 have bN:(w.alloc (.cells #[.int .i64 op,.int .i64 n,.string nm,.slice (some ⟨b,o,none⟩) 2 c] 53)).heap.size=w.heap.size+1:=by simp
 have HA:=bL a0 a3 bN f;clear a0 a3 bN f;go_enter func35,ntmps35;go_wp2_with(fail);refine(cq.o _ G L ng nl cg cl g l bs Z bA E (aI.on HA.2.2.2) bT.1).mono ?_;rintro r aS ⟨rfl,bS⟩;obtain⟨a0,a3,bN,f⟩:=HA.o;have dh:=(bS.cell (p:=⟨w.heap.size,0,none⟩) (by simp only[];omega)).trans a0;have cV:=(bS.cell (p:=⟨w.heap.size,3,none⟩) (by simp only[];omega)).trans a3;have J:=f.trans (bS.mono f.size);have d4:=(J.cell (p:=⟨b,o+4,none⟩) O).trans b0;have d5:=(J.cell (p:=⟨b,o+5,none⟩) O).trans ct;have d6:=(J.cell (p:=⟨b,o+6,none⟩) O).trans a7;have d7:=(J.cell (p:=⟨b,o+7,none⟩) O).trans e7;have ak:w.heap.size<aS.heap.size:=by have:=bS.size;omega
 have z:=ae J;clear HA a0 a3 bN f bS aI cq J e0 e1 e2 e3 b0 ct a7 e7;exact z7
 ):p:=h
end BW
open BW in
theorem Ft(op:Int)(x y:VE)(k:iR x)(m:iR y):iR (.bin op x y):=by
 intro w G L ng nl cg cl g l c0 c1 c2 c3 h i;exact z0
theorem nw:∀e:VE,iR e
 | .num n=>Fu n
 | .g1 _=>λ_ _ _ _ _ _ _ _ _ _ _ _ _ h _=>h.ok.elim
 | .loc k=>xI _ k (.inl rfl)
 | .iB k=>xI _ k (.inr rfl)
 | .un op x=>Ht op x (nw x)
 | .bin op x y=>Ft op x y (nw x) (nw y)
end
end Go.Proofs.YtglbpimocmhojaaGreat

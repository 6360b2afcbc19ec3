/- Part 3 of the proof. No condition of its own. -/
import Derived.Test.YtkhnkojkplbioaaGreatQ02
namespace Go.Proofs.YtkhnkojkplbioaaGreat
open Go.RowKit Go.Proofs.Tryz
set_option maxRecDepth 1000000
set_option maxHeartbeats 25600000
set_option linter.unusedVariables false
variable{e:Int}{l:List Int}{xs:List Value}{X:List bD}{T:List bV}{base c n s sz:Nat}{A:L3}{p:Prop}{a ab b w:World}
structure gd(s:Nat)(w ab:World):Prop where
 os:ab.os=w.os
 tape:ab.tape=w.tape
 output:ab.output=w.output
 size:w.heap.size<=ab.heap.size
 block:∀k,k<w.heap.size->k≠s->ab.heap[k]?=w.heap[k]?
theorem gd.refl(s:Nat)(w:World):gd s w w:=⟨rfl,rfl,rfl,Lk _,λ_ _ _=>rfl⟩
theorem gd.trans{s:Nat}{a b c:World}(h:gd s a b)(k:gd s b c):gd s a c:=
 ⟨k.os.trans h.os,k.tape.trans h.tape,k.output.trans h.output,LD h.size k.size,λi an hn=>(k.block i (Ll an h.size) hn).trans (h.block i an hn)⟩
theorem gd.of(h:Below a.heap.size a b):gd s a b:=⟨h.os,h.tape,h.output,h.size,λk ap _=>h.block k ap⟩
theorem gd.below(h:gd s a b)(hs:s<=a.heap.size):Below s a b:=⟨h.os,h.tape,h.output,h.size,λk ap=>h.block k ad ad⟩
theorem gd.setCell{s:Nat}{a b:World}(h:gd s a b)(j:Nat)(v:Value):gd s a (b.setCell ⟨s,j,none⟩ v):=by
 refine⟨h.os,h.tape,h.output,by simpa using h.size,λk ap hn=>?_⟩;rw[Below.heap_setCell _ _ _ _ hn];exact h.block k ap hn
theorem gd.drew{s:Nat}{a b:World}(h:gd s a b):gd s a b.drew:=⟨h.os,h.tape,h.output,h.size,h.block⟩
theorem gd.cell{s:Nat}{a b:World}(h:gd s a b){k j:Nat}(ap:k<a.heap.size)(hn:k≠s):b.cell? ⟨k,j,none⟩=a.cell? ⟨k,j,none⟩:=World.cell?_of_block (h.block k ap hn)
structure cn(w:World)(s:Nat)(A:L3)(n c:Nat)(l:List Int):Prop where
 lt:s<w.heap.size
 c0:w.cell? ⟨s,0,none⟩=some (.slice A n c)
 c1:∃i:Nat,i<=n/\w.cell? ⟨s,1,none⟩=some (.int .i64 i)
 fz:w.frozen? ⟨s,1,none⟩=false
 ls:cp (EF cP) 1 w s A n l
 hn:n<=1000
theorem cn.on(h:cn w s A n c l)(O:Below w.heap.size w ab):cn ab s A n c l:=by
 have al:=h.lt;refine⟨Ll h.lt O.size,?_,?_,?_,h.ls.dS (O.mono ad),h.hn⟩
 .exact(O.cell (p:=⟨s,0,none⟩) al).trans h.c0
 .obtain⟨i,an,hc⟩:=h.c1;exact⟨i,an,(O.cell (p:=⟨s,1,none⟩) al).trans hc⟩
 .exact(O.frozen (p:=⟨s,1,none⟩) al).trans h.fz
def xF(w:World)(s:Nat)(A:L3)(n c:Nat)(l:List Int)(m:Int)(e:Ending)(ab:World):Prop:=
 ∃k,e=.returned (.int .i64 k)/\0<=k/\k<m/\cn ab s A n c l/\gd s w ab
theorem a9(w:World)(s:Nat)(A:L3)(n c:Nat)(l:List Int)(m:Int)(h:cn w s A n c l)(hm:0<m)(ci:m<=4611686018427387904) :
  Calls prog 88 #[.pointer (some ⟨s,0,none⟩),.int .i64 m] w (xF w s A n c l m):=by
 have H:=ae h;obtain⟨al,u,⟨i,an,dE⟩,c1,y,hn⟩:=h;by_cases aG:i<n
 case neg=>
  have q:decide ((i:Int)>=n)=true:=by simp;omega
  clear y;go_enter func88,ntmps88;go_wp2;go_quiet (fail)
  go_wp2;go_ret;exact⟨0,rfl,ad,hm,H.on (dK (Below.refl _ _) _),.of (dK (Below.refl _ _) _)⟩
 have q:decide ((i:Int)>=n)=false:=by simp;omega
 obtain⟨b,o,x,rfl,O,hx,hc⟩:=y.int aG;clear hx y;go_enter func88,ntmps88;go_wp2;go_quiet (fail)
 go_wp2;obtain⟨h,aw,e,f,U⟩:cn ((w.drewN nq).setCell ⟨s,1,none⟩ (.int .i64 ((i:Int)+1))) s (some ⟨b,o,none⟩) n c l/\gd s w ((w.drewN nq).setCell ⟨s,1,none⟩ (.int .i64 ((i:Int)+1)))/\
   ((w.drewN nq).setCell ⟨s,1,none⟩ (.int .i64 ((i:Int)+1))).cell? ⟨s,0,none⟩=some (.slice (some ⟨b,o,none⟩) n c)/\((w.drewN nq).setCell ⟨s,1,none⟩ (.int .i64 ((i:Int)+1))).cell? ⟨s,1,none⟩=some (.int .i64 ((i:Int)+1))/\
   ((w.drewN nq).setCell ⟨s,1,none⟩ (.int .i64 ((i:Int)+1))).cell? ⟨b,o+i,none⟩=some (.int .i64 x):=by
  have d:=H.on (dK (Below.refl _ _) nq);have aw:gd s w (w.drewN nq):=.of (dK (Below.refl _ _) nq);generalize w.drewN nq=v at *;have e0:(v.setCell ⟨s,1,none⟩ (.int .i64 ((i:Int)+1))).cell? ⟨s,0,none⟩=some (.slice (some ⟨b,o,none⟩) n c):=(World.cell?_setCell_other _ _ _ _ (by simp)).trans d.c0;have e1:(v.setCell ⟨s,1,none⟩ (.int .i64 ((i:Int)+1))).cell? ⟨s,1,none⟩=some (.int .i64 ((i:Int)+1)):=by
   obtain⟨k,_,ap⟩:=d.c1;simp[go_sem,ap]
  have ak:Below s v (v.setCell ⟨s,1,none⟩ (.int .i64 ((i:Int)+1))):=(Below.refl s v).setCell (p:=⟨s,1,none⟩) (Lk s) _;refine⟨⟨by simpa using d.lt,e0,⟨i+1,ad,by rw[e1];simp⟩,(World.frozen?_setCell _ _ _ _).trans d.fz,d.ls.dS ak,d.hn⟩,aw.setCell _ _,e0,e1,?_⟩;rw[ak.cell (by exact O),<-hc];exact aw.cell ad ad
 have ao:IntKind.i64.wrap ((i:Int)+1 - 1)=i:=by rw[show (i:Int)+1 - 1=i by omega];exact IntWalk.i64_in _ ad
 have cz:=ag h aw;clear h aw H u dE hc c1;generalize (w.drewN nq).setCell ⟨s,1,none⟩ (.int .i64 ((i:Int)+1))=v at *;go_quiet (first|(go_at_call 31;refine Calls.quiet_of_same ((my x m hm ci _).mono λ_ _ h=>⟨h.1,h.2.symm⟩)))
 go_wp2;go_ret;have ba:=tS (x:=x) (n:=m) hm;exact⟨_,rfl,ba.1,ba.2,cz.1.on (dK (Below.refl _ _) _),cz.2.trans (.of (dK (Below.refl _ _) _))⟩
theorem cn.IH{g:Nat}(h:cn w s A n c l)(O:Below g w ab)(hs:s<g):cn ab s A n c l:=by
 have al:=h.lt;refine⟨Ll h.lt O.size,?_,?_,?_,h.ls.dS (O.mono ad),h.hn⟩
 .exact(O.cell (p:=⟨s,0,none⟩) hs).trans h.c0
 .obtain⟨i,an,hc⟩:=h.c1;exact⟨i,an,(O.cell (p:=⟨s,1,none⟩) hs).trans hc⟩
 .exact(O.frozen (p:=⟨s,1,none⟩) hs).trans h.fz
theorem gd.eR{aU v:World}(h:gd s w aU)(O:Below w.heap.size aU v):gd s w v:=
 ⟨O.os.trans h.os,O.tape.trans h.tape,O.output.trans h.output,LD h.size O.size,λk ap hn=>(O.block k ap).trans (h.block k ap hn)⟩
theorem gd.frozen{s:Nat}{a b:World}(h:gd s a b){k j:Nat}(ap:k<a.heap.size)(hn:k≠s):b.frozen? ⟨k,j,none⟩=a.frozen? ⟨k,j,none⟩:=by
 simp only[World.frozen?,h.block k ap hn]
structure sy(w:World)(s b:Nat):Prop where
 lt:b<w.heap.size
 ne:b≠s
 cs:∃am s1 s2,w.cell? ⟨b,0,none⟩=some (.string am)/\w.cell? ⟨b,1,none⟩=some (.string s1)/\w.cell? ⟨b,2,none⟩=some (.string s2)
theorem sy.on{b:Nat}(h:sy w s b)(he:gd s w ab):sy ab s b:=by
 obtain⟨hl,hn,am,s1,s2,h0,ac,au⟩:=h;exact⟨Ll hl he.size,hn,am,s1,s2,(he.cell hl hn).trans h0,(he.cell hl hn).trans ac,(he.cell hl hn).trans au⟩
def VE.made:VE->Prop
 | .num n=>0<=n/\n<4611686018427387904
 | .g7 _=>True
 | .loc _=>False
 | .iF _=>False
 | .un op x=>(op=3\/op=4)/\x.made
 | .bin op x y=>(5<=op/\op<=17)/\x.made/\y.made
theorem qA(w:World)(s:Nat)(A:L3)(n c:Nat)(l:List Int)(h:cn w s A n c l) :
  Calls prog 167 #[.pointer (some ⟨s,0,none⟩)] w (xF w s A n c l 4611686018427387904):=by
 have H:=ae h;clear h;go_enter func167,ntmps167;go_wp2_with(fail);refine(a9 _ s A n c l 8 H.o ad ad).mono ?_;rintro e aS ⟨k,rfl,br,cd,ac,ar⟩;have H1:=ag ac ar;clear ac ar;by_cases ap:k=1
 .have q:(k == 1)=true:=by simpa using ap
  go_wp2_with(fail);refine(a9 _ s A n c l 4611686018427387904 H1.1 ad ad).mono ?_;rintro e aU ⟨bS,rfl,b0,ez,au,bL⟩;have bc:=ag au bL;clear au bL;go_wp2;go_ret;exact⟨bS,rfl,b0,ez,bc.1,H1.2.trans bc.2⟩
 .have q:(k == 1)=false:=by simpa using ap
  go_wp2_with(fail);refine(a9 _ s A n c l 4 H1.1 ad ad).mono ?_;rintro e aU ⟨bS,rfl,b0,ez,au,bL⟩;have bc:=ag au bL;clear au bL;go_wp2;go_ret;exact⟨bS,rfl,b0,ad,bc.1,H1.2.trans bc.2⟩
section
attribute [local go_sem ↓] gr gu
theorem qF{e:TypeId}(h:w.ownsRow base e sz (.slice A n c) n xs):n<=c/\(A=none->n=0):=by
 rcases h.2 with⟨bG,h0⟩|⟨g,cap,cur,bG,_,_,aL,_⟩
 .injection bG with ac au aY;exact⟨ad,λ_=>h0⟩
 .injection bG with ac au aY;subst ac aY;exact⟨aL,(λh=>nomatch h)⟩
theorem mh(A:L3)(n c:Nat)(X:List bD)(w:World)(h:cp (EF gg) 3 w w.heap.size A n X)(hX:ns X) :
  Calls prog 50 #[.slice A n c] w λr ab=>∃I aK,r=.returned (.slice I (own X).length aK)/\(own X).length<=aK/\cp (EF cP) 1 ab ab.heap.size I (own X).length (own X)/\Below w.heap.size w ab:=by
 have hl:=h.1;have hn:=hX.1;go_enter func50,ntmps50;go_wp2;go_loopw [3,4] (λv i wr=>∃k:Nat,k<=n/\i=.int .i64 k/\wr.ownsRow w.heap.size 3 1 v (iM X k).length ((iM X k).flatMap cP)/\Below w.heap.size w wr) (λ_ i _=>n - (intOf i).toNat)
 case atStart=>exact⟨0,LJ _,rfl,by rw[qD];exact World.ownsRow_nil _ _ _ _,Below.refl _ _⟩
 case round=>
  obtain⟨k,ap,rfl,aB,O⟩:=hrel;by_cases al:k<n
  .have cR:∃m,X[k]?=some m:=⟨_,List.getElem?_eq_getElem ad⟩
   obtain⟨m,hm⟩:=cR;have b1:=hX.at_ hm;have cR:=ae hm;clear hm;go_wp2;obtain⟨cK,rfl⟩:∃cK:World,cK=wr:=⟨_,rfl⟩
   go_loopw [3,5] (λv i wr=>∃j:Nat,j<=m.jK/\i=.int .i64 j/\wr.ownsRow w.heap.size 3 1 v ((iM X k).length+j) ((iM X k++List.replicate j (k:Int)).flatMap cP)/\Below w.heap.size w wr) (λ_ i _=>m.jK - (intOf i).toNat)
   case atStart=>exact⟨0,LJ _,rfl,by simpa using aB,O⟩
   case round=>
    obtain⟨j,bi,rfl,f,aT⟩:=hrel;clear aB;obtain⟨b,o,bP,rfl,U,hm,c0,c1,c2⟩:=(h.dS aT).IF al;obtain rfl:bP=m:=by have:=cR.o;rw[hm] at this;injection this
    have ak:=aT.size;have K:(bP.jK:Int)=max bP.size 1:=bP.lp;have d:=eA X k ad;have C:=hX.kZ k;clear hm;by_cases dt:j<bP.jK
    .have bN:(j:Int)<max bP.size 1:=ad;have D:(iM X k).length+j+1<=5000:=ad;obtain⟨bY,bQ⟩:=aJ K d;clear K d;go_wp2_with(at_builtin;refine dn _ dh (by rfl) (.tmp 22) (.tmp 24) (by rfl) w.heap.size _ _ _ _ (by rfl) f (by rfl) (by rfl) (qC _ _) ad ad ak ?_;intro v1 aS bb b2 cY);go_roundw
     case rel=>
      refine⟨j+1,ad,by go_num,?_,fR aT f b2 (Lk _) ak⟩;rw[List.replicate_succ',<-List.append_assoc,lH];exact bb
     case measure=>exact aH
    .obtain rfl:j=bP.jK:=ad;have ai:¬((bP.jK:Int)<max bP.size 1):=ad;obtain⟨bY,bQ⟩:=aJ K d;clear K d;go_wp2;go_roundw
     case rel=>
      refine⟨k+1,ad,by go_num,?_,aT⟩;rw[j7 cR.o,Lm,List.length_replicate];exact f
     case measure=>exact aH
  .obtain rfl:k=n:=ad;obtain⟨bZ,c1,rfl,dE,_,_,_⟩:=b5 aB;have b8:=ae hl;clear hl;go_wp2;go_ret;have he:own X=iM X k:=by unfold own;rw[b8.o]
   rw[he];exact⟨_,_,rfl,dE,jM aB (jH _) rfl,O⟩
theorem vb(A:L3)(n c:Nat)(X:List bD)(m:Int)(w:World)(h:cp (EF gg) 3 w w.heap.size A n X)(hX:ns X) :
  Calls prog 82 #[.slice A n c,.int .i64 m] w λr ab=>r=.returned (.int .i64 (eL X m))/\Below w.heap.size w ab:=by
 go_enter func82,ntmps82;go_wp2_with(fail);refine(mh A n c X w h hX).mono ?_;rintro e aS ⟨bZ,c1,rfl,dE,ba,O⟩;have Q:=ch hX;have hl:=h.1;generalize hN:(own X).length=N at *;obtain⟨bY,b8⟩:=aJ hN hl;clear hN hl;go_wp2
 go_loop [6] (λi=>∃k:Nat,k<=N/\i=.int .i64 k/\∀j,j<k->(own X)[j]?≠some m) (λi=>N - (intOf i).toNat)
 case atStart=>exact⟨0,LJ _,rfl,λj bi=>absurd bi ad⟩
 case round=>
  obtain⟨k,ap,rfl,cE⟩:=hrel;have aA:=ae cE;clear cE;by_cases al:k<N
  .obtain⟨b,o,x,rfl,U,hx,c0⟩:=ba.int al;have aQ:=ae hx;clear hx;by_cases aB:x=m
   .subst aB;have a3:=ae (show eL X x=k by
     obtain⟨i,t,bG,P,ac,au⟩:=po aQ.o;have an:i<X.length:=(List.getElem?_eq_some_iff.1 P).1;rw[bG,kY an];have J:=sb an;rcases Int.lt_or_le (elems (X.take i)) k with al|hle
     .exact absurd (by rw[J,bG]) (aA.o (elems (X.take i)).toNat (by have:=(hX.kZ i).1;omega))
     .omega)
    exact rH
   .have bf:(x == m)=false:=by simpa using aB
    go_wp2
    go_round
    case rel=>
     refine⟨k+1,ad,by go_num,λj bi=>?_⟩;by_cases z:j<k
     .exact aA.o j z
     .obtain rfl:j=k:=ad;rw[aQ.o];intro he;injection he with he;exact aB he
    case measure=>exact aH
  .obtain rfl:k=N:=ad;have a3:=ae (show eL X m = -1 by
    apply jU
    rcases Int.lt_or_le m 0 with h0|h0
    .exact .inl h0
    .rcases Int.lt_or_le m X.length with ac|ac
     .exfalso;have J:=sb (X:=X) (k:=m.toNat) ad;have al:=(List.getElem?_eq_some_iff.1 J).1;rw[bY.o] at al;exact aA.o _ al (by rw[J];congr 1;omega)
     .exact .inr ac)
   exact rH
theorem kN(A:L3)(n c:Nat)(X:List bD)(m:Int)(w:World)(h:cp (EF gg) 3 w w.heap.size A n X)(hX:ns X) :
  Calls prog 84 #[.slice A n c,.int .i64 m] w λr ab=>r=.returned (.int .i64 (bx X m))/\Below w.heap.size w ab:=by
 go_enter func84,ntmps84;go_wp2_with(fail);refine(mh A n c X w h hX).mono ?_;rintro e aS ⟨bZ,c1,rfl,dE,ba,O⟩;have Q:=ch hX;have bL:=dz X;generalize hN:(own X).length=N at *;obtain⟨bY,bo⟩:=aJ hN bL;clear hN bL;by_cases h0:m<0
 .have a3:=ae (show bx X m = -1 from ja h0);exact rH
 by_cases ac:(N:Int)<=m
 .have a3:=ae (show bx X m = -1 from jb (aD bo.o));exact rH
 obtain⟨k,rfl⟩:=Lp (show 0<=m by omega);obtain⟨b,o,x,rfl,U,hx,c0⟩:=ba.int (show k<N by omega);have a3:=ae (show bx X k=x by unfold bx;rw[if_neg ad,LI,hx];rfl);have d:k<N:=ad;clear hx ac h0;exact rH
end
section
attribute [local go_sem ↓] gr gu
def fb(T:List bV)(e:Int):bV:=(T[e.toNat]?).getD ⟨0,0⟩
def w5(X:List bD)(i:Int):Bool:=((X[i.toNat]?).map bD.re).getD false
def free(X:List bD)(T:List bV)(e th:Int):Bool:=
 decide (0<=bx X e/\0<=th) && ((fb T e).owner == 0 || ((fb T e).owner == th+1 && w5 X (bx X e)))
def heldBy(X:List bD)(T:List bV)(e th:Int):Bool:=decide (0<=bx X e/\0<=th) && (fb T e).owner == th+1
def fm(X:List bD)(T:List bV)(e th:Int):List bV:=if free X T e th then T.set e.toNat ⟨th+1,(fb T e).depth+1⟩ else T
def down(h:bV):bV:=⟨if h.depth - 1=0 then 0 else h.owner,h.depth - 1⟩
def cL(X:List bD)(T:List bV)(e th:Int):List bV:=if heldBy X T e th then T.set e.toNat (down (fb T e)) else T
structure yD(X:List bD)(T:List bV):Prop where
 len:T.length=(own X).length
 bound:∀h∈T,0<=h.owner/\h.owner<=1000000000/\0<=h.depth/\h.depth<=1000000000
theorem yD.at_(h:yD X T)(he:0<=bx X e):∃k m hd,e=(k:Nat)/\k<T.length/\T[k]?=some hd/\fb T e=hd/\bx X e=(m:Nat)/\m<X.length:=by
 obtain⟨h0,ac⟩:=fU.1 he;obtain⟨i,t,an,hm,_⟩:=mU he;obtain⟨k,rfl⟩:=Lp h0;have hl:=dz X;have ap:k<T.length:=by rw[h.len];omega
 exact⟨k,i,T[k],rfl,ap,List.getElem?_eq_getElem ap,by unfold fb;rw[LI,List.getElem?_eq_getElem ap];rfl,an,(List.getElem?_eq_some_iff.1 hm).1⟩
theorem qh{th:Int}(h:¬(0<=bx X e/\0<=th)):free X T e th=false:=by
 unfold free;rw[decide_eq_false h];rfl
theorem j3{th:Int}(h:¬(0<=bx X e/\0<=th)):heldBy X T e th=false:=by
 unfold heldBy;rw[decide_eq_false h];rfl
theorem ey(X:List bD)(T:List bV)(e th:Int):(fm X T e th).length=T.length:=by
 unfold fm;split<;>simp
theorem ei(X:List bD)(T:List bV)(e th:Int):(cL X T e th).length=T.length:=by
 unfold cL;split<;>simp
namespace CA
theorem Aw(h:p:=by
 by_cases cl:hd.owner=th+1
 .have bQ:=ae cl;have i:=ae cK;have a:(hd.owner - 1 == th)=true:=by simp;omega
  exact xS
 .have bQ:=ae (show (hd.owner == th+1)=false by simpa using cl);have i:=ae cK;have a:(hd.owner - 1 == th)=false:=by simp;omega
  exact xS
 ):p:=h
end CA
open CA in
theorem Ej(A A2:L3)(n c n2 c2:Nat)(X:List bD)(T:List bV)(e th:Int)(w:World)(h:cp (EF gg) 3 w w.heap.size A n X)(hX:ns X)
  (ht:cp (EF bK) 2 w w.heap.size A2 n2 T) (hT:yD X T) (he:e<=9223372036854775807) (aL:th<=4611686018427387904) :
  Calls prog 137 #[.slice A n c,.slice A2 n2 c2,.int .i64 e,.int .i64 th] w λr ab=>r=.returned (.bool (free X T e th))/\Below w.heap.size w ab:=by
 go_enter func137,ntmps137;go_wp2_with(fail);refine(ot A n c X e w h hX he).mono ?_;exact Av
namespace CB
theorem Aw(h:p:=by
 by_cases cl:hd.owner=th+1
 .have bQ:=ae cl;have i:=ae cK;have a:(hd.owner == th+1)=true:=by simp;omega
  exact xS
 .have bQ:=ae (show (hd.owner == th+1)=false by simpa using cl);have i:=ae cK;have a:(hd.owner == th+1)=false:=by simp;omega
  exact xS
 ):p:=h
end CB
open CB in
theorem vc(A A2:L3)(n c n2 c2:Nat)(X:List bD)(T:List bV)(e th:Int)(w:World)(h:cp (EF gg) 3 w w.heap.size A n X)(hX:ns X)
  (ht:cp (EF bK) 2 w w.heap.size A2 n2 T) (hT:yD X T) (aL:th<=4611686018427387904) :
  Calls prog 105 #[.slice A n c,.slice A2 n2 c2,.int .i64 e,.int .i64 th] w λr ab=>r=.returned (.bool (free X T e th))/\Below w.heap.size w ab:=by
 go_enter func105,ntmps105;go_wp2_with(fail);refine(kN A n c X e w h hX).mono ?_;exact Av
theorem nB(A:L3)(n c:Nat)(T:List bV)(w:World)(ht:cp (EF bK) 2 w w.heap.size A n T)(hn:n<=5000) :
  Calls prog 97 #[.slice A n c] w λr ab=>∃I aK,r=.returned (.slice I n aK)/\ab.ownsRow w.heap.size 123 2 (.slice I n aK) n (T.flatMap bK)/\Below w.heap.size w ab:=by
 have heq:=λW=>sj (P:=prog) W 37 123 A n c 0 0 Tryz.underlying37;rcases A with _|a
 .have aM:n=0:=by
   rcases Nat.eq_zero_or_pos n with h0|h0
   .exact h0
   .obtain⟨b,o,h,_⟩:=ht.2 h0;cases h
  subst aM;have hT:T=[]:=List.eq_nil_of_length_eq_zero ht.1;subst hT;go_enter func97,ntmps97;exact Ag
 .have ay:=Src.lM ht (eI T) (lq T) ad;go_enter func97,ntmps97;go_wp2_with(at_builtin;refine fX _ kX (by rfl) (.tmp 5) (.tmp 6) (by rfl) (by rfl) _ _ _ _ (by rfl) ay ad ad (λh=>nomatch h) ?_;intro bZ c1 aS bb b1);go_ret;exact⟨bZ,c1,rfl,bb,b1⟩
theorem hh{a:Nat}{e:TypeId}{v:Value}(h:w.ownsRow base e sz v n xs)(O:a<=base):w.ownsRow a e sz v n xs:=by
 refine⟨h.1,?_⟩;rcases h.2 with au|⟨g,cap,cur,rfl,j,rest⟩
 .exact .inl au
 .exact .inr ⟨g,cap,cur,rfl,ad,rest⟩
def gJ(w:World)(T:List bV)(b:Bool)(r:Ending)(ab:World):Prop:=
 ∃I aK,r=.returned (.tuple #[.slice I T.length aK,.bool b])/\ab.ownsRow w.heap.size 123 2 (.slice I T.length aK) T.length (T.flatMap bK)/\Below w.heap.size w ab
theorem gJ.mk'{b K:Bool}(hn:T.length=n)(aB:ab.ownsRow w.heap.size 123 2 (.slice A n c) n (T.flatMap bK))(O:Below w.heap.size w ab)(U:b=K):
  gJ w T b (.returned (.tuple #[.slice A n c,.bool K])) ab:=by
 subst hn U;exact⟨A,c,rfl,aB,O⟩
theorem gJ.open_{b:Bool}{r:Ending}(h:gJ w T b r ab)(hn:T.length=n):
  ∃I aK,r=.returned (.tuple #[.slice I n aK,.bool b])/\n<=aK/\cp (EF bK) 2 ab ab.heap.size I n T/\ab.ownsRow w.heap.size 123 2 (.slice I n aK) n (T.flatMap bK)/\Below w.heap.size w ab:=by
 subst hn;obtain⟨A,c,ba,aB,O⟩:=h;exact⟨A,c,ba,(qF aB).1,jM aB (eI T) rfl,aB,O⟩
theorem jL{k:Nat}{hd:bV}(h:w.ownsRow base 123 2 (.slice A n c) n (T.flatMap bK))(ap:k<n)(hx:T[k]?=some hd):
  ∃g,A=some ⟨g,0,none⟩/\base<=g/\g<w.heap.size/\w.cell? ⟨g,k*2,none⟩=some (.int .i64 hd.owner)/\w.cell? ⟨g,k*2+1,none⟩=some (.int .i64 hd.depth)/\(∀j,w.frozen? ⟨g,j,none⟩=false)/\
   (∀x,(w.setCell ⟨g,k*2,none⟩ (.int .i64 x)).ownsRow base 123 2 (.slice A n c) n ((T.set k ⟨x,hd.depth⟩).flatMap bK))/\
   (∀x,(w.setCell ⟨g,k*2+1,none⟩ (.int .i64 x)).ownsRow base 123 2 (.slice A n c) n ((T.set k ⟨hd.owner,x⟩).flatMap bK)):=by
 obtain⟨g,aX,O,al,hc,J,hs⟩:=im h ad;have h0:=fL bK 2 T (eI T) k hd hx 0 ad;have ac:=fL bK 2 T (eI T) k hd hx 1 ad;refine⟨g,aX,O,al,hc _ _ h0,hc _ _ ac,J,λx=>?_,λx=>?_⟩
 .rw[<-j0 bK 2 T (eI T) k hd hx 0 (.int .i64 x) ⟨x,hd.depth⟩ ad rfl];exact hs _ _ ad
 .rw[<-j0 bK 2 T (eI T) k hd hx 1 (.int .i64 x) ⟨hd.owner,x⟩ ad rfl];exact hs _ _ ad
theorem Ex(A A2:L3)(n c n2 c2:Nat)(X:List bD)(T:List bV)(e th:Int)(w:World)(h:cp (EF gg) 3 w w.heap.size A n X)(hX:ns X)
  (ht:cp (EF bK) 2 w w.heap.size A2 n2 T) (hT:yD X T) (he:e<=9223372036854775807) (aL:th<=4611686018427387904) :
  Calls prog 100 #[.slice A n c,.slice A2 n2 c2,.int .i64 e,.int .i64 th] w (gJ w (fm X T e th) (free X T e th)):=by
 have bc:=ht.1;have cP:n2<=5000:=by have:=ch hX;have:=hT.len;omega
 have aG:=ey X T e th;generalize aR:fm X T e th=L at *;have bO:=ae aR;clear aR;rw[bc] at aG;have I:=ae aG;clear aG;go_enter func100,ntmps100;go_wp2_with(fail);refine(nB A2 n2 c2 T w ht cP).mono ?_;rintro r aS ⟨bZ,c1,rfl,aB,O⟩;go_wp2_with(fail);have F:=h.c8 O O.size;have j:=ht.c8 O O.size;refine(Ej A A2 n c n2 c2 X T e th aS F hX j hT he aL).mono ?_;rintro r aU ⟨rfl,bj⟩;have ak:=O.size;have dl:=O.trans (bj.mono O.size);have az:=b3 aB bj
 cases J:free X T e th with
 | false=>
  go_wp2
  go_ret2
  exact zY
 | true=>
  have hm:0<=bx X e/\0<=th:=by
   exact Aa
  obtain⟨k,m,hd,rfl,ap,d,f,P,bd⟩:=hT.at_ hm.1;have bH:k<n2:=ad;have bl:=hT.bound hd (Ln d);obtain⟨b,o,u,rfl,U,hx,c0,cr⟩:=(ht.dS dl).hold bH;obtain rfl:hd=u:=by rw[d] at hx;injection hx
  obtain⟨g,rfl,a9,c4,e0,e1,s,am,s1⟩:=jL az bH d;have t:=s (k*2);have v:=s (k*2+1);have bU:L=T.set k ⟨th+1,hd.depth+1⟩:=by rw[<-bO.o];unfold fm;rw[J,f];rfl
  obtain⟨b8,bX⟩:=aJ bU J;have bu:=hm.2;have l:=ae (am (th+1));clear hx d f P bU J hm am s1 s bc;go_wp2
  go_ret2
  exact G2
theorem vd(A A2:L3)(n c n2 c2:Nat)(X:List bD)(T:List bV)(e th:Int)(w:World)(h:cp (EF gg) 3 w w.heap.size A n X)(hX:ns X)
  (ht:cp (EF bK) 2 w w.heap.size A2 n2 T) (hT:yD X T) (aL:th<=4611686018427387904) :
  Calls prog 60 #[.slice A n c,.slice A2 n2 c2,.int .i64 e,.int .i64 th] w (gJ w (fm X T e th) (free X T e th)):=by
 have bc:=ht.1;have cP:n2<=5000:=by have:=ch hX;have:=hT.len;omega
 have aG:=ey X T e th;generalize aR:fm X T e th=L at *;have bO:=ae aR;clear aR;rw[bc] at aG;have I:=ae aG;clear aG;go_enter func60,ntmps60;have ay:=Src.lM ht (eI T) (lq T) ad;have aZ:A2=none->n2=0:=λh0=>by
  exact z0
 have cn:=ae aZ;clear aZ;go_wp2_with(at_builtin;refine fX _ kX (by rfl) (.tmp 10) (.tmp 11) (by rfl) (by rfl) _ _ _ _ (by rfl) ay ad ad cn.o ?_;intro bZ c1 aS aB O);go_wp2_with(fail);have F:=h.c8 O O.size;have j:cp (EF bK) 2 aS aS.heap.size bZ n2 T:=jM aB (eI T) bc;refine(vc A bZ n c n2 c1 X T e th aS F hX j hT aL).mono ?_;rintro r aU ⟨rfl,bj⟩;have ak:=O.size;have dl:=O.trans (bj.mono O.size);have az:=b3 aB bj
 cases J:free X T e th with
 | false=>
  go_wp2
  go_ret2
  exact zY
 | true=>
  have hm:0<=bx X e/\0<=th:=by
   exact Aa
  obtain⟨k,m,hd,rfl,ap,d,f,P,bd⟩:=hT.at_ hm.1;have bH:k<n2:=ad;have bl:=hT.bound hd (Ln d);obtain⟨g,rfl,a9,c4,e0,e1,s,am,s1⟩:=jL az bH d;have t:=s (k*2);have v:=s (k*2+1);have bU:L=T.set k ⟨th+1,hd.depth+1⟩:=by rw[<-bO.o];unfold fm;rw[J,f];rfl
  obtain⟨b8,bX⟩:=aJ bU J;have bu:=hm.2;have l:=ae (am (th+1));clear d f P bU J hm am s1 s bc;go_wp2
  go_ret2
  exact G2
namespace CC
theorem Bn(h:p:=by
 obtain⟨b,o,u,rfl,U,hx,c0,cr⟩:=(ht.dS O).hold bH;obtain rfl:hd=u:=by rw[d] at hx;injection hx
 by_cases bR:hd.owner=th+1
 case neg=>
  have J:heldBy X T k th=false:=by
   exact Ae
  have b8:=ae (no J);have bX:=ae J;have y:(hd.owner - 1 != th)=true:=by simp;omega
  clear bR no J bc d f P hm hx;go_wp2
  go_ret2
  exact rG
 have J:heldBy X T k th=true:=by
  exact z3
 have y:(hd.owner - 1 != th)=false:=by simp;omega
 obtain⟨g,rfl,a9,c4,e0,e1,s,am,s1⟩:=jL aB bH d;have t:=s (k*2);have v:=s (k*2+1);have bU:L=T.set k (down hd):=by rw[<-bO.o];unfold cL;rw[J,f];rfl
 obtain⟨b8,bX⟩:=aJ bU J;have D:=ae (s1 (hd.depth - 1));have Q:=ae d;clear hx d f P bU J hm am s1 s bc no bR;exact GQ
 ):p:=h
theorem A3(h:p:=by
 go_enter func101,ntmps101;go_wp2_with(fail);refine(nB A2 n2 c2 T w ht cP).mono ?_;rintro r aS ⟨bZ,c1,rfl,aB,O⟩;have ak:=O.size;have no:heldBy X T e th=false->L=T:=λh=>by rw[<-bO.o];unfold cL;rw[h];rfl
 by_cases ac:0<=e
 case neg=>
  have J:heldBy X T e th=false:=j3 (λah=>ac (fU.1 ah.1).1);have b8:=ae (no J);have bX:=ae J;have b4:e<0:=ad;clear ac no J bc;go_wp2
  go_ret2
  exact rG
 by_cases au:e<n2
 case neg=>
  have J:heldBy X T e th=false:=j3 (λah=>by have:=(fU.1 ah.1).2;have:=bY.o;omega);have b8:=ae (no J);have bX:=ae J;have j:(n2:Int)<=e:=ad;clear au no J bc;go_wp2
  go_ret2
  exact rG
 have hm:0<=bx X e:=mf ac (aD bY.o);obtain⟨k,m,hd,rfl,ap,d,f,P,bd⟩:=hT.at_ hm;have bH:k<n2:=ad;exact Bm
 ):p:=h
end CC
open CC in
theorem xv(A A2:L3)(n c n2 c2:Nat)(X:List bD)(T:List bV)(e th:Int)(w:World)(hX:ns X)
  (ht:cp (EF bK) 2 w w.heap.size A2 n2 T) (hT:yD X T) (aL:th<=4611686018427387904) :
  Calls prog 101 #[.slice A n c,.slice A2 n2 c2,.int .i64 e,.int .i64 th] w (gJ w (cL X T e th) (heldBy X T e th)):=by
 exact A1
namespace CD
theorem Bn(h:p:=by
 obtain⟨g,rfl,a9,c4,e0,e1,s,am,s1⟩:=jL aB bH d;by_cases bR:hd.owner=th+1
 case neg=>
  have J:heldBy X T k th=false:=by
   exact Ae
  have b8:=ae (no J);have bX:=ae J;have y:(hd.owner != th+1)=true:=by simpa using bR
  clear bR no J bc d f P hm am s1 s;go_wp2
  go_ret2
  exact rG
 have J:heldBy X T k th=true:=by
  exact z3
 have y:(hd.owner != th+1)=false:=by simpa using bR
 have t:=s (k*2);have v:=s (k*2+1);have bU:L=T.set k (down hd):=by rw[<-bO.o];unfold cL;rw[J,f];rfl
 obtain⟨b8,bX⟩:=aJ bU J;have D:=ae (s1 (hd.depth - 1));have Q:=ae d;clear d f P bU J hm am s1 s bc no bR;exact GQ
 ):p:=h
theorem A3(h:p:=by
 go_enter func61,ntmps61;have ay:=Src.lM ht (eI T) (lq T) ad;have aZ:A2=none->n2=0:=λh0=>by
  exact z0
 have cn:=ae aZ;clear aZ;go_wp2_with(at_builtin;refine fX _ kX (by rfl) (.tmp 10) (.tmp 11) (by rfl) (by rfl) _ _ _ _ (by rfl) ay ad ad cn.o ?_;intro bZ c1 aS j C);go_wp2_with(fail);have F:=h.c8 C C.size;refine(kN A n c X e aS F hX).mono ?_;rintro r aU ⟨rfl,bj⟩;have q:=C.size;have O:=C.trans (bj.mono C.size);have ak:=O.size;have aB:=b3 j bj;clear bj j C q;have no:heldBy X T e th=false->L=T:=λh=>by rw[<-bO.o];unfold cL;rw[h];rfl
 by_cases hm:0<=bx X e
 case neg=>
  have J:heldBy X T e th=false:=j3 (λah=>hm ah.1);have b8:=ae (no J);have bX:=ae J;have b4:bx X e<0:=ad;clear hm no J bc;go_wp2
  go_ret2
  exact rG
 obtain⟨k,m,hd,rfl,ap,d,f,P,bd⟩:=hT.at_ hm;have bH:k<n2:=ad;rw[P];exact Bm
 ):p:=h
end CD
open CD in
theorem rB(A A2:L3)(n c n2 c2:Nat)(X:List bD)(T:List bV)(e th:Int)(w:World)(h:cp (EF gg) 3 w w.heap.size A n X)(hX:ns X)
  (ht:cp (EF bK) 2 w w.heap.size A2 n2 T) (hT:yD X T) (aL:th<=4611686018427387904) :
  Calls prog 61 #[.slice A n c,.slice A2 n2 c2,.int .i64 e,.int .i64 th] w (gJ w (cL X T e th) (heldBy X T e th)):=by
 exact A1
end
theorem vz(x:Int):∃k,wrap64 x=x - 18446744073709551616*k:=⟨(x+9223372036854775808) / 18446744073709551616,by unfold wrap64;omega⟩
theorem rb(z m:Int):wrap64 (z - 18446744073709551616*m)=wrap64 z:=by unfold wrap64;omega
theorem oS(x y:Int):wrap64 (wrap64 x*y)=wrap64 (x*y):=by
 obtain⟨k,ap⟩:=vz x;rw[ap,show (x - 18446744073709551616*k)*y=x*y - 18446744073709551616*(k*y) by rw[Int.sub_mul,Int.mul_assoc],rb]
theorem nZ(x y:Int):wrap64 (x - wrap64 y)=wrap64 (x - y):=by
 obtain⟨k,ap⟩:=vz y;rw[ap,show x - (y - 18446744073709551616*k)=x - y - 18446744073709551616*(-k) by omega,rb]
section
attribute [local go_sem ↓] gr gu
def Fits(n:Int):Prop:=-9223372036854775808<=n/\n<=9223372036854775807
theorem oH(n:Int):Fits (wrap64 n):=by unfold Fits wrap64;omega
theorem mv(b:Bool):Fits (fo b):=by cases b<;>(unfold Fits fo;decide)
def VE.fit:VE->Prop
 | .num n=>Fits n
 | .g7 _=>True
 | .loc _=>True
 | .iF _=>True
 | .un _ x=>x.fit
 | .bin _ x y=>x.fit/\y.fit
theorem sq(a b:Int)(bz:Fits a):Fits (a.tmod b):=by
 have c:=Int.natAbs_tmod a b;have hle:a.natAbs % b.natAbs<=a.natAbs:=Nat.mod_le _ _;rw[<-c] at hle;unfold Fits at *;rcases Int.lt_trichotomy a 0 with h|h|h
 .have au:=Int.tmod_nonneg b (show 0<=-a by omega);rw[Int.neg_tmod] at au;generalize a.tmod b=r at *;omega
 .subst h;simp
 .have au:=Int.tmod_nonneg b (show 0<=a by omega);generalize a.tmod b=r at *;omega
theorem iw:Fits 0:=by unfold Fits;decide
theorem EK:Fits 1:=by unfold Fits;decide
theorem wa(op a b:Int)(bz:Fits a):Fits (arith op a b).1:=by
 unfold arith
 repeat' split
 all_goals first|exact oH _|exact mv _|exact sq _ _ bz|exact iw
theorem r2{g:List Int}(a9:∀x∈g,Fits x)(k:Nat):Fits (g.getD k 0):=by
 rw[List.getD_eq_getElem?_getD]
 cases h:g[k]? with
 | none=>exact iw
 | some v=>exact a9 v (Ln h)
theorem tg{g l:List Int}(a9:∀x∈g,Fits x)(hl:∀x∈l,Fits x):∀e:VE,e.fit->Fits (ev g l e).1
 | .num _,h=>h
 | .g7 _,_=>iw
 | .loc _,_=>r2 hl _
 | .iF _,_=>r2 a9 _
 | .un op x,_=>by
  rw[ev]
  repeat' split
  all_goals first|exact iw|exact oH _|exact mv _
 | .bin op x y,h=>by
  rw[ev]
  repeat' split
  all_goals first|exact iw|exact EK|exact mv _|exact wa _ _ _ (tg a9 hl x h.1)
theorem Gj(a b:Int)(bz:Fits a):wrap64 (a - wrap64 (wrap64 (a.tdiv b)*b))=a.tmod b:=by
 rw[oS,nZ,show a - a.tdiv b*b=a.tmod b by have:=Int.tdiv_mul_add_tmod a b;omega];exact IntWalk.wrap64_in _ (sq a b bz)
structure n8(g l:List Int)(e:VE):Prop where
 fg:∀x∈g,Fits x
 fl:∀x∈l,Fits x
 fe:e.fit
def iW(e:VE):Prop:=∀(w:World) (G L:L3) (ng nl cg cl:Nat) (g l:List Int) (c0 c1 c2 c3:Value),lR w G L ng nl g l e [c0,c1,c2,c3]->n8 g l e->
 Calls prog 57 #[.agg #[c0,c1,c2,c3],.slice G ng cg,.slice L nl cl] w (gb w (ev g l e))
theorem Gi(n:Int):iW (.num n):=by
 intro w G L ng nl cg cl g l c0 c1 c2 c3 h _;obtain⟨nm,A,c,T⟩:=h.rep;injection T with h0 T;injection T with ac T;injection T with au T;injection T with aY T;subst h0 ac au aY;clear h T;go_enter func57,ntmps57;go_wp2
 go_ret2
 exact vL
theorem ym(e:VE)(k:Int)(he:e=.loc k\/e=.iF k):iW e:=by
 intro w G L ng nl cg cl g l c0 c1 c2 c3 h _;have a:=(Below.refl w.heap.size w).alloc (Lk _) (.cells #[c0,c1,c2,c3] 53);have bz:=h.gs.c8 a a.size;have y:=h.ls.c8 a a.size;clear a;have bM:=h.ok;rcases he with rfl|rfl
 all_goals
  obtain⟨nm,A,c,T⟩:=h.rep;injection T with h0 T;injection T with ac T;injection T with au T;injection T with aY T;subst h0 ac au aY;clear h T;obtain⟨br,cd⟩:=bM;obtain⟨j,rfl⟩:=Lp br
 .obtain⟨b,o,x,rfl,O,hx,hc⟩:=y.int (show j<nl by omega);have bi:j<nl:=ad;have aQ:=ae (show ev g l (.loc j)=(x,0) by simp[ev,List.getD_eq_getElem?_getD,hx]);clear hx bz y;go_enter func57,ntmps57;go_wp2
  go_ret2
  exact gb.mk' aQ.o ((Below.refl _ _).alloc (Lk _) _)
 .obtain⟨b,o,x,rfl,O,hx,hc⟩:=bz.int (show j<ng by omega);have bi:j<ng:=ad;have aQ:=ae (show ev g l (.iF j)=(x,0) by simp[ev,List.getD_eq_getElem?_getD,hx]);clear hx bz y;go_enter func57,ntmps57;go_wp2
  go_ret2
  exact gb.mk' aQ.o ((Below.refl _ _).alloc (Lk _) _)
namespace CE
theorem Bd(h:p:=by
 have bX:=ae (show n8 g l x from ⟨i.fg,i.fl,i.fe⟩);obtain⟨ck,bQ⟩:=aJ aB cA;clear h hx aB i;have cb:(op == 1)=false:=by simp;omega
 have g2:(op == 18)=false:=by simp;omega
 have cT:(op == 19)=false:=by simp;omega
 clear cA;have f:=(Below.refl w.heap.size w).alloc (Lk _) (.cells #[.int .i64 op,.int .i64 n,.string nm,.slice (some ⟨b,o,none⟩) 1 c] 53);have a0:(w.alloc (.cells #[.int .i64 op,.int .i64 n,.string nm,.slice (some ⟨b,o,none⟩) 1 c] 53)).cell? ⟨w.heap.size,0,none⟩=some (.int .i64 op):=by simp[go_sem]
 have a3:(w.alloc (.cells #[.int .i64 op,.int .i64 n,.string nm,.slice (some ⟨b,o,none⟩) 1 c] 53)).cell? ⟨w.heap.size,3,none⟩=some (.slice (some ⟨b,o,none⟩) 1 c):=by simp[go_sem]
 have bN:(w.alloc (.cells #[.int .i64 op,.int .i64 n,.string nm,.slice (some ⟨b,o,none⟩) 1 c] 53)).heap.size=w.heap.size+1:=by simp
 have HA:=bJ a0 a3 bN f;clear a0 a3 bN f;go_enter func57,ntmps57;go_wp2_with(fail);refine(ck.o _ G L ng nl cg cl g l bx Z a4 E (aG.on HA.2.2.2) bX.o).mono ?_;rintro r aS ⟨rfl,b1⟩;obtain⟨a0,a3,bN,f⟩:=HA.o;have c8:=(b1.cell (p:=⟨w.heap.size,0,none⟩) (by simp only[];omega)).trans a0;have J:=f.trans (b1.mono f.size);have z:=ae J;clear HA a0 a3 bN f b1 aG ck J;have bo:=ae (show ev g l (.un op x)=if (ev g l x).2≠0 then (0,(ev g l x).2) else if op=3 then (wrap64 (-(ev g l x).1),0) else (fo ((ev g l x).1 == 0),0) from rfl);clear bX;generalize ev g l x=r1 at *;obtain⟨v1,f1⟩:=r1;by_cases aK:f1=0
 case neg=>
  have q1:(f1 != 0)=true:=by simpa using aK
  have aX:=ae (show ev g l (.un op x)=(0,f1) by rw[bo.o];simp[aK]);clear aK;go_wp2
  go_ret2
  exact gb.mk' aX.o z.o
 have q1:(f1 != 0)=false:=by simpa using aK
 rcases bQ.o with aY|bR
 .have aX:=ae (show ev g l (.un op x)=(wrap64 (-v1),0) by rw[bo.o];simp[aK,aY]);subst aY;clear aK;go_wp2
  go_ret2
  exact gb.mk' aX.o z.o
 .have aX:=ae (show ev g l (.un op x)=(fo (v1 == 0),0) by rw[bo.o];simp[aK,bR]);subst bR;clear aK;go_wp2_with(fail);refine(h9 _ _).mono ?_;rintro e ab ⟨rfl,rfl⟩;go_wp2
  go_ret2
  exact gb.mk' aX.o z.o
 ):p:=h
end CE
open CE in
theorem Ii(op:Int)(x:VE)(aB:iW x):iW (.un op x):=by
 intro w G L ng nl cg cl g l c0 c1 c2 c3 h i;exact Bc
namespace CF
theorem Bj(h:p:=by
 have split:(op == 16)=true/\(v1 == 0)=false/\(op == 17)=false\/(op == 16)=false/\(op == 17)=true/\(v1 != 0)=false\/(op == 16)=false/\(op == 17)=false:=by
  exact G6
 clear bz bn bo;have bq:=ae split;clear split;have second:∀(P:Prop),P->P:=λ_ h=>h;clear second;rcases bq.o with⟨bs,br,dz⟩|⟨bs,br,dz⟩|⟨bs,br⟩
 all_goals
  go_wp2_with(fail);refine(t.o _ G L ng nl cg cl g l b2 cG ch bA (j.on z.o) bX.2).mono ?_;rintro r aU ⟨rfl,bj⟩;have hr:=(bj.cell (p:=⟨w.heap.size,0,none⟩) al).trans c8;have cX:=ae (z.trans (bj.mono z.size));clear bj z c8 cW d4 d5 d6 d7 j t al;generalize ev g l y=gM at *;obtain⟨v2,f2⟩:=gM;by_cases az:f2=0
  case neg=>
   have df:(f2 != 0)=true:=by simpa using az
   have cc:=ae (show ev g l (.bin op x y)=(0,f2) by rw[bd.o];simp[az]);clear az;go_wp2
   go_ret2
   exact gb.mk' cc.o cX.o
  have df:(f2 != 0)=false:=by simpa using az
  have cc:=ae (show ev g l (.bin op x y)=if op=16\/op=17 then (fo (v2 != 0),0) else arith op v1 v2 by rw[bd.o];simp[az]);clear az bd bq
  try clear dz
  first
  | (have F:=ae (show ev g l (.bin op x y)=(fo (v2 != 0),0) by rw[cc.o,if_pos (by first|exact .inl (by simpa using bs)|exact .inr (by simpa using br))]);have hc:op=16\/op=17:=(by first|exact .inl (by simpa using bs)|exact .inr (by simpa using br));clear bs br cc cb g2 cT da fh;rcases hc with rfl|rfl;all_goals
     go_wp2_with(fail);refine(h9 _ _).mono ?_;rintro e ab ⟨rfl,rfl⟩;go_wp2
     go_ret2
     exact gb.mk' F.o cX.o)
  | (have bf:op≠16/\op≠17:=⟨by simpa using bs,by simpa using br⟩;have F:=ae (show ev g l (.bin op x y)=arith op v1 v2 by rw[cc.o,if_neg ad]);have hc:op=5\/op=6\/op=7\/op=8\/op=9\/op=10\/op=11\/op=12\/op=13\/op=14\/op=15:=(aD bQ.o);clear bs br cc cb g2 cT da fh bf bQ;by_cases h0:v2=0
     .subst h0;clear ce;rcases hc with rfl|rfl|rfl|rfl|rfl|rfl|rfl|rfl|rfl|rfl|rfl
      all_goals
       go_wp2_with(fail)
       try (refine(h9 _ _).mono ?_;rintro e ab ⟨rfl,rfl⟩;go_wp2)
       go_ret2
       first|exact gb.mk' F.o cX.o|exact gb.mk' (F.trans (by first|(simp[arith];done)|(simp[arith];decide +kernel))) cX.o
     .have dd:(v2 == 0)=false:=by simpa using h0
      have bh:=ae h0;clear h0;rcases hc with rfl|rfl|rfl|rfl|rfl|rfl|rfl|rfl|rfl|rfl|rfl
      case inr.inl=>
       go_wp2_with(fail);refine(m3 _ _ bh.o _).mono ?_;rintro e ab ⟨rfl,rfl⟩;go_wp2
       go_ret2
       exact gb.mk' (F.trans (by simp[arith,bh.o])) cX.o
      case inr.inr.inl=>
       go_wp2_with(fail);refine(m3 _ _ bh.o _).mono ?_;rintro e ab ⟨rfl,rfl⟩;go_wp2
       go_ret2
       exact gb.mk' (F.trans (by simp[arith,bh.o,Gj _ _ ce.o])) cX.o
      all_goals
       clear dd;go_wp2_with(fail)
       try (refine(h9 _ _).mono ?_;rintro e ab ⟨rfl,rfl⟩;go_wp2)
       go_ret2
       exact gb.mk' F.o cX.o)
 ):p:=h
theorem AS(h:p:=by
 by_cases aK:f1=0
 case neg=>
  have q1:(f1 != 0)=true:=by simpa using aK
  have aX:=ae (show ev g l (.bin op x y)=(0,f1) by rw[bo.o];simp[aK]);clear aK;go_wp2
  go_ret2
  exact gb.mk' aX.o z.o
 have q1:(f1 != 0)=false:=by simpa using aK
 have S:=ae aK;clear aK;by_cases bz:op=16/\v1=0
 .obtain⟨rfl,rfl⟩:=bz;have aX:=ae (show ev g l (.bin 16 x y)=(0,0) by rw[bo.o];simp[S.o]);go_wp2
  go_ret2
  exact gb.mk' aX.o z.o
 by_cases bn:op=17/\v1≠0
 .obtain⟨rfl,bG⟩:=bn;have cN:(v1 != 0)=true:=by simpa using bG
  have aX:=ae (show ev g l (.bin 17 x y)=(1,0) by rw[bo.o];simp[S.o,bG]);clear bG;go_wp2
  go_ret2
  exact gb.mk' aX.o z.o
 exact Bi
 ):p:=h
theorem AL(h:p:=by
 have bX:=ag (show n8 g l x from ⟨i.fg,i.fl,i.fe.1⟩) (show n8 g l y from ⟨i.fg,i.fl,i.fe.2⟩);have ce:=ae (tg i.fg i.fl x i.fe.1);obtain⟨ck,t,bQ⟩:=ek k m cA;clear h hx bb k m i;have cb:(op == 1)=false:=by simp;omega
 have g2:(op == 18)=false:=by simp;omega
 have cT:(op == 19)=false:=by simp;omega
 have da:(op == 3)=false:=by simp;omega
 have fh:(op == 4)=false:=by simp;omega
 clear cA;have f:=(Below.refl w.heap.size w).alloc (Lk _) (.cells #[.int .i64 op,.int .i64 n,.string nm,.slice (some ⟨b,o,none⟩) 2 c] 53);have a0:(w.alloc (.cells #[.int .i64 op,.int .i64 n,.string nm,.slice (some ⟨b,o,none⟩) 2 c] 53)).cell? ⟨w.heap.size,0,none⟩=some (.int .i64 op):=by simp[go_sem]
 have a3:(w.alloc (.cells #[.int .i64 op,.int .i64 n,.string nm,.slice (some ⟨b,o,none⟩) 2 c] 53)).cell? ⟨w.heap.size,3,none⟩=some (.slice (some ⟨b,o,none⟩) 2 c):=by simp[go_sem]
 have bN:(w.alloc (.cells #[.int .i64 op,.int .i64 n,.string nm,.slice (some ⟨b,o,none⟩) 2 c] 53)).heap.size=w.heap.size+1:=by simp
 have HA:=bJ a0 a3 bN f;clear a0 a3 bN f;go_enter func57,ntmps57;go_wp2_with(fail);refine(ck.o _ G L ng nl cg cl g l bx Z a4 E (aG.on HA.2.2.2) bX.1).mono ?_;rintro r aS ⟨rfl,b1⟩;obtain⟨a0,a3,bN,f⟩:=HA.o;have c8:=(b1.cell (p:=⟨w.heap.size,0,none⟩) (by simp only[];omega)).trans a0;have cW:=(b1.cell (p:=⟨w.heap.size,3,none⟩) (by simp only[];omega)).trans a3;have J:=f.trans (b1.mono f.size);have d4:=(J.cell (p:=⟨b,o+4,none⟩) O).trans a6;have d5:=(J.cell (p:=⟨b,o+5,none⟩) O).trans cu;have d6:=(J.cell (p:=⟨b,o+6,none⟩) O).trans bB;have d7:=(J.cell (p:=⟨b,o+7,none⟩) O).trans e7;have al:w.heap.size<aS.heap.size:=by have:=b1.size;omega
 have z:=ae J;clear HA a0 a3 bN f b1 aG ck J e0 e1 e2 e3 a6 cu bB e7;exact AR
 ):p:=h
end CF
open CF in
theorem Gh(op:Int)(x y:VE)(k:iW x)(m:iW y):iW (.bin op x y):=by
 intro w G L ng nl cg cl g l c0 c1 c2 c3 h i;exact AK
theorem nO:∀e:VE,iW e
 | .num n=>Gi n
 | .g7 _=>λ_ _ _ _ _ _ _ _ _ _ _ _ _ h _=>h.ok.elim
 | .loc k=>ym _ k (.inl rfl)
 | .iF k=>ym _ k (.inr rfl)
 | .un op x=>Ii op x (nO x)
 | .bin op x y=>Gh op x y (nO x) (nO y)
end
end Go.Proofs.YtkhnkojkplbioaaGreat

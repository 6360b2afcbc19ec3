/- Part 14 of the proof. No condition of its own. -/
import Derived.Test.YtnigabjngpnbiaaGreatQ11
namespace Go.Proofs.YtnigabjngpnbiaaGreat
open Go.RowKit Go.Proofs.Tryz
set_option maxRecDepth 1000000
set_option maxHeartbeats 25600000
set_option linter.unusedVariables false
variable{b:Bool}{e:Int}{xs:List Value}{X:List bI}{T:List cp}{base c n sz:Nat}{A:Kj}{p:Prop}{J w:World}
section
attribute [local go_sem ↓] fH fI
theorem oL{e:TypeId}(h:w.ownsRow base e sz (.slice A n c) n xs):n<=c/\(A=none->n=0):=by
 rcases h.2 with⟨bD,h0⟩|⟨g,cap,cur,bD,_,_,a7,_⟩
 .injection bD with ac ap aD;exact⟨ad,λ_=>h0⟩
 .injection bD with ac ap aD;subst ac aD;exact⟨a7,(λh=>nomatch h)⟩
theorem k7(A:Kj)(n c:Nat)(X:List bI)(w:World)(h:cB (EF fO) 3 w w.heap.size A n X)(hX:l5 X) :
  Calls prog 70 #[.slice A n c] w λr J=>∃a1 aW,r=.returned (.slice a1 (own X).length aW)/\(own X).length<=aW/\cB (EF dr) 1 J J.heap.size a1 (own X).length (own X)/\Below w.heap.size w J:=by
 have hl:=h.1;have hn:=hX.1;go_enter func70,ntmps70;go_wp2;go_loopw [3,4] (λv i wr=>∃k:Nat,k<=n/\i=.int .i64 k/\wr.ownsRow w.heap.size 3 1 v (h3 X k).length ((h3 X k).flatMap dr)/\Below w.heap.size w wr) (λ_ i _=>n - (intOf i).toNat)
 case atStart=>exact⟨0,J4 _,rfl,by rw[oK];exact World.ownsRow_nil _ _ _ _,Below.refl _ _⟩
 case round=>
  obtain⟨k,aj,rfl,aE,O⟩:=hrel;by_cases aq:k<n
  .have cF:∃m,X[k]?=some m:=⟨_,List.getElem?_eq_getElem ad⟩
   obtain⟨m,hm⟩:=cF;have bY:=hX.at_ hm;have cF:=ae hm;clear hm;go_wp2;obtain⟨cq,rfl⟩:∃cq:World,cq=wr:=⟨_,rfl⟩
   go_loopw [3,5] (λv i wr=>∃j:Nat,j<=m.oH/\i=.int .i64 j/\wr.ownsRow w.heap.size 3 1 v ((h3 X k).length+j) ((h3 X k++List.replicate j (k:Int)).flatMap dr)/\Below w.heap.size w wr) (λ_ i _=>m.oH - (intOf i).toNat)
   case atStart=>exact⟨0,J4 _,rfl,by simpa using aE,O⟩
   case round=>
    obtain⟨j,be,rfl,u,aN⟩:=hrel;clear aE;obtain⟨b,o,aR,rfl,H,hm,c0,c1,c2⟩:=(h.ep aN).HF aq;obtain rfl:aR=m:=by have:=cF.o;rw[hm] at this;injection this
    have G:=aN.size;have F:(aR.oH:Int)=max aR.size 1:=aR.rA;have d:=fG X k ad;have z:=hX.lA k;clear hm;by_cases cl:j<aR.oH
    .have a9:(j:Int)<max aR.size 1:=ad;have al:(h3 X k).length+j+1<=5000:=ad;obtain⟨bN,cY⟩:=aI F d;clear F d;go_wp2_with(at_builtin;refine eA _ eK (by rfl) (.tmp 22) (.tmp 24) (by rfl) w.heap.size _ _ _ _ (by rfl) u (by rfl) (by rfl) (Dk _ _) ad ad G ?_;intro v1 aL aA N e);go_roundw
     case rel=>
      refine⟨j+1,ad,by go_num,?_,hf aN u N (JI _) G⟩;rw[List.replicate_succ',<-List.append_assoc,pI];exact aA
     case measure=>exact aU
    .obtain rfl:j=aR.oH:=ad;have bm:¬((aR.oH:Int)<max aR.size 1):=ad;obtain⟨bN,cY⟩:=aI F d;clear F d;go_wp2;go_roundw
     case rel=>
      refine⟨k+1,ad,by go_num,?_,aN⟩;rw[js cF.o,JK,List.length_replicate];exact u
     case measure=>exact aU
  .obtain rfl:k=n:=ad;obtain⟨bz,c1,rfl,b4,_,_,_⟩:=cj aE;have bW:=ae hl;clear hl;go_wp2;go_ret;have he:own X=h3 X k:=by unfold own;rw[bW.o]
   rw[he];exact⟨_,_,rfl,b4,iV aE (iP _) rfl,O⟩
theorem sN(A:Kj)(n c:Nat)(X:List bI)(m:Int)(w:World)(h:cB (EF fO) 3 w w.heap.size A n X)(hX:l5 X) :
  Calls prog 118 #[.slice A n c,.int .i64 m] w λr J=>r=.returned (.int .i64 (eh X m))/\Below w.heap.size w J:=by
 go_enter func118,ntmps118;go_wp2_with(fail);refine(k7 A n c X w h hX).mono ?_;rintro e aL ⟨bz,c1,rfl,b4,aZ,O⟩;have d:=cq hX;have hl:=h.1;generalize bo:(own X).length=N at *;obtain⟨bN,bW⟩:=aI bo hl;clear bo hl;go_wp2
 go_loop [6] (λi=>∃k:Nat,k<=N/\i=.int .i64 k/\∀j,j<k->(own X)[j]?≠some m) (λi=>N - (intOf i).toNat)
 case atStart=>exact⟨0,J4 _,rfl,λj be=>absurd be ad⟩
 case round=>
  obtain⟨k,aj,rfl,bK⟩:=hrel;have ay:=ae bK;clear bK;by_cases aq:k<N
  .obtain⟨b,o,x,rfl,H,hx,c0⟩:=aZ.int aq;have aJ:=ae hx;clear hx;by_cases f:x=m
   .subst f;have a2:=ae (show eh X x=k by
     obtain⟨i,t,bD,u,ac,ap⟩:=ED aJ.o;have I:i<X.length:=(List.getElem?_eq_some_iff.1 u).1;rw[bD,mb I];have aA:=qq I;rcases Int.lt_or_le (elems (X.take i)) k with aq|hle
     .exact absurd (by rw[aA,bD]) (ay.o (elems (X.take i)).toNat (by have:=(hX.lA i).1;omega))
     .omega)
    exact pR
   .have aH:(x == m)=false:=by simpa using f
    go_wp2
    go_round
    case rel=>
     refine⟨k+1,ad,by go_num,λj be=>?_⟩;by_cases z:j<k
     .exact ay.o j z
     .obtain rfl:j=k:=ad;rw[aJ.o];intro he;injection he with he;exact f he
    case measure=>exact aU
  .obtain rfl:k=N:=ad;have a2:=ae (show eh X m = -1 by
    apply kW
    rcases Int.lt_or_le m 0 with h0|h0
    .exact .inl h0
    .rcases Int.lt_or_le m X.length with ac|ac
     .exfalso;have aA:=qq (X:=X) (k:=m.toNat) ad;have aq:=(List.getElem?_eq_some_iff.1 aA).1;rw[bN.o] at aq;exact ay.o _ aq (by rw[aA];congr 1;omega)
     .exact .inr ac)
   exact pR
theorem j4(A:Kj)(n c:Nat)(X:List bI)(m:Int)(w:World)(h:cB (EF fO) 3 w w.heap.size A n X)(hX:l5 X) :
  Calls prog 45 #[.slice A n c,.int .i64 m] w λr J=>r=.returned (.int .i64 (bh X m))/\Below w.heap.size w J:=by
 go_enter func45,ntmps45;go_wp2_with(fail);refine(k7 A n c X w h hX).mono ?_;rintro e aL ⟨bz,c1,rfl,b4,aZ,O⟩;have d:=cq hX;have ce:=dR X;generalize bo:(own X).length=N at *;obtain⟨bN,bd⟩:=aI bo ce;clear bo ce;by_cases h0:m<0
 .have a2:=ae (show bh X m = -1 from ib h0);exact pR
 by_cases ac:(N:Int)<=m
 .have a2:=ae (show bh X m = -1 from ie (aC bd.o));exact pR
 obtain⟨k,rfl⟩:=JN (show 0<=m by omega);obtain⟨b,o,x,rfl,H,hx,c0⟩:=aZ.int (show k<N by omega);have a2:=ae (show bh X k=x by unfold bh;rw[if_neg ad,J3,hx];rfl);have f:k<N:=ad;clear hx ac h0;exact pR
end
section
attribute [local go_sem ↓] fH fI
def jm(T:List cp)(e:Int):cp:=(T[e.toNat]?).getD ⟨0,0⟩
def uR(X:List bI)(i:Int):Bool:=((X[i.toNat]?).map bI.re).getD false
def free(X:List bI)(T:List cp)(e th:Int):Bool:=
 decide (0<=bh X e/\0<=th) && ((jm T e).owner == 0 || ((jm T e).owner == th+1 && uR X (bh X e)))
def heldBy(X:List bI)(T:List cp)(e th:Int):Bool:=decide (0<=bh X e/\0<=th) && (jm T e).owner == th+1
def eV(X:List bI)(T:List cp)(e th:Int):List cp:=if free X T e th then T.set e.toNat ⟨th+1,(jm T e).depth+1⟩ else T
def down(h:cp):cp:=⟨if h.depth - 1=0 then 0 else h.owner,h.depth - 1⟩
def cJ(X:List bI)(T:List cp)(e th:Int):List cp:=if heldBy X T e th then T.set e.toNat (down (jm T e)) else T
structure D1(X:List bI)(T:List cp):Prop where
 len:T.length=(own X).length
 bound:∀h∈T,0<=h.owner/\h.owner<=1000000000/\0<=h.depth/\h.depth<=1000000000
theorem D1.at_(h:D1 X T)(he:0<=bh X e):∃k m hd,e=(k:Nat)/\k<T.length/\T[k]?=some hd/\jm T e=hd/\bh X e=(m:Nat)/\m<X.length:=by
 obtain⟨h0,ac⟩:=fp.1 he;obtain⟨i,t,I,hm,_⟩:=lL he;obtain⟨k,rfl⟩:=JN h0;have hl:=dR X;have aj:k<T.length:=by rw[h.len];omega
 exact⟨k,i,T[k],rfl,aj,List.getElem?_eq_getElem aj,by unfold jm;rw[J3,List.getElem?_eq_getElem aj];rfl,I,(List.getElem?_eq_some_iff.1 hm).1⟩
theorem oo{th:Int}(h:¬(0<=bh X e/\0<=th)):free X T e th=false:=by
 unfold free;rw[decide_eq_false h];rfl
theorem jn{th:Int}(h:¬(0<=bh X e/\0<=th)):heldBy X T e th=false:=by
 unfold heldBy;rw[decide_eq_false h];rfl
theorem eD(X:List bI)(T:List cp)(e th:Int):(eV X T e th).length=T.length:=by
 unfold eV;split<;>simp
theorem ez(X:List bI)(T:List cp)(e th:Int):(cJ X T e th).length=T.length:=by
 unfold cJ;split<;>simp
namespace Bi
theorem yO(h:p:=by
 by_cases I:hd.owner=th+1
 .have cY:=ae I;have j:=ae i;have a:(hd.owner - 1 == th)=true:=by simp;omega
  exact vN
 .have cY:=ae (show (hd.owner == th+1)=false by simpa using I);have j:=ae i;have a:(hd.owner - 1 == th)=false:=by simp;omega
  exact vN
 ):p:=h
end Bi
open Bi in
theorem CZ(A bg:Kj)(n c n2 c2:Nat)(X:List bI)(T:List cp)(e th:Int)(w:World)(h:cB (EF fO) 3 w w.heap.size A n X)(hX:l5 X)
  (ht:cB (EF bA) 2 w w.heap.size bg n2 T) (hT:D1 X T) (he:e<=9223372036854775807) (a5:th<=4611686018427387904) :
  Calls prog 112 #[.slice A n c,.slice bg n2 c2,.int .i64 e,.int .i64 th] w λr J=>r=.returned (.bool (free X T e th))/\Below w.heap.size w J:=by
 go_enter func112,ntmps112;go_wp2_with(fail);refine(mV A n c X e w h hX he).mono ?_;exact yN
namespace Bj
theorem yO(h:p:=by
 by_cases I:hd.owner=th+1
 .have cY:=ae I;have j:=ae i;have a:(hd.owner == th+1)=true:=by simp;omega
  exact vN
 .have cY:=ae (show (hd.owner == th+1)=false by simpa using I);have j:=ae i;have a:(hd.owner == th+1)=false:=by simp;omega
  exact vN
 ):p:=h
end Bj
open Bj in
theorem sO(A bg:Kj)(n c n2 c2:Nat)(X:List bI)(T:List cp)(e th:Int)(w:World)(h:cB (EF fO) 3 w w.heap.size A n X)(hX:l5 X)
  (ht:cB (EF bA) 2 w w.heap.size bg n2 T) (hT:D1 X T) (a5:th<=4611686018427387904) :
  Calls prog 119 #[.slice A n c,.slice bg n2 c2,.int .i64 e,.int .i64 th] w λr J=>r=.returned (.bool (free X T e th))/\Below w.heap.size w J:=by
 go_enter func119,ntmps119;go_wp2_with(fail);refine(j4 A n c X e w h hX).mono ?_;exact yN
theorem me(A:Kj)(n c:Nat)(T:List cp)(w:World)(ht:cB (EF bA) 2 w w.heap.size A n T)(hn:n<=5000) :
  Calls prog 63 #[.slice A n c] w λr J=>∃a1 aW,r=.returned (.slice a1 n aW)/\J.ownsRow w.heap.size 89 2 (.slice a1 n aW) n (T.flatMap bA)/\Below w.heap.size w J:=by
 have heq:=λW=>qw (P:=prog) W 28 89 A n c 0 0 Tryz.underlying28;rcases A with _|a
 .have ai:n=0:=by
   rcases Nat.eq_zero_or_pos n with h0|h0
   .exact h0
   .obtain⟨b,o,h,_⟩:=ht.2 h0;cases h
  subst ai;have hT:T=[]:=List.eq_nil_of_length_eq_zero ht.1;subst hT;go_enter func63,ntmps63;exact yu
 .have ay:=Src.kL ht (dY T) (ku T) ad;go_enter func63,ntmps63;go_wp2_with(at_builtin;refine fu _ kf (by rfl) (.tmp 5) (.tmp 6) (by rfl) (by rfl) _ _ _ _ (by rfl) ay ad ad (λh=>nomatch h) ?_;intro bz c1 aL aA bY);go_ret;exact⟨bz,c1,rfl,aA,bY⟩
theorem gC{a:Nat}{e:TypeId}{v:Value}(h:w.ownsRow base e sz v n xs)(O:a<=base):w.ownsRow a e sz v n xs:=by
 refine⟨h.1,?_⟩;rcases h.2 with ap|⟨g,cap,cur,rfl,j,rest⟩
 .exact .inl ap
 .exact .inr ⟨g,cap,cur,rfl,ad,rest⟩
def fV(w:World)(T:List cp)(b:Bool)(r:Ending)(J:World):Prop:=
 ∃a1 aW,r=.returned (.tuple #[.slice a1 T.length aW,.bool b])/\J.ownsRow w.heap.size 89 2 (.slice a1 T.length aW) T.length (T.flatMap bA)/\Below w.heap.size w J
theorem fV.mk'{Y:Bool}(hn:T.length=n)(aE:J.ownsRow w.heap.size 89 2 (.slice A n c) n (T.flatMap bA))(O:Below w.heap.size w J)(H:b=Y):
  fV w T b (.returned (.tuple #[.slice A n c,.bool Y])) J:=by
 subst hn H;exact⟨A,c,rfl,aE,O⟩
theorem fV.open_{r:Ending}(h:fV w T b r J)(hn:T.length=n):
  ∃a1 aW,r=.returned (.tuple #[.slice a1 n aW,.bool b])/\n<=aW/\cB (EF bA) 2 J J.heap.size a1 n T/\J.ownsRow w.heap.size 89 2 (.slice a1 n aW) n (T.flatMap bA)/\Below w.heap.size w J:=by
 subst hn;obtain⟨A,c,aZ,aE,O⟩:=h;exact⟨A,c,aZ,(oL aE).1,iV aE (dY T) rfl,aE,O⟩
theorem iU{k:Nat}{hd:cp}(h:w.ownsRow base 89 2 (.slice A n c) n (T.flatMap bA))(aj:k<n)(hx:T[k]?=some hd):
  ∃g,A=some ⟨g,0,none⟩/\base<=g/\g<w.heap.size/\w.cell? ⟨g,k*2,none⟩=some (.int .i64 hd.owner)/\w.cell? ⟨g,k*2+1,none⟩=some (.int .i64 hd.depth)/\(∀j,w.frozen? ⟨g,j,none⟩=false)/\
   (∀x,(w.setCell ⟨g,k*2,none⟩ (.int .i64 x)).ownsRow base 89 2 (.slice A n c) n ((T.set k ⟨x,hd.depth⟩).flatMap bA))/\
   (∀x,(w.setCell ⟨g,k*2+1,none⟩ (.int .i64 x)).ownsRow base 89 2 (.slice A n c) n ((T.set k ⟨hd.owner,x⟩).flatMap bA)):=by
 obtain⟨g,bu,O,aq,hc,aA,hs⟩:=hj h ad;have h0:=fb bA 2 T (dY T) k hd hx 0 ad;have ac:=fb bA 2 T (dY T) k hd hx 1 ad;refine⟨g,bu,O,aq,hc _ _ h0,hc _ _ ac,aA,λx=>?_,λx=>?_⟩
 .rw[<-jj bA 2 T (dY T) k hd hx 0 (.int .i64 x) ⟨x,hd.depth⟩ ad rfl];exact hs _ _ ad
 .rw[<-jj bA 2 T (dY T) k hd hx 1 (.int .i64 x) ⟨hd.owner,x⟩ ad rfl];exact hs _ _ ad
theorem Db(A bg:Kj)(n c n2 c2:Nat)(X:List bI)(T:List cp)(e th:Int)(w:World)(h:cB (EF fO) 3 w w.heap.size A n X)(hX:l5 X)
  (ht:cB (EF bA) 2 w w.heap.size bg n2 T) (hT:D1 X T) (he:e<=9223372036854775807) (a5:th<=4611686018427387904) :
  Calls prog 67 #[.slice A n c,.slice bg n2 c2,.int .i64 e,.int .i64 th] w (fV w (eV X T e th) (free X T e th)):=by
 have bZ:=ht.1;have bj:n2<=5000:=by have:=cq hX;have:=hT.len;omega
 have bd:=eD X T e th;generalize aK:eV X T e th=L at *;have bL:=ae aK;clear aK;rw[bZ] at bd;have I:=ae bd;clear bd;go_enter func67,ntmps67;go_wp2_with(fail);refine(me bg n2 c2 T w ht bj).mono ?_;rintro r aL ⟨bz,c1,rfl,aE,O⟩;go_wp2_with(fail);have F:=h.eQ O O.size;have i:=ht.eQ O O.size;refine(CZ A bg n c n2 c2 X T e th aL F hX i hT he a5).mono ?_;rintro r aV ⟨rfl,bv⟩;have G:=O.size;have l:=O.trans (bv.mono O.size);have ax:=bT aE bv
 cases aA:free X T e th with
 | false=>
  go_wp2
  go_ret2
  exact yb
 | true=>
  have hm:0<=bh X e/\0<=th:=by
   exact yn
  obtain⟨k,m,hd,rfl,aj,y,f,u,b8⟩:=hT.at_ hm.1;have aT:k<n2:=ad;have bE:=hT.bound hd (JL y);obtain⟨b,o,D,rfl,H,hx,c0,ct⟩:=(ht.ep l).hold aT;obtain rfl:hd=D:=by rw[y] at hx;injection hx
  obtain⟨g,rfl,aS,s,e0,e1,d,am,s1⟩:=iU ax aT y;have t:=d (k*2);have C:=d (k*2+1);have bP:L=T.set k ⟨th+1,hd.depth+1⟩:=by rw[<-bL.o];unfold eV;rw[aA,f];rfl
  obtain⟨bW,b6⟩:=aI bP aA;have P:=hm.2;have q:=ae (am (th+1));clear hx y f u bP aA hm am s1 d bZ;go_wp2
  go_ret2
  exact Fz
theorem sP(A bg:Kj)(n c n2 c2:Nat)(X:List bI)(T:List cp)(e th:Int)(w:World)(h:cB (EF fO) 3 w w.heap.size A n X)(hX:l5 X)
  (ht:cB (EF bA) 2 w w.heap.size bg n2 T) (hT:D1 X T) (a5:th<=4611686018427387904) :
  Calls prog 77 #[.slice A n c,.slice bg n2 c2,.int .i64 e,.int .i64 th] w (fV w (eV X T e th) (free X T e th)):=by
 have bZ:=ht.1;have bj:n2<=5000:=by have:=cq hX;have:=hT.len;omega
 have bd:=eD X T e th;generalize aK:eV X T e th=L at *;have bL:=ae aK;clear aK;rw[bZ] at bd;have I:=ae bd;clear bd;go_enter func77,ntmps77;have ay:=Src.kL ht (dY T) (ku T) ad;have a7:bg=none->n2=0:=λh0=>by
  exact yd
 have cf:=ae a7;clear a7;go_wp2_with(at_builtin;refine fu _ kf (by rfl) (.tmp 10) (.tmp 11) (by rfl) (by rfl) _ _ _ _ (by rfl) ay ad ad cf.o ?_;intro bz c1 aL aE O);go_wp2_with(fail);have F:=h.eQ O O.size;have i:cB (EF bA) 2 aL aL.heap.size bz n2 T:=iV aE (dY T) bZ;refine(sO A bz n c n2 c1 X T e th aL F hX i hT a5).mono ?_;rintro r aV ⟨rfl,bv⟩;have G:=O.size;have l:=O.trans (bv.mono O.size);have ax:=bT aE bv
 cases aA:free X T e th with
 | false=>
  go_wp2
  go_ret2
  exact yb
 | true=>
  have hm:0<=bh X e/\0<=th:=by
   exact yn
  obtain⟨k,m,hd,rfl,aj,y,f,u,b8⟩:=hT.at_ hm.1;have aT:k<n2:=ad;have bE:=hT.bound hd (JL y);obtain⟨g,rfl,aS,s,e0,e1,d,am,s1⟩:=iU ax aT y;have t:=d (k*2);have C:=d (k*2+1);have bP:L=T.set k ⟨th+1,hd.depth+1⟩:=by rw[<-bL.o];unfold eV;rw[aA,f];rfl
  obtain⟨bW,b6⟩:=aI bP aA;have P:=hm.2;have q:=ae (am (th+1));clear y f u bP aA hm am s1 d bZ;go_wp2
  go_ret2
  exact Fz
namespace Bk
theorem z2(h:p:=by
 obtain⟨b,o,D,rfl,H,hx,c0,ct⟩:=(ht.ep O).hold aT;obtain rfl:hd=D:=by rw[y] at hx;injection hx
 by_cases bt:hd.owner=th+1
 case neg=>
  have aA:heldBy X T k th=false:=by
   exact yt
  have bW:=ae (no aA);have b6:=ae aA;have E:(hd.owner - 1 != th)=true:=by simp;omega
  clear bt no aA bZ y f u hm hx;go_wp2
  go_ret2
  exact pQ
 have aA:heldBy X T k th=true:=by
  exact yh
 have E:(hd.owner - 1 != th)=false:=by simp;omega
 obtain⟨g,rfl,aS,s,e0,e1,d,am,s1⟩:=iU aE aT y;have t:=d (k*2);have C:=d (k*2+1);have bP:L=T.set k (down hd):=by rw[<-bL.o];unfold cJ;rw[aA,f];rfl
 obtain⟨bW,b6⟩:=aI bP aA;have J:=ae (s1 (hd.depth - 1));have N:=ae y;clear hx y f u bP aA hm am s1 d bZ no bt;exact Fo
 ):p:=h
theorem zI(h:p:=by
 go_enter func68,ntmps68;go_wp2_with(fail);refine(me bg n2 c2 T w ht bj).mono ?_;rintro r aL ⟨bz,c1,rfl,aE,O⟩;have G:=O.size;have no:heldBy X T e th=false->L=T:=λh=>by rw[<-bL.o];unfold cJ;rw[h];rfl
 by_cases ac:0<=e
 case neg=>
  have aA:heldBy X T e th=false:=jn (λan=>ac (fp.1 an.1).1);have bW:=ae (no aA);have b6:=ae aA;have cv:e<0:=ad;clear ac no aA bZ;go_wp2
  go_ret2
  exact pQ
 by_cases ap:e<n2
 case neg=>
  have aA:heldBy X T e th=false:=jn (λan=>by have:=(fp.1 an.1).2;have:=bN.o;omega);have bW:=ae (no aA);have b6:=ae aA;have i:(n2:Int)<=e:=ad;clear ap no aA bZ;go_wp2
  go_ret2
  exact pQ
 have hm:0<=bh X e:=k4 ac (aC bN.o);obtain⟨k,m,hd,rfl,aj,y,f,u,b8⟩:=hT.at_ hm;have aT:k<n2:=ad;exact z1
 ):p:=h
end Bk
open Bk in
theorem vu(A bg:Kj)(n c n2 c2:Nat)(X:List bI)(T:List cp)(e th:Int)(w:World)(hX:l5 X)
  (ht:cB (EF bA) 2 w w.heap.size bg n2 T) (hT:D1 X T) (a5:th<=4611686018427387904) :
  Calls prog 68 #[.slice A n c,.slice bg n2 c2,.int .i64 e,.int .i64 th] w (fV w (cJ X T e th) (heldBy X T e th)):=by
 exact zH
namespace Bl
theorem z2(h:p:=by
 obtain⟨g,rfl,aS,s,e0,e1,d,am,s1⟩:=iU aE aT y;by_cases bt:hd.owner=th+1
 case neg=>
  have aA:heldBy X T k th=false:=by
   exact yt
  have bW:=ae (no aA);have b6:=ae aA;have E:(hd.owner != th+1)=true:=by simpa using bt
  clear bt no aA bZ y f u hm am s1 d;go_wp2
  go_ret2
  exact pQ
 have aA:heldBy X T k th=true:=by
  exact yh
 have E:(hd.owner != th+1)=false:=by simpa using bt
 have t:=d (k*2);have C:=d (k*2+1);have bP:L=T.set k (down hd):=by rw[<-bL.o];unfold cJ;rw[aA,f];rfl
 obtain⟨bW,b6⟩:=aI bP aA;have J:=ae (s1 (hd.depth - 1));have N:=ae y;clear y f u bP aA hm am s1 d bZ no bt;exact Fo
 ):p:=h
theorem zI(h:p:=by
 go_enter func78,ntmps78;have ay:=Src.kL ht (dY T) (ku T) ad;have a7:bg=none->n2=0:=λh0=>by
  exact yd
 have cf:=ae a7;clear a7;go_wp2_with(at_builtin;refine fu _ kf (by rfl) (.tmp 10) (.tmp 11) (by rfl) (by rfl) _ _ _ _ (by rfl) ay ad ad cf.o ?_;intro bz c1 aL i z);go_wp2_with(fail);have F:=h.eQ z z.size;refine(j4 A n c X e aL F hX).mono ?_;rintro r aV ⟨rfl,bv⟩;have q:=z.size;have O:=z.trans (bv.mono z.size);have G:=O.size;have aE:=bT i bv;clear bv i z q;have no:heldBy X T e th=false->L=T:=λh=>by rw[<-bL.o];unfold cJ;rw[h];rfl
 by_cases hm:0<=bh X e
 case neg=>
  have aA:heldBy X T e th=false:=jn (λan=>hm an.1);have bW:=ae (no aA);have b6:=ae aA;have cv:bh X e<0:=ad;clear hm no aA bZ;go_wp2
  go_ret2
  exact pQ
 obtain⟨k,m,hd,rfl,aj,y,f,u,b8⟩:=hT.at_ hm;have aT:k<n2:=ad;rw[u];exact z1
 ):p:=h
end Bl
open Bl in
theorem pM(A bg:Kj)(n c n2 c2:Nat)(X:List bI)(T:List cp)(e th:Int)(w:World)(h:cB (EF fO) 3 w w.heap.size A n X)(hX:l5 X)
  (ht:cB (EF bA) 2 w w.heap.size bg n2 T) (hT:D1 X T) (a5:th<=4611686018427387904) :
  Calls prog 78 #[.slice A n c,.slice bg n2 c2,.int .i64 e,.int .i64 th] w (fV w (cJ X T e th) (heldBy X T e th)):=by
 exact zH
end
end Go.Proofs.YtnigabjngpnbiaaGreat

/- Part 4 of the proof. No condition of its own. -/
import Derived.Test.YtkhnkojkplbioaaGreatQ03
namespace Go.Proofs.YtkhnkojkplbioaaGreat
open Go.RowKit Go.Proofs.Tryz
set_option maxRecDepth 1000000
set_option maxHeartbeats 25600000
set_option linter.unusedVariables false
variable{a:Act}{K:Act->World->Prop}{cs:Array Value}{d:D}{m threads:Int}{xs:List Value}{X:List bD}{T:List bV}{k:Nat}{M:Nat->Prop}{o:Oper}{rest:PT}{G p:Prop}{α β γ:Type}{S:World}
def idx(ms:Int)(r:Int×Int):Int×Int:=if r.2≠0 then (0,r.2) else if r.1<0\/ms<=r.1 then (0,2) else (r.1,0)
structure zx(w:World)(MA:L3)(mn:Nat)(X:List bD)(G L:L3)(ng nl:Nat)(g l:List Int)(e:VE)(i:Nat)(m:bD)(b o:Nat)(c0 c1 c2 c3:Value):Prop where
 ev:lR w G L ng nl g l e [c0,c1,c2,c3]
 ms:cp (EF gg) 3 w w.heap.size MA mn X
 i1:i<mn
 hm:X[i]?=some m
 bl:b<w.heap.size
 e0:w.cell? ⟨b,o,none⟩=some c0
 e1:w.cell? ⟨b,o+1,none⟩=some c1
 e2:w.cell? ⟨b,o+2,none⟩=some c2
 e3:w.cell? ⟨b,o+3,none⟩=some c3
theorem cp.JT{w:World}{B n:Nat}{A:L3}{l:List bD}(h:cp (EF gg) 3 w B A n l)(ap:k<n):
  ∃b o m,A=some ⟨b,o,none⟩/\b<B/\l[k]?=some m/\w.cell? ⟨b,o+k*3,none⟩=some (.string m.name)/\w.cell? ⟨b,o+k*3+1,none⟩=some (.bool m.re)/\w.cell? ⟨b,o+k*3+2,none⟩=some (.int .i64 m.size):=by
 obtain⟨b,o,x,aX,O,hx,_,hc⟩:=h.I2 ap;exact⟨b,o,x,aX,O,hx,hc 0 _ rfl,hc 1 _ rfl,hc 2 _ rfl⟩
namespace CG
theorem AD(h:p:=by
 have q1:decide ((i:Int)<0)=false:=by simp
 have cN:decide (i>=mn)=false:=by simp;omega
 have a:decide (mn<=i)=false:=by simp;omega
 have df:(0:Int)<=(i:Int):=ad;have dd:(i:Int)<(mn:Int):=ad;have bN:=ae (ar.on (Fr.ext aw));clear hm aQ ar F;go_enter func79,ntmps79;go_wp2_with(fail);have c8:=(aw.cell (j:=o) T (λh=>h)).trans e0;have cv:=(aw.cell (j:=o+1) T (λh=>h)).trans e1;generalize w.alloc (.cells #[.bool false,.int .i64 i,.slice (some ⟨b,o,none⟩) 1 pc] 55)=W at *;refine(pC e W G L ng nl cg cl g l _ _ _ _ bN.o).mono ?_;exact GP
 ):p:=h
end CG
open CG in
theorem yB(w:World)(MA:L3)(mn mc:Nat)(X:List bD)(G L:L3)(ng nl cg cl:Nat)(g l:List Int)(e:VE)(i:Nat)(m:bD)(b o pc:Nat)(c0 c1 c2 c3:Value)
  (h:zx w MA mn X G L ng nl g l e i m b o c0 c1 c2 c3) :
  Calls prog 79 #[.agg #[.bool false,.int .i64 i,.slice (some ⟨b,o,none⟩) 1 pc],.slice MA mn mc,.slice G ng cg,.slice L nl cl] w (gb w (idx m.size (ev g l e))):=by
 exact AB
namespace CH
theorem AD(h:p:=by
 have df:(0:Int)<=(i:Int):=ad;have dd:(i:Int)<(mn:Int):=ad;have bN:=ae (ar.on (Fr.ext aw));have a:=ae y;clear hm aQ ar F y;go_enter func81,ntmps81;go_wp2_with(fail);have c8:=(aw.cell (j:=o) T (λh=>h)).trans e0;have cv:=(aw.cell (j:=o+1) T (λh=>h)).trans e1;generalize w.alloc (.cells #[.bool false,.int .i64 i,.slice (some ⟨b,o,none⟩) 1 pc] 55)=W at *;refine(nO e W G L ng nl cg cl g l _ _ _ _ bN.o a.o).mono ?_;exact GP
 ):p:=h
end CH
open CH in
theorem tA(w:World)(MA:L3)(mn mc:Nat)(X:List bD)(G L:L3)(ng nl cg cl:Nat)(g l:List Int)(e:VE)(i:Nat)(m:bD)(b o pc:Nat)(c0 c1 c2 c3:Value)
  (h:zx w MA mn X G L ng nl g l e i m b o c0 c1 c2 c3) (y:n8 g l e) :
  Calls prog 81 #[.agg #[.bool false,.int .i64 i,.slice (some ⟨b,o,none⟩) 1 pc],.slice MA mn mc,.slice G ng cg,.slice L nl cl] w (gb w (idx m.size (ev g l e))):=by
 exact AB
theorem vE(w:World)(i:Int)(A:L3)(pc:Nat)(b:Bool)(m g l:Value):Calls prog 79 #[.agg #[.bool b,.int .i64 i,.slice A 0 pc],m,g,l] w (gb w (0,0)):=by
 go_enter func79,ntmps79;go_wp2
 go_ret2
 exact vL
theorem rA(w:World)(i:Int)(A:L3)(pc:Nat)(b:Bool)(m g l:Value):Calls prog 81 #[.agg #[.bool b,.int .i64 i,.slice A 0 pc],m,g,l] w (gb w (0,0)):=by
 go_enter func81,ntmps81;go_wp2
 go_ret2
 exact vL
section
attribute [local go_sem ↓] gr gu
theorem yh(a b c d:Int)(w:World):(binOp .neq 123 (.agg #[.int .i64 a,.int .i64 b]) (.agg #[.int .i64 c,.int .i64 d])).run prog w=.ok (.bool (decide (a≠c\/b≠d))) w:=by
 exact Am
theorem FU(a b c d:Int)(w:World):(binOp .eql 123 (.agg #[.int .i64 a,.int .i64 b]) (.agg #[.int .i64 c,.int .i64 d])).run prog w=.ok (.bool (decide (a=c/\b=d))) w:=by
 exact Am
namespace C5
theorem sV(h:p:=by
 go_enter func62,ntmps62;exact sH
 ):p:=h
end C5
open C5 in
theorem EX(A A2:L3)(n c n2 c2:Nat)(S T:List bV)(w:World)(hs:cp (EF bK) 2 w w.heap.size A n S)(ht:cp (EF bK) 2 w w.heap.size A2 n2 T)(hn:n<=140737488355328) :
  Calls prog 62 #[.slice A n c,.slice A2 n2 c2] w λr ab=>r=.returned (.bool (decide (S=T)))/\Below w.heap.size w ab:=by
 have hl:=hs.1;have bc:=ht.1;by_cases bf:n=n2
 case neg=>
  exact sU
 subst bf;obtain⟨b8,J⟩:=aJ hl bc;clear hl bc;have bq:((n:Int) != (n:Int))=false:=by simp
 go_enter func62,ntmps62;go_wp2;go_loopw [5] (λi wr=>∃k:Nat,k<=n/\i=.int .i64 k/\(∀j,j<k->S[j]?=T[j]?)/\Below w.heap.size w wr) (λi _=>n - (intOf i).toNat)
 case atStart=>exact⟨0,LJ _,rfl,λj bi=>absurd bi ad,Below.refl _ _⟩
 case round=>
  obtain⟨k,ap,rfl,cE,O⟩:=hrel;have aA:=ae cE;clear cE;by_cases al:k<n
  .obtain⟨b,o,x,rfl,U,hx,c0,c1⟩:=(hs.dS O).hold al;obtain⟨K,M,d,rfl,l,g,d0,d1⟩:=(ht.dS O).hold al;have br:(0:Int)<=(k:Int):=ad;have cd:(k:Int)<(n:Int):=ad;have e:=yh;by_cases hd:x.owner≠d.owner\/x.depth≠d.depth
   .have a3:=ae (show decide (S=T)=false from decide_eq_false (λh=>by
     subst h;rw[hx] at g;injection g with g;subst g;simp at hd))
    have u:decide (x.owner≠d.owner\/x.depth≠d.depth)=true:=decide_eq_true hd;exact Ha
   .have aQ:=ae (show S[k]?=T[k]? by
     have ac:x.owner=d.owner:=by
      by_cases ah:x.owner=d.owner
      .exact ah
      .exact absurd (.inl ah) hd
     have au:x.depth=d.depth:=by
      by_cases ah:x.depth=d.depth
      .exact ah
      .exact absurd (.inr ah) hd
     rw[hx,g];congr 1
     cases x;cases d
     simp_all)
    have u:decide (x.owner≠d.owner\/x.depth≠d.depth)=false:=decide_eq_false hd;exact GV
  .obtain rfl:k=n:=ad;exact xM
def kA(X:List bD)(T:List bV)(m th:Int)(i:Nat):Int:=if (own X)[i]?=some m/\(fb T i).owner=th+1/\0<=th then (fb T i).depth else 0
def fk(X:List bD)(T:List bV)(m th:Int):Nat->Int
 | 0=>0
 | k+1=>fk X T m th k+kA X T m th k
def depth(X:List bD)(T:List bV)(m th:Int):Int:=fk X T m th (own X).length
theorem yV(hT:yD X T)(i:Int):0<=(fb T i).owner/\(fb T i).owner<=1000000000/\0<=(fb T i).depth/\(fb T i).depth<=1000000000:=by
 unfold fb
 cases h:T[i.toNat]? with
 | none=>simp
 | some hd=>simpa using hT.bound hd (Ln h)
theorem uj(hT:yD X T)(m th:Int)(i:Nat):0<=kA X T m th i/\kA X T m th i<=1000000000:=by
 unfold kA;have:=yV hT i;split<;>omega
theorem uk(hT:yD X T)(m th:Int)(k:Nat):0<=fk X T m th k/\fk X T m th k<=1000000000*k:=by
 induction k with
 | zero=>simp[fk]
 | succ k ao=>
  have:=uj hT m th k;simp only[fk];omega
theorem kB{th:Int}{i:Nat}(h:(own X)[i]?≠some m):kA X T m th i=0:=if_neg (λah=>h ah.1)
theorem jV{X:List bD}{T:List bV}{m th:Int}:∀(k:Nat),(∀i,i<k->kA X T m th i=0)->fk X T m th k=0
 | 0,_=>rfl
 | k+1,h=>by simp only[fk];rw[jV k (λi an=>h i ad),h k ad];rfl
theorem pY{X:List bD}{T:List bV}{m th:Int}(a:Nat):∀(d:Nat),(∀i,a<=i->i<a+d->kA X T m th i=0)->fk X T m th (a+d)=fk X T m th a
 | 0,_=>rfl
 | d+1,h=>by
  rw[show a+(d+1)=(a+d)+1 from rfl];simp only[fk];rw[pY a d (λi ac au=>h i ac ad),h (a+d) ad ad,Int.add_zero]
theorem ru{m:bD}(th:Int)(hm:X[k]?=some m):depth X T k th=fk X T k th ((elems (X.take k)).toNat+m.jK):=by
 have ap:k<X.length:=(List.getElem?_eq_some_iff.1 hm).1;have h0:=eA X k ad;have hl:=dz X;have al:=lG X hm ap;rw[List.take_length] at al;have hn:=m.lp;unfold depth;obtain⟨d,hd⟩:∃d,(own X).length=(elems (X.take k)).toNat+m.jK+d:=⟨(own X).length - ((elems (X.take k)).toNat+m.jK),ad⟩
 rw[hd];apply pY
 intro i ac au;apply kB
 intro h;obtain⟨o,bP,bG,aQ,aY,bR⟩:=po h;have:k=o:=ad;subst this;rw[hm] at aQ;injection aQ with aQ;subst aQ;omega
theorem ta(th:Int)(ap:k<X.length):fk X T k th (elems (X.take k)).toNat=0:=by
 have h0:=eA X k ad;exact jV _ λi an=>kB (qE ad)
theorem yM{th:Int}(h:m<0\/(X.length:Int)<=m):depth X T m th=0:=by
 apply jV
 intro i _;apply kB
 intro ah;obtain⟨k,t,bG,hm,_⟩:=po ah;have:=(List.getElem?_eq_some_iff.1 hm).1;omega
theorem yL{th:Int}(h:th<0):depth X T m th=0:=
 jV _ λ_ _=>if_neg (λah=>ad)
end
section
attribute [local go_sem ↓] gr gu
theorem rQ(A A2:L3)(n c n2 c2:Nat)(X:List bD)(T:List bV)(m th:Int)(w:World)(h:cp (EF gg) 3 w w.heap.size A n X)(hX:ns X)(aL:n<=c)
  (ht:cp (EF bK) 2 w w.heap.size A2 n2 T) (hT:yD X T) (B:n2<=c2) :
  Calls prog 34 #[.slice A n c,.slice A2 n2 c2,.int .i64 m,.int .i64 th] w λr ab=>r=.returned (.int .i64 (depth X T m th))/\Below w.heap.size w ab:=by
 have hl:=h.1;have bc:=ht.1;have hN:=hT.len;have D:=ch hX;have e:=dz X;go_enter func34,ntmps34;go_wp2_with(fail);refine(uh A n c X m w h hX aL).mono ?_;rintro r aS ⟨rfl,O⟩;by_cases hm:m<0\/(X.length:Int)<=m
 .have cb:=ae (show depth X T m th=0 from yM hm);have C:eL X m<0:=by rw[jU hm];omega
  clear hm hl bc hN e;go_wp2;go_ret;exact⟨ret_int (by rw[cb.o]),O⟩
 obtain⟨k,rfl⟩:=Lp (show 0<=m by omega);have ap:k<X.length:=ad;have cH:X[k]?=some (X[k]'ap):=List.getElem?_eq_getElem _;have z:=(hX.kZ k)
 obtain⟨a,g⟩:=Lp z.1;rw[kY ap,g];by_cases h0:0<=th
 case neg=>
  have cb:=ae (show depth X T k th=0 from yL ad);have t:th<0:=ad;clear hm hl bc hN e cH g h0;go_wp2;go_ret;exact⟨ret_int (by rw[cb.o]),O⟩
 have bH:k<n:=ad;obtain⟨b,o,mx,rfl,U,hx,c0,c1,cm⟩:=(h.dS O).IF bH;have al:=lG X hx ap;rw[List.take_length] at al;have cc:=hX.at_ hx;have K:mx.num=max mx.size 1:=rfl;have ep:=mx.lp;have cb:=ae (ru (T:=T) th hx);have aQ:=ae hx;have bO:=ae (ta (T:=T) th ap);have e1:min ((a:Int)+max mx.size 1) (n2:Int)=((a+mx.jK:Nat):Int):=ad;have e2:min (a:Int) ((a:Int)+(mx.jK:Int))=a:=ad;have hle:a+mx.jK<=n2:=ad;have x:n2<=4096:=ad;have y:0<mx.jK:=by have:=mx.mX;omega
 clear al hm hl bc hN e cH hx ep K z;have d:=ae g;clear g;generalize aw:mx.jK=E at *;obtain⟨cg,fg,rfl,er⟩:=(ht.dS O).some_ (show 0<n2 by omega);have bo:=ae aw;clear aw;have ak:=O.size;go_wp2;go_loopw [10,41] (λs i wr=>∃j:Nat,j<=E/\i=.int .i64 j/\s=.int .i64 (fk X T k th (a+j))/\Below w.heap.size w wr) (λ_ i _=>E - (intOf i).toNat)
 case atStart=>
  refine⟨0,LJ _,rfl,wG ?_,O.alloc ak _⟩;have ac:=bO.o;rw[d.o,LI] at ac;exact ac.symm
 case round=>
  obtain⟨j,bi,rfl,rfl,aT⟩:=hrel;by_cases al:j<E
  .obtain⟨v,o3,hd,cx,u,bh,d0,d1⟩:=(ht.dS aT).hold (show a+j<n2 by omega);injection cx with cx;injection cx with cx db;subst cx db;rw[Nat.add_mul,<-Nat.add_assoc] at d0 d1;have bl:=hT.bound hd (Ln bh);have F:=uk hT k th (a+j);have f:fb T ((a+j:Nat):Int)=hd:=by unfold fb;rw[LI,bh];rfl
   have aV:k<X.length:=ap;have aB:(own X)[a+j]?=some (k:Int):=tz (List.getElem?_eq_getElem aV) (by rw[d.o];omega) (by
    rw[d.o];have ac:=(X[k]'aV).lp;have au:(X[k]'aV).jK=E:=by
     have aY:=aQ.o;rw[List.getElem?_eq_getElem aV] at aY;injection aY with aY;rw[aY];exact bo.o
    omega)
   have aD:fk X T k th (a+(j+1))=fk X T k th (a+j)+(if hd.owner=th+1 then hd.depth else 0):=by
    rw[show a+(j+1)=(a+j)+1 from rfl];simp only[fk];unfold kA;rw[f,aB];simp[h0]
   have bq:=ae aD;have l:=aT.size;clear bh f aB aD;by_cases e3:hd.owner=th+1
   .have q:(hd.owner - 1 == th)=true:=by simp;omega
    have ah:=ae (show fk X T k th (a+(j+1))=fk X T k th (a+j)+hd.depth by rw[bq.o,if_pos e3]);exact zT
   .have q:(hd.owner - 1 == th)=false:=by simp;omega
    have ah:=ae (show fk X T k th (a+(j+1))=fk X T k th (a+j) by rw[bq.o,if_neg e3,Int.add_zero]);exact zT
  .obtain rfl:j=E:=ad;go_wp2;go_ret;refine⟨ret_int ?_,aT⟩;have ac:=cb.o;rw[d.o,LI] at ac;rw[ac]
def eO(X:List bD)(threads:Int)(i:Nat)(h:bV):Bool:=
 !(decide (h.owner<0) || decide (threads<h.owner) || ((h.owner == 0) != (h.depth == 0)) || decide (h.depth<0) || (decide (1<h.depth) && !w5 X (bx X i)))
def g4(X:List bD)(T:List bV)(threads:Int):Bool:=decide (T.length=(own X).length) && (List.range T.length).all λi=>eO X threads i (fb T i)
theorem xx(h:T.length≠(own X).length):g4 X T threads=false:=by
 unfold g4;rw[decide_eq_false h];rfl
theorem xw{hd:bV}(hx:T[k]?=some hd)(h:eO X threads k hd=false):g4 X T threads=false:=by
 unfold g4;have ap:=(List.getElem?_eq_some_iff.1 hx).1;have aX:fb T (k:Int)=hd:=by unfold fb;rw[LI,hx];rfl
 rw[Bool.and_eq_false_iff];right;rw[List.all_eq_false];exact⟨k,List.mem_range.2 ap,by rw[aX,h];simp⟩
theorem oE(hl:T.length=(own X).length)(h:∀k hd,T[k]?=some hd->eO X threads k hd=true):g4 X T threads=true:=by
 unfold g4;rw[decide_eq_true hl,Bool.true_and,List.all_eq_true];intro k ap;have ap:=List.mem_range.1 ap;refine h k _ ?_;unfold fb;rw[LI,List.getElem?_eq_getElem ap];rfl
theorem zo(A A2:L3)(n c n2 c2:Nat)(X:List bD)(T:List bV)(th:Int)(w:World)(h:cp (EF gg) 3 w w.heap.size A n X)(hX:ns X)
  (ht:cp (EF bK) 2 w w.heap.size A2 n2 T) :
  Calls prog 63 #[.slice A n c,.slice A2 n2 c2,.int .i64 th] w λr ab=>r=.returned (.bool (g4 X T th))/\Below w.heap.size w ab:=by
 have hl:=h.1;have bc:=ht.1;have D:=ch hX;have e:=dz X;go_enter func63,ntmps63;go_wp2_with(fail);refine(h6 A n c X w h hX).mono ?_;rintro r aS ⟨rfl,O⟩;rw[<-e];generalize hN:(own X).length=N at *;by_cases bf:n2=N
 case neg=>
  have a3:=ae (show g4 X T th=false from xx ad);have v:(n2 != N)=true:=by simpa using bf
  have m:((n2:Int) != (N:Int))=true:=by simp;omega
  clear hl bc hN e bf;exact ub
 subst bf;have b8:=ae (show T.length=(own X).length by omega);obtain⟨E,J,y⟩:=ek e bc hl;clear hl bc hN e;have bq:((n2:Int) != (n2:Int))=false:=by simp
 go_wp2;go_loopw [16] (λi wr=>∃k:Nat,k<=n2/\i=.int .i64 k/\(∀j hd,j<k->T[j]?=some hd->eO X th j hd=true)/\Below w.heap.size w wr) (λi _=>n2 - (intOf i).toNat)
 case atStart=>exact⟨0,LJ _,rfl,λj hd bi=>absurd bi ad,O⟩
 case round=>
  obtain⟨k,ap,rfl,cE,aT⟩:=hrel;have aA:=ae cE;clear cE;by_cases al:k<n2
  .obtain⟨b,o,hd,rfl,U,hx,c0,c1⟩:=(ht.dS aT).hold al;have ak:=aT.size;have aQ:=ae hx;have d:L5 (eO X th k hd=false->g4 X T th=false):=ae λac=>xw aQ.o ac;clear hx;by_cases e1:hd.owner<0
   .have a3:=ae (d.o (by unfold eO;simp[e1]));exact ud
   by_cases e2:th<hd.owner
   .have a3:=ae (d.o (by unfold eO;simp[e2]));exact ud
   by_cases f1:hd.owner=0
   .have cb:(hd.owner == 0)=true:=by simpa using f1
    by_cases f2:hd.depth=0
    .have g2:(hd.depth == 0)=true:=by simpa using f2
     have aP:=ae (show eO X th k hd=true by unfold eO;rw[cb,g2];simp;omega);have f3:¬hd.depth<0:=ad;have f4:¬1<hd.depth:=ad;clear f1 f2;exact Hb
    .have g2:(hd.depth == 0)=false:=by simpa using f2
     have a3:=ae (d.o (by unfold eO;rw[cb,g2];simp));clear f1 f2;exact ud
   have cb:(hd.owner == 0)=false:=by simpa using f1
   by_cases f2:hd.depth=0
   .have g2:(hd.depth == 0)=true:=by simpa using f2
    have a3:=ae (d.o (by unfold eO;rw[cb,g2];simp));clear f1 f2;exact ud
   have g2:(hd.depth == 0)=false:=by simpa using f2
   by_cases a6:hd.depth<0
   .have a3:=ae (d.o (by unfold eO;simp[a6]));exact ud
   by_cases cu:1<hd.depth
   case neg=>
    have aP:=ae (show eO X th k hd=true by unfold eO;rw[cb,g2];simp[e1,e2,a6,cu]);exact Hb
   have bu:0<=bx X (k:Int):=mf ad (aD E.o);obtain⟨i,t,an,P,_⟩:=mU bu;have aG:i<n:=by have:=(List.getElem?_eq_some_iff.1 P).1;have:=y.o;omega
   have L:w5 X (bx X (k:Int))=t.re:=by rw[an];unfold w5;rw[LI,P];rfl
   obtain⟨s,ck,au⟩:=ek L an P;clear L an P bu;go_wp2_with(fail);have f:=aT.alloc ak (.cells #[.int .i64 hd.owner,.int .i64 hd.depth] 123);refine(ot A n c X k _ (h.c8 f f.size) hX ad).mono ?_;rintro r aU ⟨rfl,bj⟩;have aV:=f.trans (bj.mono f.size);obtain⟨K,M,F,rfl,l,g,d0,d1,d2⟩:=(h.dS aV).IF aG;obtain rfl:t=F:=by have:=au.o;rw[g] at this;injection this with this;exact this.symm
   clear g;rw[ck.o]
   cases ba:t.re with
   | false=>
    have a3:=ae (d.o (by unfold eO;rw[s.o,ba];simp[cu]));rw[ba] at d1;clear ba;go_wp2;go_ret
    exact⟨ret_bool (by rw[a3.o]),aV⟩
   | true=>
    have aP:=ae (show eO X th k hd=true by unfold eO;rw[s.o,ba,cb,g2];simp[e1,e2,a6]);rw[ba] at d1;clear ba;go_wp2;go_roundw
    case rel=>
     refine⟨k+1,ad,by go_num,λj u bi g=>?_,aV⟩;by_cases z:j<k
     .exact aA.o j u z g
     .obtain rfl:j=k:=ad;rw[aQ.o] at g;injection g with g;rw[<-g];exact aP.o
    case measure=>exact aH
  .obtain rfl:k=n2:=ad;have a3:=ae (show g4 X T th=true from oE b8.o λj hd hx=>aA.o j hd (by have:=(List.getElem?_eq_some_iff.1 hx).1;have:=J.o;omega) hx);go_wp2;go_ret;exact⟨ret_bool (by rw[a3.o]),aT⟩
end
abbrev lL(P:Nat->Prop)(w:World)(v:Value):Nat->Prop:=λb=>P b/\b<w.heap.size/\v.ownBlock≠some b
structure Gr(P:Nat->Prop)(B:Nat)(e:TypeId)(z:Nat)(w:World)(A:L3)(n c:Nat)(l:List D):Prop where
 len:l.length=n
 ex:∃xs,w.ownsRow B e z (.slice A n c) n xs/\D.aQ w (lL P w (.slice A n c)) l xs
section
variable {P Q:Nat->Prop} {B q:Nat} {e:TypeId} {z:Nat} {w ab aS:World} {A:L3} {n c:Nat} {l:List D}
theorem Gr.nil(P:Nat->Prop)(B:Nat)(e:TypeId)(z:Nat)(w:World):Gr P B e z w none 0 0 []:=⟨rfl,[],⟨by simp,.inl ⟨rfl,rfl⟩⟩,by simp only[D.aQ]⟩
theorem Gr.lt(h:Gr P B e z w A n c l){g:Nat}(a9:(Value.slice A n c).ownBlock=some g):B<=g/\g<w.heap.size:=by
 obtain⟨_,xs,ac,_⟩:=h;exact ac.lt g a9
theorem Gr.cap(h:Gr P B e z w A n c l):n<=c/\c<=maxLen:=by
 obtain⟨_,xs,ac,_⟩:=h;obtain⟨_,_,bG,au,aY,_⟩:=b5 ac;injection bG with _ _ bG;subst bG;exact⟨au,aY⟩
theorem Gr.al(h:Gr P B e z w A n c l)(hs:w.heap.size<=ab.heap.size)(ap:∀b,b<w.heap.size->(P b\/B<=b)->ab.heap[b]?=w.heap[b]?):Gr P B e z ab A n c l:=by
 obtain⟨hl,xs,ac,au⟩:=h;refine⟨hl,xs,⟨ac.1,?_⟩,D.bZ (λb O=>⟨O.1,Ll O.2.1 hs,O.2.2⟩) _ _ (D.bY (λb O=>ap b O.2.1 (.inl O.1)) _ _ au)⟩;rcases ac.2 with aY|⟨g,cap,cur,bG,j,aV,rest⟩
 .exact .inl aY
 .exact .inr ⟨g,cap,cur,bG,j,(ap g (Array.getElem?_eq_some_iff.1 aV).1 (.inr j)).trans aV,rest⟩
theorem Gr.dm(h:Gr P B e z w A n c l)(hs:w.heap.size<=ab.heap.size)(ap:∀b,b<w.heap.size->(P b\/(Value.slice A n c).ownBlock=some b)->ab.heap[b]?=w.heap[b]?):Gr P B e z ab A n c l:=by
 obtain⟨hl,xs,ac,au⟩:=h;refine⟨hl,xs,⟨ac.1,?_⟩,D.bZ (λb O=>⟨O.1,Ll O.2.1 hs,O.2.2⟩) _ _ (D.bY (λb O=>ap b O.2.1 (.inl O.1)) _ _ au)⟩;rcases ac.2 with aY|⟨g,cap,cur,bG,j,aV,rest⟩
 .exact .inl aY
 .exact .inr ⟨g,cap,cur,bG,j,(ap g (Array.getElem?_eq_some_iff.1 aV).1 (.inr (by rw[bG];rfl))).trans aV,rest⟩
theorem Gr.base{q:Nat}(h:Gr P B e z w A n c l)(aR:q<=B):Gr P q e z w A n c l:=by
 obtain⟨hl,xs,ac,au⟩:=h;refine⟨hl,xs,⟨ac.1,?_⟩,au⟩;rcases ac.2 with aY|⟨g,cap,cur,bG,j,aV,rest⟩
 .exact .inl aY
 .exact .inr ⟨g,cap,cur,bG,ad,aV,rest⟩
theorem Gr.mono(h:Gr P B e z w A n c l)(a1:∀b,b<w.heap.size->P b->Q b):Gr Q B e z w A n c l:=by
 obtain⟨hl,xs,ac,au⟩:=h;exact⟨hl,xs,ac,D.bZ (λb O=>⟨a1 b O.2.1 O.1,O.2.1,O.2.2⟩) _ _ au⟩
theorem Gr.aj(h:Gr P B e z w A n c l)(O:Ext w ab):Gr P B e z ab A n c l:=h.al O.size λb al _=>O.block b al λh=>h
theorem Gr.c8(h:Gr P B e z w A n c l)(O:Fr M w ab)(hM:∀b,M b->b<w.heap.size->¬P b/\b<B):Gr P B e z ab A n c l:=
 h.al O.size λb al hp=>O.block b al λhm=>by
  obtain⟨ac,au⟩:=hM b hm al;rcases hp with hp|hp
  .exact ac hp
  .omega
theorem Gr.sl(h:Gr P B e z w A n c l)(a1:∀b,b<w.heap.size->P b->Q b)(aR:∀b,b<w.heap.size->B<=b->Q b):Sl w Q A n l:=by
 obtain⟨hl,xs,ac,au⟩:=h;exact Sl.qB ac (D.bZ (λb O=>a1 b O.2.1 O.1) _ _ au) hl λg _ ac au=>aR g au ac
end
abbrev dt(S:World)(A:L3)(n c:Nat)(I:L3)(aP aK:Nat):Prop:=∀b,(Value.slice I aP aK).ownBlock=some b->(Value.slice A n c).ownBlock=some b\/S.heap.size<=b
section
variable {P:Program} {f:Nat->Prop} {B:Nat} {e t:TypeId} {z:Value} {size bytes:Nat}
theorem Gr.snoc{w ab:World}{A I:L3}{n c aK:Nat}{l:List D}{b3:List Value}{cU:Nat}(hl:l.length=n)(ac:w.ownsRow B e cU (.slice A n c) n xs)(au:D.aQ w (lL f w (.slice A n c)) l xs)
  (hd:d.rep w (lL f w (.slice A n c)) b3) {s:Nat} (hs:w.heap.size<=s) (aB:ab.ownsRow B e cU (.slice I (n+1) aK) (n+1) (xs++b3)) (a9:w.grownBy ab (Value.slice A n c).ownBlock)
  (O:(Value.slice I (n+1) aK).ownBlock=(Value.slice A n c).ownBlock\/(Value.slice I (n+1) aK).ownBlock=some s):Gr f B e cU ab I (n+1) aK (l++[d]):=by
 refine⟨by simp[hl],_,aB,D.cI ?_ (D.bm.2 ?_)⟩
 .refine D.bZ (λb aT=>⟨aT.1,Ll aT.2.1 a9.size,λhc=>?_⟩) _ _ (D.bY (λb aT=>a9.block b aT.2.1 λhe=>aT.2.2 he.symm) _ _ au);exact xP
 .refine D.aL (λb aT=>⟨aT.1,Ll aT.2.1 a9.size,λhc=>?_⟩) _ _ (D.aS (λb aT=>a9.block b aT.2.1 λhe=>aT.2.2 he.symm) _ _ hd);exact xP
namespace BX
theorem Bx(h:p:=by
 exact h I aK ab (Gr.snoc hl ac au hd (s:=S.heap.size+1) ad bS a9 (by simpa using H)) (LW.grown a9 λg a9=>.inl a9) (λb O=>by
  rcases H with H|H
  .rw[H] at O;exact .inl O
  .rw[H] at O;injection O with O;right;simp at O;omega) hc
 ):p:=h
end BX
open BX in
theorem q9{Q:Exit->Act->World->Prop}(aX:cj P t e z size bytes)(s x:Operand)
  (bn:o.op=.call {callee:=.builtin .append,args:=#[s,x],argTypes:=#[t,t]})
  {A:L3} {n c:Nat} {l:List D} (h0:Gr f B e size S A n c l) {d:D} {cs:Array Value} (hd:d.rep S (lL f S (.slice A n c)) cs.toList)
  (hs:a.eval s=.slice A n c) (hx:a.eval x=.slice (some ⟨S.heap.size,0,none⟩) 1 1) (T:cs.size=size)
  (r:(n+1)*bytes<=140737488355328) (y:n+1<=140737488355328) (C:B<=S.heap.size)
  (h:∀I aK ab,Gr f B e size ab I (n+1) aK (l++[d])->Fr (λb=>(Value.slice A n c).ownBlock=some b) S ab->dt S A n c I (n+1) aK->n+1<=aK->K (a.put o.dst (.slice I (n+1) aK)) ab):o.wp P a (S.alloc (.cells cs e)) K Q:=by
 obtain⟨hl,xs,ac,au⟩:=h0;refine kf _ aX s x bn B _ n xs hs (ac.alloc _) _ 1 1 cs.toList hx (Src.block (heap_alloc_new S _) 1 ad (D.tC _ _ hd)) r y (by simp;omega) (λh=>nomatch h) λG ab bS cW H=>?_;exact Bw
theorem bT{ops:Array Oper}{rest:List Oper}{Q:Exit->Act->World->Prop}(aX:cj P t e z size bytes)(i:o.guard=none)(s x:Operand)
  (bn:o.op=.call {callee:=.builtin .append,args:=#[s,x],argTypes:=#[t,t]})
  {A:L3} {n c:Nat} {l:List D} (h0:Gr f B e size S A n c l) {d:D} {cs:Array Value} (hd:d.rep S (lL f S (.slice A n c)) cs.toList)
  (hs:a.eval s=.slice A n c) (hx:a.eval x=.slice (some ⟨S.heap.size,0,none⟩) 1 1) (T:cs.size=size)
  (r:(n+1)*bytes<=140737488355328) (y:n+1<=140737488355328) (C:B<=S.heap.size)
  (h:∀I aK ab,Gr f B e size ab I (n+1) aK (l++[d])->Fr (λb=>(Value.slice A n c).ownBlock=some b) S ab->dt S A n c I (n+1) aK->n+1<=aK->wpList P ops Q rest (a.put o.dst (.slice I (n+1) aK)) ab):wpList P ops Q (o::rest) a (S.alloc (.cells cs e)):=
 wpList_plain i λ_ hK=>q9 aX s x bn h0 hd hs hx T r y C λI aK ab cb g2 cT da=>hK _ _ (h I aK ab cb g2 cT da)
theorem Gr.Hu{w ab:World}{A I:L3}{n m c aK:Nat}{l k:List D}{b3:List Value}{cU:Nat}(hl:l.length=n)(hm:k.length=m)(ac:w.ownsRow B e cU (.slice A n c) n xs)(au:D.aQ w (lL f w (.slice A n c)) l xs)
  (hd:D.aQ w (lL f w (.slice A n c)) k b3) {s:Nat} (hs:w.heap.size<=s) (aB:ab.ownsRow B e cU (.slice I (n+m) aK) (n+m) (xs++b3)) (a9:w.grownBy ab (Value.slice A n c).ownBlock)
  (O:(Value.slice I (n+m) aK).ownBlock=(Value.slice A n c).ownBlock\/(Value.slice I (n+m) aK).ownBlock=some s):Gr f B e cU ab I (n+m) aK (l++k):=by
 refine⟨by simp[hl,hm],_,aB,D.cI ?_ ?_⟩
 .refine D.bZ (λb aT=>⟨aT.1,Ll aT.2.1 a9.size,λhc=>?_⟩) _ _ (D.bY (λb aT=>a9.block b aT.2.1 λhe=>aT.2.2 he.symm) _ _ au);exact xP
 .refine D.bZ (λb aT=>⟨aT.1,Ll aT.2.1 a9.size,λhc=>?_⟩) _ _ (D.bY (λb aT=>a9.block b aT.2.1 λhe=>aT.2.2 he.symm) _ _ hd);exact xP
theorem Fp{Q:Exit->Act->World->Prop}(aX:cj P t e z size bytes)(s x:Operand)
  (bn:o.op=.call {callee:=.builtin .append,args:=#[s,x],argTypes:=#[t,t]})
  {A A2:L3} {n c m c2:Nat} {l k:List D} (h0:Gr f B e size S A n c l) (ap:Sl S (lL f S (.slice A n c)) A2 m k) (bv:∀d∈k,d.sz=size)
  (hs:a.eval s=.slice A n c) (hx:a.eval x=.slice A2 m c2)
  (r:(n+m)*bytes<=140737488355328) (y:n+m<=140737488355328) (C:B<=S.heap.size)
  (h:∀I aK ab,Gr f B e size ab I (n+m) aK (l++k)->Fr (λb=>(Value.slice A n c).ownBlock=some b) S ab->dt S A n c I (n+m) aK->n+m<=aK->K (a.put o.dst (.slice I (n+m) aK)) ab):o.wp P a S K Q:=by
 obtain⟨hl,xs,ac,au⟩:=h0;obtain⟨b3,ba,ay⟩:=ap.src bv;refine kf _ aX s x bn B _ n xs hs ac _ m c2 b3 hx ay r y C (λh=>(by subst h;exact ap.none_)) λG ab bS cW H=>?_;obtain⟨I,aK,rfl,hc,_⟩:=b5 bS;exact h I aK ab (Gr.Hu hl ap.1 ac au ba (s:=S.heap.size) (Lk _) bS cW H) (LW.grown cW λg a9=>.inl a9) (λb O=>by
  rcases H with H|H
  .rw[H] at O;exact .inl O
  .rw[H] at O;injection O with O;right;omega) hc
theorem xA{ops:Array Oper}{rest:List Oper}{Q:Exit->Act->World->Prop}(aX:cj P t e z size bytes)(i:o.guard=none)(s x:Operand)
  (bn:o.op=.call {callee:=.builtin .append,args:=#[s,x],argTypes:=#[t,t]})
  {A A2:L3} {n c m c2:Nat} {l k:List D} (h0:Gr f B e size S A n c l) (ap:Sl S (lL f S (.slice A n c)) A2 m k) (bv:∀d∈k,d.sz=size)
  (hs:a.eval s=.slice A n c) (hx:a.eval x=.slice A2 m c2)
  (r:(n+m)*bytes<=140737488355328) (y:n+m<=140737488355328) (C:B<=S.heap.size)
  (h:∀I aK ab,Gr f B e size ab I (n+m) aK (l++k)->Fr (λb=>(Value.slice A n c).ownBlock=some b) S ab->dt S A n c I (n+m) aK->n+m<=aK->wpList P ops Q rest (a.put o.dst (.slice I (n+m) aK)) ab):wpList P ops Q (o::rest) a S:=
 wpList_plain i λ_ hK=>Fp aX s x bn h0 ap bv hs hx r y C λI aK ab cb g2 cT da=>hK _ _ (h I aK ab cb g2 cT da)
end
structure lz(B:Nat)(e1:TypeId)(bs:Nat)(e2:TypeId)(br:Nat)(w:World)(A:L3)(n c:Nat)(l:List D)(I:L3)(aP aK:Nat)(aO:List D):Prop where
 one:Gr (λb=>B<=b/\(Value.slice I aP aK).ownBlock≠some b) B e1 bs w A n c l
 two:Gr (λb=>B<=b/\(Value.slice A n c).ownBlock≠some b) B e2 br w I aP aK aO
 ne:∀b,(Value.slice A n c).ownBlock=some b->(Value.slice I aP aK).ownBlock≠some b
section
variable {B:Nat} {e1 e2:TypeId} {bs br:Nat} {w ab:World} {A I A2:L3} {n c aP aK n2 c2:Nat} {l aO cP:List D}
theorem lz.nil(B:Nat)(e1:TypeId)(bs:Nat)(e2:TypeId)(br:Nat)(w:World):lz B e1 bs e2 br w none 0 0 [] none 0 0 []:=⟨Gr.nil _ _ _ _ _,Gr.nil _ _ _ _ _,λb h=>by cases h⟩
theorem lz.swap(h:lz B e1 bs e2 br w A n c l I aP aK aO):lz B e2 br e1 bs w I aP aK aO A n c l:=⟨h.two,h.one,λb ac au=>h.ne b au ac⟩
theorem lz.c8(h:lz B e1 bs e2 br w A n c l I aP aK aO)(O:Fr M w ab)(hM:∀b,M b->b<w.heap.size->b<B):lz B e1 bs e2 br ab A n c l I aP aK aO:=by
 refine⟨h.one.dm O.size λb al hp=>O.block b al λhm=>?_,h.two.dm O.size λb al hp=>O.block b al λhm=>?_,h.ne⟩
 .have:=hM b hm al;rcases hp with hp|hp
  .have:=hp.1;omega
  .have:=(h.one.lt hp).1;omega
 .have:=hM b hm al;rcases hp with hp|hp
  .have:=hp.1;omega
  .have:=(h.two.lt hp).1;omega
theorem lz.aj(h:lz B e1 bs e2 br w A n c l I aP aK aO)(O:Ext w ab):lz B e1 bs e2 br ab A n c l I aP aK aO:=h.c8 O λ_ h _=>h.elim
theorem lz.grow(h:lz B e1 bs e2 br w A n c l I aP aK aO)(a9:Gr (λb=>B<=b/\(Value.slice I aP aK).ownBlock≠some b) B e1 bs ab A2 n2 c2 cP)(J:Fr (λb=>(Value.slice A n c).ownBlock=some b) w ab)(bn:dt w A n c A2 n2 c2) :
  lz B e1 bs e2 br ab A2 n2 c2 cP I aP aK aO:=by
 have ac:Gr (λb=>(B<=b/\(Value.slice A n c).ownBlock≠some b)/\(Value.slice A2 n2 c2).ownBlock≠some b) B e2 br w I aP aK aO:=h.two.mono λb al hp=>⟨hp,λO=>by
  rcases bn b O with ac|ac
  .exact hp.2 ac
  .omega⟩
 have au:=ac.dm J.size λb al hp=>J.block b al λhm=>by
  rcases hp with hp|hp
  .exact hp.1.2 hm
  .exact h.ne b hm hp
 refine⟨a9,au.mono λb _ hp=>⟨hp.1.1,hp.2⟩,λb O au=>?_⟩;rcases bn b O with ac|ac
 .exact h.ne b ac au
 .have:=(h.two.lt au).2;omega
end
theorem Gr.lit{P:Nat->Prop}{w:World}{e:TypeId}{z n:Nat}{l:List D}(hl:l.length=n)(T:cs.size=n*z)(hn:n<=1000000)(ba:D.aQ w (λb=>P b/\b<w.heap.size) l cs.toList):
  Gr P w.heap.size e z (w.alloc (.cells cs e)) (some ⟨w.heap.size,0,none⟩) n n l:=by
 refine⟨hl,cs.toList,World.ownsRow_lit w _ n (Lk _) (by unfold maxLen;omega) T,?_⟩;refine D.bZ (λb O=>⟨O.1,by have:=O.2;simp;omega,λhc=>?_⟩) _ _ (D.bY (λb O=>Below.heap_alloc w _ b O.2) _ _ ba);simp[Value.ownBlock] at hc;have:=O.2;omega
def rZ(g:Nat):World->Nat->List Value->World
 | V,_,[]=>V
 | V,i,v::vs=>rZ g (V.setCell ⟨g,i,none⟩ v) (i+1) vs
def je:Array Value->Nat->List Value->Array Value
 | cs,_,[]=>cs
 | cs,i,v::vs=>je (cs.setIfInBounds i v) (i+1) vs
theorem mq:∀(vs:List Value) (i:Nat) (cs:Array Value),i+vs.length<=cs.size->(je cs i vs).toList=cs.toList.take i++vs++cs.toList.drop (i+vs.length)
 | [],i,cs,_=>by simp[je]
 | v::vs,i,cs,h=>by
  simp only[Lx] at h;rw[je,mq vs (i+1) _ (by simp;omega),Array.toList_setIfInBounds];have an:i<cs.toList.length:=by simp;omega
  rw[List.take_succ_eq_append_getElem (by simpa using an),List.take_set_of_le (Lk _),List.drop_set_of_lt ad];simp[Nat.add_assoc,Nat.add_comm 1]
theorem k8{g:Nat}{t:TypeId}:∀(vs:List Value) (i:Nat) (V:World) (cs:Array Value),aq V g t cs->aq (rZ g V i vs) g t (je cs i vs)
 | [],_,_,_,h=>h
 | _::vs,i,_,_,h=>k8 vs (i+1) _ _ (h.aM i _)
theorem mM{g:Nat}:∀(vs:List Value) (i:Nat) (V:World),Fr (λb=>b=g) V (rZ g V i vs)
 | [],_,_=>LW
 | _::vs,i,_=>Fr.trans ((Fr.refl (λb=>b=g) _).setCell (.inl rfl) _) (mM vs (i+1) _)
theorem bw{w X V:World}{g:Nat}{t:TypeId}(vs:List Value)(hs:cs.size=vs.length)(aR:aq V g t cs)(aw:Ext w V)(a9:w.heap.size<=g)(hX:rZ g V 0 vs=X):
  aq X g t vs.toArray/\Ext w X/\Fr (λb=>b=g) V X:=by
 subst hX;have J:=mM (g:=g) vs 0 V;refine⟨?_,Fr.low (M:=λb=>b=g) (Fr.trans (Fr.mono aw λ_ h=>h.elim) J) λk ap=>by subst ap;exact a9,J⟩;have ac:=k8 vs 0 V cs aR;have au:je cs 0 vs=vs.toArray:=by
  apply Array.toList_inj.1
  rw[mq vs 0 cs ad];simp;omega
 rwa [au] at ac
section
variable {P:Program} {f:Nat->Prop} {B:Nat} {e t:TypeId} {z:Value} {size bytes:Nat}
theorem fa{Q:Exit->Act->World->Prop}(aX:cj P t e z size bytes)(s x:Operand)
  (bn:o.op=.call {callee:=.builtin .append,args:=#[s,x],argTypes:=#[t,t]})
  {A:L3} {n c g:Nat} {l:List D} (h0:Gr f B e size S A n c l) {d:D} {cs:Array Value} {i:TypeId} (aR:aq S g i cs) (hd:d.rep S (lL f S (.slice A n c)) cs.toList)
  (hs:a.eval s=.slice A n c) (hx:a.eval x=.slice (some ⟨g,0,none⟩) 1 1) (T:cs.size=size)
  (r:(n+1)*bytes<=140737488355328) (y:n+1<=140737488355328) (C:B<=S.heap.size)
  (h:∀I aK ab,Gr f B e size ab I (n+1) aK (l++[d])->Fr (λb=>(Value.slice A n c).ownBlock=some b) S ab->dt S A n c I (n+1) aK->n+1<=aK->K (a.put o.dst (.slice I (n+1) aK)) ab):o.wp P a S K Q:=by
 obtain⟨hl,xs,ac,au⟩:=h0;have ay:Src S size (some ⟨g,0,none⟩) 1 cs.toList:=⟨by simpa using T,D.tC _ _ hd,λ_=>⟨g,0,rfl,λj u bi=>by
  rw[LF,aR.cell];simpa using bi⟩⟩
 refine kf _ aX s x bn B _ n xs hs ac _ 1 1 cs.toList hx ay r y C (λh=>nomatch h) λG ab bS cW H=>?_;obtain⟨I,aK,rfl,hc,_⟩:=b5 bS;refine h I aK ab (Gr.snoc hl ac au hd (s:=S.heap.size) (Lk _) bS cW H) (LW.grown cW λg a9=>.inl a9) (λb O=>?_) hc;exact z4
theorem xB{Q:Exit->Act->World->Prop}(aX:cj P t e z size bytes)(s x:Operand)
  (bn:o.op=.call {callee:=.builtin .append,args:=#[s,x],argTypes:=#[t,t]})
  {A A2:L3} {n c m c2:Nat} {l k:List D} {b3:List Value} (h0:Gr f B e size S A n c l) (ba:D.aQ S (lL f S (.slice A n c)) k b3) (ap:k.length=m) (ay:Src S size A2 m b3) (hn:A2=none->m=0)
  (hs:a.eval s=.slice A n c) (hx:a.eval x=.slice A2 m c2)
  (r:(n+m)*bytes<=140737488355328) (y:n+m<=140737488355328) (C:B<=S.heap.size)
  (h:∀I aK ab,Gr f B e size ab I (n+m) aK (l++k)->Fr (λb=>(Value.slice A n c).ownBlock=some b) S ab->dt S A n c I (n+m) aK->n+m<=aK->K (a.put o.dst (.slice I (n+m) aK)) ab):o.wp P a S K Q:=by
 obtain⟨hl,xs,ac,au⟩:=h0;refine kf _ aX s x bn B _ n xs hs ac _ m c2 b3 hx ay r y C hn λG ab bS cW H=>?_;obtain⟨I,aK,rfl,hc,_⟩:=b5 bS;refine h I aK ab (Gr.Hu hl ap ac au ba (s:=S.heap.size) (Lk _) bS cW H) (LW.grown cW λg a9=>.inl a9) (λb O=>?_) hc;exact z4
theorem q8{ops:Array Oper}{rest:List Oper}{Q:Exit->Act->World->Prop}(aX:cj P t e z size bytes)(i:o.guard=none)(s x:Operand)
  (bn:o.op=.call {callee:=.builtin .append,args:=#[s,x],argTypes:=#[t,t]})
  {A A2:L3} {n c m c2:Nat} {l k:List D} {b3:List Value} (h0:Gr f B e size S A n c l) (ba:D.aQ S (lL f S (.slice A n c)) k b3) (ap:k.length=m) (ay:Src S size A2 m b3) (hn:A2=none->m=0)
  (hs:a.eval s=.slice A n c) (hx:a.eval x=.slice A2 m c2)
  (r:(n+m)*bytes<=140737488355328) (y:n+m<=140737488355328) (C:B<=S.heap.size)
  (h:∀I aK ab,Gr f B e size ab I (n+m) aK (l++k)->Fr (λb=>(Value.slice A n c).ownBlock=some b) S ab->dt S A n c I (n+m) aK->n+m<=aK->wpList P ops Q rest (a.put o.dst (.slice I (n+m) aK)) ab):wpList P ops Q (o::rest) a S:=
 wpList_plain i λ_ hK=>xB aX s x bn h0 ba ap ay hn hs hx r y C λI aK ab cb g2 cT da=>hK _ _ (h I aK ab cb g2 cT da)
theorem js{Q:Exit->Act->World->Prop}(aX:cj P t e z size bytes)(s x:Operand)
  (bn:o.op=.call {callee:=.builtin .append,args:=#[s,x],argTypes:=#[t,t]})
  {A2:L3} {g m c2:Nat} {k:List D} {b3:List Value} (h0:Gr f B e size S (some ⟨g,0,none⟩) 0 0 []) (ba:D.aQ S (lL f S (.slice (some ⟨g,0,none⟩) 0 0)) k b3) (ap:k.length=m) (ay:Src S size A2 m b3) (hn:A2=none->m=0)
  (hs:a.eval s=.slice (some ⟨g,0,none⟩) 0 0) (hx:a.eval x=.slice A2 m c2)
  (r:m*bytes<=140737488355328) (y:m<=140737488355328) (C:B<=S.heap.size)
  (h:∀I aK ab,Gr f B e size ab I m aK k->Fr (λb=>b=g) S ab->(∀b,(Value.slice I m aK).ownBlock=some b->b=g\/S.heap.size<=b)->m<=aK->K (a.put o.dst (.slice I m aK)) ab):o.wp P a S K Q:=by
 refine xB aX s x bn h0 ba ap ay hn hs hx (by rw[LF];exact r) ad C λI aK ab cb g2 cT da=>?_;simp only[LF,LN] at cb cT da ⊢;exact h I aK ab cb (g2.mono λb O=>by simp[Value.ownBlock] at O;exact O.symm) (λb O=>(cT b O).imp (λh=>by simp[Value.ownBlock] at h;exact h.symm) id) da
end
section
variable {P:Program} {ops:Array Oper} {Q:Exit->Act->World->Prop} {R:World->World->Prop} {tails:List Nat}
theorem iQ{δ:Type}{aa:α->β->γ->δ->Act}{C:α->β->γ->δ->World->Prop}(h:(∀x y z u V,C x y z u V->cR P ops Q R tails rest (aa x y z u) V)->G)(key:∀x y z u V,C x y z u V->cR P ops Q R tails rest (aa x y z u) V):G:=h key
theorem g0{aa:α->β->γ->Act}{C:α->β->γ->World->Prop}(h:(∀x y z V,C x y z V->cR P ops Q R tails rest (aa x y z) V)->G)(key:∀x y z V,C x y z V->cR P ops Q R tails rest (aa x y z) V):G:=h key
theorem mu{aa:α->β->Act}{C:α->β->World->Prop}(h:(∀x y V,C x y V->cR P ops Q R tails rest (aa x y) V)->G)(key:∀x y V,C x y V->cR P ops Q R tails rest (aa x y) V):G:=h key
theorem xq{aa:α->Act}{C:α->World->Prop}(h:(∀x V,C x V->cR P ops Q R tails rest (aa x) V)->G)(key:∀x V,C x V->cR P ops Q R tails rest (aa x) V):G:=h key
end
theorem H4{w a b:World}(ac:Ext w a)(au:Ext w b)(hs:a.heap.size=w.heap.size+1)(bN:a.heap.size<=b.heap.size):Fr (λk=>k=w.heap.size) a b:=
 ⟨au.os.trans ac.os.symm,au.tape.trans ac.tape.symm,au.output.trans ac.output.symm,bN,λk ap hn=>(au.block k ad λh=>h).trans (ac.block k ad λh=>h).symm⟩
theorem wE{P:Nat->Prop}{w ab:World}{v:Value}{cs:List Value}(h:d.rep w (lL P w v) cs)(he:Ext w ab):d.rep ab (lL P ab v) cs:=
 D.aL (λb O=>⟨O.1,Ll O.2.1 he.size,O.2.2⟩) _ _ (D.aS (λb O=>he.block b O.2.1 λh=>h) _ _ h)
structure eS where
 name:ByteArray
 idx:Option VE
inductive ds where
 | mx (r:eS)
 | ex (e:VE)
inductive an where
 | nil
 | set (isVar:Bool) (n:ByteArray) (e:VE) (rest:an)
 | call (a:Bool) (n:ByteArray) (args:List ds) (rest:an)
 | lock (un:Bool) (r:eS) (rest:an)
 | ite (e:VE) (th el rest:an)
 | gz (e:VE) (th rest:an)
 | ret (rest:an)
structure aK where
 name:ByteArray
 params:List (ByteArray×Bool)
 body:an
structure bP where
 globals:List (ByteArray×Int)
 af:List bD
 funcs:List aK
structure bN where
 param:Bool
 index:Int
 at_:Option VE
structure az where
 op:Int
 target:Int
 c7:Bool
 expr:Option VE
 place:bN
 ints:List VE
 places:List bN
structure cM where
 name:ByteArray
 ints:Int
 au:Int
 locals:Int
 code:List az
structure ay where
 globals:List Int
 af:List bD
 procs:List cM
 main:Int
structure ak where
 proc:Int
 pc:Int
 ints:List Int
 au:List Int
structure ai where
 globals:List Int
 table:List bV
 threads:List (List ak)
 fault:Int
end Go.Proofs.YtkhnkojkplbioaaGreat

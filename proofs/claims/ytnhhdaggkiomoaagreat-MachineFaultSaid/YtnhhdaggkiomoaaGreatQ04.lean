/- Part 4 of the proof. No condition of its own. -/
import Derived.Test.YtnhhdaggkiomoaaGreatQ03
namespace Go.Proofs.YtnhhdaggkiomoaaGreat
open Go.RowKit Go.Proofs.Tryz
set_option maxRecDepth 1000000
set_option maxHeartbeats 25600000
set_option linter.unusedVariables false
variable{a:Act}{K:Act→World→Prop}{d:D}{threads:Int}{m:List D}{cK cs xs:List Value}{X:List bI}{T:List cy}{cN k:Nat}{M:Nat→Prop}{o:Oper}{rest:PT}{G p:Prop}{α β γ:Type}{S:World}
def idx(ms:Int)(r:Int×Int):Int×Int:=if r.2≠0 then (0,r.2) else if r.1<0∨ms≤r.1 then (0,2) else (r.1,0)
structure yZ(w:World)(MA:Ls)(mn:Nat)(X:List bI)(G L:Ls)(ng nl:Nat)(g l:List Int)(e:VE)(i:Nat)(m:bI)(b o:Nat)(c0 c1 c2 c3:Value):Prop where
 ev:lD w G L ng nl g l e [c0,c1,c2,c3]
 ms:cq (EF gy) 3 w w.heap.size MA mn X
 i1:i<mn
 hm:X[i]?=some m
 bl:b<w.heap.size
 e0:w.cell? ⟨b,o,none⟩=some c0
 e1:w.cell? ⟨b,o+1,none⟩=some c1
 e2:w.cell? ⟨b,o+2,none⟩=some c2
 e3:w.cell? ⟨b,o+3,none⟩=some c3
theorem cq.Jg{w:World}{B n:Nat}{A:Ls}{l:List bI}(h:cq (EF gy) 3 w B A n l)(ap:k<n):
  ∃b o m,A=some ⟨b,o,none⟩∧b<B∧l[k]?=some m∧w.cell? ⟨b,o+k*3,none⟩=some (.string m.name)∧w.cell? ⟨b,o+k*3+1,none⟩=some (.bool m.re)∧w.cell? ⟨b,o+k*3+2,none⟩=some (.int .i64 m.size):=by
 obtain⟨b,o,x,bw,O,hx,_,hc⟩:=h.Ih ap;exact⟨b,o,x,bw,O,hx,hc 0 _ rfl,hc 1 _ rfl,hc 2 _ rfl⟩
namespace B6
theorem z2(h:p:=by
 have q1:decide ((i:Int)<0)=false:=by simp
 have cB:decide (i≥mn)=false:=by simp;omega
 have a:decide (mn≤i)=false:=by simp;omega
 have dd:(0:Int)≤(i:Int):=ad;have df:(i:Int)<(mn:Int):=ad;have cn:=ae (ar.on (Fr.ext aw));clear hm aQ ar F;go_enter func68,ntmps68;go_wp2_with(fail);have cK:=(aw.cell (j:=o) T (fun h=>h)).trans e0;have cv:=(aw.cell (j:=o+1) T (fun h=>h)).trans e1;generalize w.alloc (.cells #[.bool false,.int .i64 i,.slice (some ⟨b,o,none⟩) 1 pc] 56)=W at *;refine(o2 e W G L ng nl cg cl g l _ _ _ _ cn.o).mono ?_;exact F5
 ):p:=h
end B6
open B6 in
theorem x6(w:World)(MA:Ls)(mn mc:Nat)(X:List bI)(G L:Ls)(ng nl cg cl:Nat)(g l:List Int)(e:VE)(i:Nat)(m:bI)(b o pc:Nat)(c0 c1 c2 c3:Value)
  (h:yZ w MA mn X G L ng nl g l e i m b o c0 c1 c2 c3) :
  Calls prog 68 #[.agg #[.bool false,.int .i64 i,.slice (some ⟨b,o,none⟩) 1 pc],.slice MA mn mc,.slice G ng cg,.slice L nl cl] w (fX w (idx m.size (ev g l e))):=by
 exact z1
namespace B7
theorem z2(h:p:=by
 have dd:(0:Int)≤(i:Int):=ad;have df:(i:Int)<(mn:Int):=ad;have cn:=ae (ar.on (Fr.ext aw));have a:=ae n;clear hm aQ ar F n;go_enter func70,ntmps70;go_wp2_with(fail);have cK:=(aw.cell (j:=o) T (fun h=>h)).trans e0;have cv:=(aw.cell (j:=o+1) T (fun h=>h)).trans e1;generalize w.alloc (.cells #[.bool false,.int .i64 i,.slice (some ⟨b,o,none⟩) 1 pc] 56)=W at *;refine(ny e W G L ng nl cg cl g l _ _ _ _ cn.o a.o).mono ?_;exact F5
 ):p:=h
end B7
open B7 in
theorem sZ(w:World)(MA:Ls)(mn mc:Nat)(X:List bI)(G L:Ls)(ng nl cg cl:Nat)(g l:List Int)(e:VE)(i:Nat)(m:bI)(b o pc:Nat)(c0 c1 c2 c3:Value)
  (h:yZ w MA mn X G L ng nl g l e i m b o c0 c1 c2 c3) (n:nL g l e) :
  Calls prog 70 #[.agg #[.bool false,.int .i64 i,.slice (some ⟨b,o,none⟩) 1 pc],.slice MA mn mc,.slice G ng cg,.slice L nl cl] w (fX w (idx m.size (ev g l e))):=by
 exact z1
theorem uZ(w:World)(i:Int)(A:Ls)(pc:Nat)(b:Bool)(m g l:Value):Calls prog 68 #[.agg #[.bool b,.int .i64 i,.slice A 0 pc],m,g,l] w (fX w (0,0)):=by
 go_enter func68,ntmps68;go_wp2
 go_ret2
 exact vg
theorem q2(w:World)(i:Int)(A:Ls)(pc:Nat)(b:Bool)(m g l:Value):Calls prog 70 #[.agg #[.bool b,.int .i64 i,.slice A 0 pc],m,g,l] w (fX w (0,0)):=by
 go_enter func70,ntmps70;go_wp2
 go_ret2
 exact vg
section
attribute [local go_sem ↓] gk gm
theorem xK(a b c d:Int)(w:World):(binOp .neq 102 (.agg #[.int .i64 a,.int .i64 b]) (.agg #[.int .i64 c,.int .i64 d])).run prog w=.ok (.bool (decide (a≠c∨b≠d))) w:=by
 exact zO
theorem Fe(a b c d:Int)(w:World):(binOp .eql 102 (.agg #[.int .i64 a,.int .i64 b]) (.agg #[.int .i64 c,.int .i64 d])).run prog w=.ok (.bool (decide (a=c∧b=d))) w:=by
 exact zO
namespace Cv
theorem so(h:p:=by
 go_enter func47,ntmps47;exact r6
 ):p:=h
end Cv
open Cv in
theorem Eh(A A2:Ls)(n c n2 c2:Nat)(S T:List cy)(w:World)(hs:cq (EF bJ) 2 w w.heap.size A n S)(ht:cq (EF bJ) 2 w w.heap.size A2 n2 T)(hn:n≤140737488355328) :
  Calls prog 47 #[.slice A n c,.slice A2 n2 c2] w fun r ab=>r=.returned (.bool (decide (S=T)))∧Below w.heap.size w ab:=by
 have hl:=hs.1;have cg:=ht.1;by_cases bf:n=n2
 case neg=>
  exact sn
 subst bf;obtain⟨ca,J⟩:=aI hl cg;clear hl cg;have bm:((n:Int) != (n:Int))=false:=by simp
 go_enter func47,ntmps47;go_wp2;go_loopw [5] (fun i wr=>∃k:Nat,k≤n∧i=.int .i64 k∧(∀j,j<k→S[j]?=T[j]?)∧Below w.heap.size w wr) (fun i _=>n - (intOf i).toNat)
 case atStart=>exact⟨0,Ld _,rfl,fun j bi=>absurd bi ad,Below.refl _ _⟩
 case round=>
  obtain⟨k,ap,rfl,bR,O⟩:=hrel;have aA:=ae bR;clear bR;by_cases ak:k<n
  ·obtain⟨b,o,x,rfl,U,hx,c0,c1⟩:=(hs.ez O).hold ak;obtain⟨K,R,d,rfl,l,g,d0,d1⟩:=(ht.ez O).hold ak;have bo:(0:Int)≤(k:Int):=ad;have cf:(k:Int)<(n:Int):=ad;have e:=xK;by_cases hd:x.owner≠d.owner∨x.depth≠d.depth
   ·have aW:=ae (show decide (S=T)=false from decide_eq_false (fun h=>by
     subst h;rw[hx] at g;injection g with g;subst g;simp at hd))
    have u:decide (x.owner≠d.owner∨x.depth≠d.depth)=true:=decide_eq_true hd;exact Gq
   ·have aQ:=ae (show S[k]?=T[k]? by
     have ac:x.owner=d.owner:=by
      by_cases ah:x.owner=d.owner
      ·exact ah
      ·exact absurd (.inl ah) hd
     have av:x.depth=d.depth:=by
      by_cases ah:x.depth=d.depth
      ·exact ah
      ·exact absurd (.inr ah) hd
     rw[hx,g];congr 1
     cases x;cases d
     simp_all)
    have u:decide (x.owner≠d.owner∨x.depth≠d.depth)=false:=decide_eq_false hd;exact Ga
  ·obtain rfl:k=n:=ad;exact xf
def Il(X:List bI)(T:List cy)(m th:Int)(i:Nat):Int:=if (own X)[i]?=some m∧(jW T i).owner=th+1∧0≤th then (jW T i).depth else 0
def GG(X:List bI)(T:List cy)(m th:Int):Nat→Int
 | 0=>0
 | k+1=>GG X T m th k+Il X T m th k
def depth(X:List bI)(T:List cy)(m th:Int):Int:=GG X T m th (own X).length
end
section
attribute [local go_sem ↓] gk gm
def eJ(X:List bI)(threads:Int)(i:Nat)(h:cy):Bool:=
 !(decide (h.owner<0) || decide (threads<h.owner) || ((h.owner == 0) != (h.depth == 0)) || decide (h.depth<0) || (decide (1<h.depth) && !wA X (bt X i)))
def gX(X:List bI)(T:List cy)(threads:Int):Bool:=decide (T.length=(own X).length) && (List.range T.length).all fun i=>eJ X threads i (jW T i)
theorem w0(h:T.length≠(own X).length):gX X T threads=false:=by
 unfold gX;rw[decide_eq_false h];rfl
theorem wZ{hd:cy}(hx:T[k]?=some hd)(h:eJ X threads k hd=false):gX X T threads=false:=by
 unfold gX;have ap:=(List.getElem?_eq_some_iff.1 hx).1;have bw:jW T (k:Int)=hd:=by unfold jW;rw[Lc,hx];rfl
 rw[Bool.and_eq_false_iff];right;rw[List.all_eq_false];exact⟨k,List.mem_range.2 ap,by rw[bw,h];simp⟩
theorem oc(hl:T.length=(own X).length)(h:∀k hd,T[k]?=some hd→eJ X threads k hd=true):gX X T threads=true:=by
 unfold gX;rw[decide_eq_true hl,Bool.true_and,List.all_eq_true];intro k ap;have ap:=List.mem_range.1 ap;refine h k _ ?_;unfold jW;rw[Lc,List.getElem?_eq_getElem ap];rfl
theorem yP(A A2:Ls)(n c n2 c2:Nat)(X:List bI)(T:List cy)(th:Int)(w:World)(h:cq (EF gy) 3 w w.heap.size A n X)(hX:m2 X)
  (ht:cq (EF bJ) 2 w w.heap.size A2 n2 T) :
  Calls prog 54 #[.slice A n c,.slice A2 n2 c2,.int .i64 th] w fun r ab=>r=.returned (.bool (gX X T th))∧Below w.heap.size w ab:=by
 have hl:=h.1;have cg:=ht.1;have E:=cA hX;have f:=eu X;go_enter func54,ntmps54;go_wp2_with(fail);refine(h1 A n c X w h hX).mono ?_;rintro r aS ⟨rfl,O⟩;rw[←f];generalize hN:(own X).length=N at *;by_cases bf:n2=N
 case neg=>
  have aW:=ae (show gX X T th=false from w0 ad);have v:(n2 != N)=true:=by simpa using bf
  have m:((n2:Int) != (N:Int))=true:=by simp;omega
  clear hl cg hN f bf;exact tv
 subst bf;have ca:=ae (show T.length=(own X).length by omega);obtain⟨D,J,y⟩:=eh f cg hl;clear hl cg hN f;have bm:((n2:Int) != (n2:Int))=false:=by simp
 go_wp2;go_loopw [16] (fun i wr=>∃k:Nat,k≤n2∧i=.int .i64 k∧(∀j hd,j<k→T[j]?=some hd→eJ X th j hd=true)∧Below w.heap.size w wr) (fun i _=>n2 - (intOf i).toNat)
 case atStart=>exact⟨0,Ld _,rfl,fun j hd bi=>absurd bi ad,O⟩
 case round=>
  obtain⟨k,ap,rfl,bR,aX⟩:=hrel;have aA:=ae bR;clear bR;by_cases ak:k<n2
  ·obtain⟨b,o,hd,rfl,U,hx,c0,c1⟩:=(ht.ez aX).hold ak;have b0:=aX.size;have aQ:=ae hx;have d:Lu (eJ X th k hd=false→gX X T th=false):=ae fun ac=>wZ aQ.o ac;clear hx;by_cases e1:hd.owner<0
   ·have aW:=ae (d.o (by unfold eJ;simp[e1]));exact tx
   by_cases e2:th<hd.owner
   ·have aW:=ae (d.o (by unfold eJ;simp[e2]));exact tx
   by_cases f1:hd.owner=0
   ·have cd:(hd.owner == 0)=true:=by simpa using f1
    by_cases f2:hd.depth=0
    ·have g2:(hd.depth == 0)=true:=by simpa using f2
     have aP:=ae (show eJ X th k hd=true by unfold eJ;rw[cd,g2];simp;omega);have f3:¬hd.depth<0:=ad;have f4:¬1<hd.depth:=ad;clear f1 f2;exact Gs
    ·have g2:(hd.depth == 0)=false:=by simpa using f2
     have aW:=ae (d.o (by unfold eJ;rw[cd,g2];simp));clear f1 f2;exact tx
   have cd:(hd.owner == 0)=false:=by simpa using f1
   by_cases f2:hd.depth=0
   ·have g2:(hd.depth == 0)=true:=by simpa using f2
    have aW:=ae (d.o (by unfold eJ;rw[cd,g2];simp));clear f1 f2;exact tx
   have g2:(hd.depth == 0)=false:=by simpa using f2
   by_cases cH:hd.depth<0
   ·have aW:=ae (d.o (by unfold eJ;simp[cH]));exact tx
   by_cases cr:1<hd.depth
   case neg=>
    have aP:=ae (show eJ X th k hd=true by unfold eJ;rw[cd,g2];simp[e1,e2,cH,cr]);exact Gs
   have bB:0≤bt X (k:Int):=l0 ad (aD D.o);obtain⟨i,t,an,P,_⟩:=mF bB;have aJ:i<n:=by have:=(List.getElem?_eq_some_iff.1 P).1;have:=y.o;omega
   have L:wA X (bt X (k:Int))=t.re:=by rw[an];unfold wA;rw[Lc,P];rfl
   obtain⟨s,cp,av⟩:=eh L an P;clear L an P bB;go_wp2_with(fail);have e:=aX.alloc b0 (.cells #[.int .i64 hd.owner,.int .i64 hd.depth] 102);refine(nZ A n c X k _ (h.c4 e e.size) hX ad).mono ?_;rintro r aT ⟨rfl,bg⟩;have ct:=e.trans (bg.mono e.size);obtain⟨K,R,F,rfl,l,g,d0,d1,d2⟩:=(h.ez ct).IE aJ;obtain rfl:t=F:=by have:=av.o;rw[g] at this;injection this with this;exact this.symm
   clear g;rw[cp.o]
   cases a5:t.re with
   | false=>
    have aW:=ae (d.o (by unfold eJ;rw[s.o,a5];simp[cr]));rw[a5] at d1;clear a5;go_wp2;go_ret
    exact⟨ret_bool (by rw[aW.o]),ct⟩
   | true=>
    have aP:=ae (show eJ X th k hd=true by unfold eJ;rw[s.o,a5,cd,g2];simp[e1,e2,cH]);rw[a5] at d1;clear a5;go_wp2;go_roundw
    case rel=>
     refine⟨k+1,ad,by go_num,fun j u bi g=>?_,ct⟩;by_cases z:j<k
     ·exact aA.o j u z g
     ·obtain rfl:j=k:=ad;rw[aQ.o] at g;injection g with g;rw[←g];exact aP.o
    case measure=>exact aH
  ·obtain rfl:k=n2:=ad;have aW:=ae (show gX X T th=true from oc ca.o fun j hd hx=>aA.o j hd (by have:=(List.getElem?_eq_some_iff.1 hx).1;have:=J.o;omega) hx);go_wp2;go_ret;exact⟨ret_bool (by rw[aW.o]),aX⟩
end
abbrev lv(P:Nat→Prop)(w:World)(v:Value):Nat→Prop:=fun b=>P b∧b<w.heap.size∧v.ownBlock≠some b
structure Gr(P:Nat→Prop)(B:Nat)(e:TypeId)(z:Nat)(w:World)(A:Ls)(n c:Nat)(l:List D):Prop where
 len:l.length=n
 ex:∃xs,w.ownsRow B e z (.slice A n c) n xs∧D.aQ w (lv P w (.slice A n c)) l xs
section
variable {P Q:Nat→Prop} {B q:Nat} {e:TypeId} {z:Nat} {w ab aS:World} {A:Ls} {n c:Nat} {l:List D}
theorem Gr.nil(P:Nat→Prop)(B:Nat)(e:TypeId)(z:Nat)(w:World):Gr P B e z w none 0 0 []:=⟨rfl,[],⟨by simp,.inl ⟨rfl,rfl⟩⟩,by simp only[D.aQ]⟩
theorem Gr.lt(h:Gr P B e z w A n c l){g:Nat}(a2:(Value.slice A n c).ownBlock=some g):B≤g∧g<w.heap.size:=by
 obtain⟨_,xs,ac,_⟩:=h;exact ac.lt g a2
theorem Gr.cap(h:Gr P B e z w A n c l):n≤c∧c≤maxLen:=by
 obtain⟨_,xs,ac,_⟩:=h;obtain⟨_,_,bM,av,aV,_⟩:=b2 ac;injection bM with _ _ bM;subst bM;exact⟨av,aV⟩
theorem Gr.ak(h:Gr P B e z w A n c l)(hs:w.heap.size≤ab.heap.size)(ap:∀b,b<w.heap.size→(P b∨B≤b)→ab.heap[b]?=w.heap[b]?):Gr P B e z ab A n c l:=by
 obtain⟨hl,xs,ac,av⟩:=h;refine⟨hl,xs,⟨ac.1,?_⟩,D.bV (fun b O=>⟨O.1,KH O.2.1 hs,O.2.2⟩) _ _ (D.bU (fun b O=>ap b O.2.1 (.inl O.1)) _ _ av)⟩;rcases ac.2 with aV|⟨g,cap,cur,bM,j,a9,rest⟩
 ·exact .inl aV
 ·exact .inr ⟨g,cap,cur,bM,j,(ap g (Array.getElem?_eq_some_iff.1 a9).1 (.inr j)).trans a9,rest⟩
theorem Gr.dj(h:Gr P B e z w A n c l)(hs:w.heap.size≤ab.heap.size)(ap:∀b,b<w.heap.size→(P b∨(Value.slice A n c).ownBlock=some b)→ab.heap[b]?=w.heap[b]?):Gr P B e z ab A n c l:=by
 obtain⟨hl,xs,ac,av⟩:=h;refine⟨hl,xs,⟨ac.1,?_⟩,D.bV (fun b O=>⟨O.1,KH O.2.1 hs,O.2.2⟩) _ _ (D.bU (fun b O=>ap b O.2.1 (.inl O.1)) _ _ av)⟩;rcases ac.2 with aV|⟨g,cap,cur,bM,j,a9,rest⟩
 ·exact .inl aV
 ·exact .inr ⟨g,cap,cur,bM,j,(ap g (Array.getElem?_eq_some_iff.1 a9).1 (.inr (by rw[bM];rfl))).trans a9,rest⟩
theorem Gr.base{q:Nat}(h:Gr P B e z w A n c l)(aR:q≤B):Gr P q e z w A n c l:=by
 obtain⟨hl,xs,ac,av⟩:=h;refine⟨hl,xs,⟨ac.1,?_⟩,av⟩;rcases ac.2 with aV|⟨g,cap,cur,bM,j,a9,rest⟩
 ·exact .inl aV
 ·exact .inr ⟨g,cap,cur,bM,ad,a9,rest⟩
theorem Gr.mono(h:Gr P B e z w A n c l)(aZ:∀b,b<w.heap.size→P b→Q b):Gr Q B e z w A n c l:=by
 obtain⟨hl,xs,ac,av⟩:=h;exact⟨hl,xs,ac,D.bV (fun b O=>⟨aZ b O.2.1 O.1,O.2.1,O.2.2⟩) _ _ av⟩
theorem Gr.ai(h:Gr P B e z w A n c l)(O:Ext w ab):Gr P B e z ab A n c l:=h.ak O.size fun b ak _=>O.block b ak fun h=>h
theorem Gr.c4(h:Gr P B e z w A n c l)(O:Fr M w ab)(hM:∀b,M b→b<w.heap.size→¬P b∧b<B):Gr P B e z ab A n c l:=
 h.ak O.size fun b ak hp=>O.block b ak fun hm=>by
  obtain⟨ac,av⟩:=hM b hm ak;rcases hp with hp|hp
  ·exact ac hp
  ·omega
theorem Gr.sl(h:Gr P B e z w A n c l)(aZ:∀b,b<w.heap.size→P b→Q b)(aR:∀b,b<w.heap.size→B≤b→Q b):Sl w Q A n l:=by
 obtain⟨hl,xs,ac,av⟩:=h;exact Sl.qe ac (D.bV (fun b O=>aZ b O.2.1 O.1) _ _ av) hl fun g _ ac av=>aR g av ac
end
abbrev dq(S:World)(A:Ls)(n c:Nat)(I:Ls)(aP aK:Nat):Prop:=∀b,(Value.slice I aP aK).ownBlock=some b→(Value.slice A n c).ownBlock=some b∨S.heap.size≤b
section
variable {P:Program} {f:Nat→Prop} {B:Nat} {e t:TypeId} {z:Value} {size bytes:Nat}
theorem Gr.snoc{w ab:World}{A I:Ls}{n c aK:Nat}{l:List D}(hl:l.length=n)(ac:w.ownsRow B e cN (.slice A n c) n xs)(av:D.aQ w (lv f w (.slice A n c)) l xs)
  (hd:d.rep w (lv f w (.slice A n c)) cK) {s:Nat} (hs:w.heap.size≤s) (aC:ab.ownsRow B e cN (.slice I (n+1) aK) (n+1) (xs++cK)) (a2:w.grownBy ab (Value.slice A n c).ownBlock)
  (O:(Value.slice I (n+1) aK).ownBlock=(Value.slice A n c).ownBlock∨(Value.slice I (n+1) aK).ownBlock=some s):Gr f B e cN ab I (n+1) aK (l++[d]):=by
 refine⟨by simp[hl],_,aC,D.cH ?_ (D.bj.2 ?_)⟩
 ·refine D.bV (fun b aX=>⟨aX.1,KH aX.2.1 a2.size,fun hc=>?_⟩) _ _ (D.bU (fun b aX=>a2.block b aX.2.1 fun he=>aX.2.2 he.symm) _ _ av);exact xi
 ·refine D.aL (fun b aX=>⟨aX.1,KH aX.2.1 a2.size,fun hc=>?_⟩) _ _ (D.aS (fun b aX=>a2.block b aX.2.1 fun he=>aX.2.2 he.symm) _ _ hd);exact xi
namespace Bl
theorem AW(h:p:=by
 exact h I aK ab (Gr.snoc hl ac av hd (s:=S.heap.size+1) ad bP a2 (by simpa using H)) (Lo.grown a2 fun g a2=>.inl a2) (fun b O=>by
  rcases H with H|H
  ·rw[H] at O;exact .inl O
  ·rw[H] at O;injection O with O;right;simp at O;omega) hc
 ):p:=h
end Bl
open Bl in
theorem qJ{Q:Exit→Act→World→Prop}(bw:ch P t e z size bytes)(s x:Operand)
  (bn:o.op=.call {callee:=.builtin .append,args:=#[s,x],argTypes:=#[t,t]})
  {A:Ls} {n c:Nat} {l:List D} (h0:Gr f B e size S A n c l) {d:D} {cs:Array Value} (hd:d.rep S (lv f S (.slice A n c)) cs.toList)
  (hs:a.eval s=.slice A n c) (hx:a.eval x=.slice (some ⟨S.heap.size,0,none⟩) 1 1) (T:cs.size=size)
  (r:(n+1)*bytes≤140737488355328) (y:n+1≤140737488355328) (C:B≤S.heap.size)
  (h:∀I aK ab,Gr f B e size ab I (n+1) aK (l++[d])→Fr (fun b=>(Value.slice A n c).ownBlock=some b) S ab→dq S A n c I (n+1) aK→n+1≤aK→K (a.put o.dst (.slice I (n+1) aK)) ab):o.wp P a (S.alloc (.cells cs e)) K Q:=by
 obtain⟨hl,xs,ac,av⟩:=h0;refine j8 _ bw s x bn B _ n xs hs (ac.alloc _) _ 1 1 cs.toList hx (Src.block (heap_alloc_new S _) 1 ad (D.s3 _ _ hd)) r y (by simp;omega) (fun h=>nomatch h) fun G ab bP cU H=>?_;exact AV
theorem bQ{ops:Array Oper}{rest:List Oper}{Q:Exit→Act→World→Prop}(bw:ch P t e z size bytes)(i:o.guard=none)(s x:Operand)
  (bn:o.op=.call {callee:=.builtin .append,args:=#[s,x],argTypes:=#[t,t]})
  {A:Ls} {n c:Nat} {l:List D} (h0:Gr f B e size S A n c l) {d:D} {cs:Array Value} (hd:d.rep S (lv f S (.slice A n c)) cs.toList)
  (hs:a.eval s=.slice A n c) (hx:a.eval x=.slice (some ⟨S.heap.size,0,none⟩) 1 1) (T:cs.size=size)
  (r:(n+1)*bytes≤140737488355328) (y:n+1≤140737488355328) (C:B≤S.heap.size)
  (h:∀I aK ab,Gr f B e size ab I (n+1) aK (l++[d])→Fr (fun b=>(Value.slice A n c).ownBlock=some b) S ab→dq S A n c I (n+1) aK→n+1≤aK→wpList P ops Q rest (a.put o.dst (.slice I (n+1) aK)) ab):wpList P ops Q (o::rest) a (S.alloc (.cells cs e)):=
 wpList_plain i fun _ hK=>qJ bw s x bn h0 hd hs hx T r y C fun I aK ab cd g2 cS c9=>hK _ _ (h I aK ab cd g2 cS c9)
theorem Gr.GN{w ab:World}{A I:Ls}{n m c aK:Nat}{l k:List D}(hl:l.length=n)(hm:k.length=m)(ac:w.ownsRow B e cN (.slice A n c) n xs)(av:D.aQ w (lv f w (.slice A n c)) l xs)
  (hd:D.aQ w (lv f w (.slice A n c)) k cK) {s:Nat} (hs:w.heap.size≤s) (aC:ab.ownsRow B e cN (.slice I (n+m) aK) (n+m) (xs++cK)) (a2:w.grownBy ab (Value.slice A n c).ownBlock)
  (O:(Value.slice I (n+m) aK).ownBlock=(Value.slice A n c).ownBlock∨(Value.slice I (n+m) aK).ownBlock=some s):Gr f B e cN ab I (n+m) aK (l++k):=by
 refine⟨by simp[hl,hm],_,aC,D.cH ?_ ?_⟩
 ·refine D.bV (fun b aX=>⟨aX.1,KH aX.2.1 a2.size,fun hc=>?_⟩) _ _ (D.bU (fun b aX=>a2.block b aX.2.1 fun he=>aX.2.2 he.symm) _ _ av);exact xi
 ·refine D.bV (fun b aX=>⟨aX.1,KH aX.2.1 a2.size,fun hc=>?_⟩) _ _ (D.bU (fun b aX=>a2.block b aX.2.1 fun he=>aX.2.2 he.symm) _ _ hd);exact xi
theorem EJ{Q:Exit→Act→World→Prop}(bw:ch P t e z size bytes)(s x:Operand)
  (bn:o.op=.call {callee:=.builtin .append,args:=#[s,x],argTypes:=#[t,t]})
  {A A2:Ls} {n c m c2:Nat} {l k:List D} (h0:Gr f B e size S A n c l) (ap:Sl S (lv f S (.slice A n c)) A2 m k) (bt:∀d∈k,d.sz=size)
  (hs:a.eval s=.slice A n c) (hx:a.eval x=.slice A2 m c2)
  (r:(n+m)*bytes≤140737488355328) (y:n+m≤140737488355328) (C:B≤S.heap.size)
  (h:∀I aK ab,Gr f B e size ab I (n+m) aK (l++k)→Fr (fun b=>(Value.slice A n c).ownBlock=some b) S ab→dq S A n c I (n+m) aK→n+m≤aK→K (a.put o.dst (.slice I (n+m) aK)) ab):o.wp P a S K Q:=by
 obtain⟨hl,xs,ac,av⟩:=h0;obtain⟨cK,a5,ay⟩:=ap.src bt;refine j8 _ bw s x bn B _ n xs hs ac _ m c2 cK hx ay r y C (fun h=>(by subst h;exact ap.none_)) fun G ab bP cU H=>?_;obtain⟨I,aK,rfl,hc,_⟩:=b2 bP;exact h I aK ab (Gr.GN hl ap.1 ac av a5 (s:=S.heap.size) (KG _) bP cU H) (Lo.grown cU fun g a2=>.inl a2) (fun b O=>by
  rcases H with H|H
  ·rw[H] at O;exact .inl O
  ·rw[H] at O;injection O with O;right;omega) hc
theorem w3{ops:Array Oper}{rest:List Oper}{Q:Exit→Act→World→Prop}(bw:ch P t e z size bytes)(i:o.guard=none)(s x:Operand)
  (bn:o.op=.call {callee:=.builtin .append,args:=#[s,x],argTypes:=#[t,t]})
  {A A2:Ls} {n c m c2:Nat} {l k:List D} (h0:Gr f B e size S A n c l) (ap:Sl S (lv f S (.slice A n c)) A2 m k) (bt:∀d∈k,d.sz=size)
  (hs:a.eval s=.slice A n c) (hx:a.eval x=.slice A2 m c2)
  (r:(n+m)*bytes≤140737488355328) (y:n+m≤140737488355328) (C:B≤S.heap.size)
  (h:∀I aK ab,Gr f B e size ab I (n+m) aK (l++k)→Fr (fun b=>(Value.slice A n c).ownBlock=some b) S ab→dq S A n c I (n+m) aK→n+m≤aK→wpList P ops Q rest (a.put o.dst (.slice I (n+m) aK)) ab):wpList P ops Q (o::rest) a S:=
 wpList_plain i fun _ hK=>EJ bw s x bn h0 ap bt hs hx r y C fun I aK ab cd g2 cS c9=>hK _ _ (h I aK ab cd g2 cS c9)
end
structure ld(B:Nat)(e1:TypeId)(br:Nat)(e2:TypeId)(bo:Nat)(w:World)(A:Ls)(n c:Nat)(l:List D)(I:Ls)(aP aK:Nat)(aO:List D):Prop where
 one:Gr (fun b=>B≤b∧(Value.slice I aP aK).ownBlock≠some b) B e1 br w A n c l
 two:Gr (fun b=>B≤b∧(Value.slice A n c).ownBlock≠some b) B e2 bo w I aP aK aO
 ne:∀b,(Value.slice A n c).ownBlock=some b→(Value.slice I aP aK).ownBlock≠some b
section
variable {B:Nat} {e1 e2:TypeId} {br bo:Nat} {w ab:World} {A I A2:Ls} {n c aP aK n2 c2:Nat} {l aO c8:List D}
theorem ld.nil(B:Nat)(e1:TypeId)(br:Nat)(e2:TypeId)(bo:Nat)(w:World):ld B e1 br e2 bo w none 0 0 [] none 0 0 []:=⟨Gr.nil _ _ _ _ _,Gr.nil _ _ _ _ _,fun b h=>by cases h⟩
theorem ld.swap(h:ld B e1 br e2 bo w A n c l I aP aK aO):ld B e2 bo e1 br w I aP aK aO A n c l:=⟨h.two,h.one,fun b ac av=>h.ne b av ac⟩
theorem ld.c4(h:ld B e1 br e2 bo w A n c l I aP aK aO)(O:Fr M w ab)(hM:∀b,M b→b<w.heap.size→b<B):ld B e1 br e2 bo ab A n c l I aP aK aO:=by
 refine⟨h.one.dj O.size fun b ak hp=>O.block b ak fun hm=>?_,h.two.dj O.size fun b ak hp=>O.block b ak fun hm=>?_,h.ne⟩
 ·have:=hM b hm ak;rcases hp with hp|hp
  ·have:=hp.1;omega
  ·have:=(h.one.lt hp).1;omega
 ·have:=hM b hm ak;rcases hp with hp|hp
  ·have:=hp.1;omega
  ·have:=(h.two.lt hp).1;omega
theorem ld.ai(h:ld B e1 br e2 bo w A n c l I aP aK aO)(O:Ext w ab):ld B e1 br e2 bo ab A n c l I aP aK aO:=h.c4 O fun _ h _=>h.elim
theorem ld.grow(h:ld B e1 br e2 bo w A n c l I aP aK aO)(a2:Gr (fun b=>B≤b∧(Value.slice I aP aK).ownBlock≠some b) B e1 br ab A2 n2 c2 c8)(J:Fr (fun b=>(Value.slice A n c).ownBlock=some b) w ab)(bn:dq w A n c A2 n2 c2) :
  ld B e1 br e2 bo ab A2 n2 c2 c8 I aP aK aO:=by
 have ac:Gr (fun b=>(B≤b∧(Value.slice A n c).ownBlock≠some b)∧(Value.slice A2 n2 c2).ownBlock≠some b) B e2 bo w I aP aK aO:=h.two.mono fun b ak hp=>⟨hp,fun O=>by
  rcases bn b O with ac|ac
  ·exact hp.2 ac
  ·omega⟩
 have av:=ac.dj J.size fun b ak hp=>J.block b ak fun hm=>by
  rcases hp with hp|hp
  ·exact hp.1.2 hm
  ·exact h.ne b hm hp
 refine⟨a2,av.mono fun b _ hp=>⟨hp.1.1,hp.2⟩,fun b O av=>?_⟩;rcases bn b O with ac|ac
 ·exact h.ne b ac av
 ·have:=(h.two.lt av).2;omega
end
theorem Gr.lit{P:Nat→Prop}{w:World}{e:TypeId}{z n:Nat}{cs:Array Value}{l:List D}(hl:l.length=n)(T:cs.size=n*z)(hn:n≤1000000)(a5:D.aQ w (fun b=>P b∧b<w.heap.size) l cs.toList):
  Gr P w.heap.size e z (w.alloc (.cells cs e)) (some ⟨w.heap.size,0,none⟩) n n l:=by
 refine⟨hl,cs.toList,World.ownsRow_lit w _ n (KG _) (by unfold maxLen;omega) T,?_⟩;refine D.bV (fun b O=>⟨O.1,by have:=O.2;simp;omega,fun hc=>?_⟩) _ _ (D.bU (fun b O=>Below.heap_alloc w _ b O.2) _ _ a5);simp[Value.ownBlock] at hc;have:=O.2;omega
def rA(g:Nat):World→Nat→List Value→World
 | V,_,[]=>V
 | V,i,v::vs=>rA g (V.setCell ⟨g,i,none⟩ v) (i+1) vs
def iZ:Array Value→Nat→List Value→Array Value
 | cs,_,[]=>cs
 | cs,i,v::vs=>iZ (cs.setIfInBounds i v) (i+1) vs
theorem l7:∀(vs:List Value) (i:Nat) (cs:Array Value),i+vs.length≤cs.size→(iZ cs i vs).toList=cs.toList.take i++vs++cs.toList.drop (i+vs.length)
 | [],i,cs,_=>by simp[iZ]
 | v::vs,i,cs,h=>by
  simp only[KT] at h;rw[iZ,l7 vs (i+1) _ (by simp;omega),Array.toList_setIfInBounds];have an:i<cs.toList.length:=by simp;omega
  rw[List.take_succ_eq_append_getElem (by simpa using an),List.take_set_of_le (KG _),List.drop_set_of_lt ad];simp[Nat.add_assoc,Nat.add_comm 1]
theorem kX{g:Nat}{t:TypeId}:∀(vs:List Value) (i:Nat) (V:World) (cs:Array Value),aq V g t cs→aq (rA g V i vs) g t (iZ cs i vs)
 | [],_,_,_,h=>h
 | _::vs,i,_,_,h=>kX vs (i+1) _ _ (h.aM i _)
theorem mA{g:Nat}:∀(vs:List Value) (i:Nat) (V:World),Fr (fun b=>b=g) V (rA g V i vs)
 | [],_,_=>Lo
 | _::vs,i,_=>Fr.trans ((Fr.refl (fun b=>b=g) _).setCell (.inl rfl) _) (mA vs (i+1) _)
theorem bA{w X V:World}{g:Nat}{t:TypeId}{cs:Array Value}(vs:List Value)(hs:cs.size=vs.length)(aR:aq V g t cs)(aw:Ext w V)(a2:w.heap.size≤g)(hX:rA g V 0 vs=X):
  aq X g t vs.toArray∧Ext w X∧Fr (fun b=>b=g) V X:=by
 subst hX;have J:=mA (g:=g) vs 0 V;refine⟨?_,Fr.low (M:=fun b=>b=g) (Fr.trans (Fr.mono aw fun _ h=>h.elim) J) fun k ap=>by subst ap;exact a2,J⟩;have ac:=kX vs 0 V cs aR;have av:iZ cs 0 vs=vs.toArray:=by
  apply Array.toList_inj.1
  rw[l7 vs 0 cs ad];simp;omega
 rwa [av] at ac
section
variable {P:Program} {f:Nat→Prop} {B:Nat} {e t:TypeId} {z:Value} {size bytes:Nat}
theorem e5{Q:Exit→Act→World→Prop}(bw:ch P t e z size bytes)(s x:Operand)
  (bn:o.op=.call {callee:=.builtin .append,args:=#[s,x],argTypes:=#[t,t]})
  {A:Ls} {n c g:Nat} {l:List D} (h0:Gr f B e size S A n c l) {d:D} {cs:Array Value} {i:TypeId} (aR:aq S g i cs) (hd:d.rep S (lv f S (.slice A n c)) cs.toList)
  (hs:a.eval s=.slice A n c) (hx:a.eval x=.slice (some ⟨g,0,none⟩) 1 1) (T:cs.size=size)
  (r:(n+1)*bytes≤140737488355328) (y:n+1≤140737488355328) (C:B≤S.heap.size)
  (h:∀I aK ab,Gr f B e size ab I (n+1) aK (l++[d])→Fr (fun b=>(Value.slice A n c).ownBlock=some b) S ab→dq S A n c I (n+1) aK→n+1≤aK→K (a.put o.dst (.slice I (n+1) aK)) ab):o.wp P a S K Q:=by
 obtain⟨hl,xs,ac,av⟩:=h0;have ay:Src S size (some ⟨g,0,none⟩) 1 cs.toList:=⟨by simpa using T,D.s3 _ _ hd,fun _=>⟨g,0,rfl,fun j u bi=>by
  rw[KY,aR.cell];simpa using bi⟩⟩
 refine j8 _ bw s x bn B _ n xs hs ac _ 1 1 cs.toList hx ay r y C (fun h=>nomatch h) fun G ab bP cU H=>?_;obtain⟨I,aK,rfl,hc,_⟩:=b2 bP;refine h I aK ab (Gr.snoc hl ac av hd (s:=S.heap.size) (KG _) bP cU H) (Lo.grown cU fun g a2=>.inl a2) (fun b O=>?_) hc;exact zv
theorem w4{Q:Exit→Act→World→Prop}(bw:ch P t e z size bytes)(s x:Operand)
  (bn:o.op=.call {callee:=.builtin .append,args:=#[s,x],argTypes:=#[t,t]})
  {A A2:Ls} {n c m c2:Nat} {l k:List D} {cK:List Value} (h0:Gr f B e size S A n c l) (a5:D.aQ S (lv f S (.slice A n c)) k cK) (ap:k.length=m) (ay:Src S size A2 m cK) (hn:A2=none→m=0)
  (hs:a.eval s=.slice A n c) (hx:a.eval x=.slice A2 m c2)
  (r:(n+m)*bytes≤140737488355328) (y:n+m≤140737488355328) (C:B≤S.heap.size)
  (h:∀I aK ab,Gr f B e size ab I (n+m) aK (l++k)→Fr (fun b=>(Value.slice A n c).ownBlock=some b) S ab→dq S A n c I (n+m) aK→n+m≤aK→K (a.put o.dst (.slice I (n+m) aK)) ab):o.wp P a S K Q:=by
 obtain⟨hl,xs,ac,av⟩:=h0;refine j8 _ bw s x bn B _ n xs hs ac _ m c2 cK hx ay r y C hn fun G ab bP cU H=>?_;obtain⟨I,aK,rfl,hc,_⟩:=b2 bP;refine h I aK ab (Gr.GN hl ap ac av a5 (s:=S.heap.size) (KG _) bP cU H) (Lo.grown cU fun g a2=>.inl a2) (fun b O=>?_) hc;exact zv
theorem qI{ops:Array Oper}{rest:List Oper}{Q:Exit→Act→World→Prop}(bw:ch P t e z size bytes)(i:o.guard=none)(s x:Operand)
  (bn:o.op=.call {callee:=.builtin .append,args:=#[s,x],argTypes:=#[t,t]})
  {A A2:Ls} {n c m c2:Nat} {l k:List D} {cK:List Value} (h0:Gr f B e size S A n c l) (a5:D.aQ S (lv f S (.slice A n c)) k cK) (ap:k.length=m) (ay:Src S size A2 m cK) (hn:A2=none→m=0)
  (hs:a.eval s=.slice A n c) (hx:a.eval x=.slice A2 m c2)
  (r:(n+m)*bytes≤140737488355328) (y:n+m≤140737488355328) (C:B≤S.heap.size)
  (h:∀I aK ab,Gr f B e size ab I (n+m) aK (l++k)→Fr (fun b=>(Value.slice A n c).ownBlock=some b) S ab→dq S A n c I (n+m) aK→n+m≤aK→wpList P ops Q rest (a.put o.dst (.slice I (n+m) aK)) ab):wpList P ops Q (o::rest) a S:=
 wpList_plain i fun _ hK=>w4 bw s x bn h0 a5 ap ay hn hs hx r y C fun I aK ab cd g2 cS c9=>hK _ _ (h I aK ab cd g2 cS c9)
theorem jl{Q:Exit→Act→World→Prop}(bw:ch P t e z size bytes)(s x:Operand)
  (bn:o.op=.call {callee:=.builtin .append,args:=#[s,x],argTypes:=#[t,t]})
  {A2:Ls} {g m c2:Nat} {k:List D} {cK:List Value} (h0:Gr f B e size S (some ⟨g,0,none⟩) 0 0 []) (a5:D.aQ S (lv f S (.slice (some ⟨g,0,none⟩) 0 0)) k cK) (ap:k.length=m) (ay:Src S size A2 m cK) (hn:A2=none→m=0)
  (hs:a.eval s=.slice (some ⟨g,0,none⟩) 0 0) (hx:a.eval x=.slice A2 m c2)
  (r:m*bytes≤140737488355328) (y:m≤140737488355328) (C:B≤S.heap.size)
  (h:∀I aK ab,Gr f B e size ab I m aK k→Fr (fun b=>b=g) S ab→(∀b,(Value.slice I m aK).ownBlock=some b→b=g∨S.heap.size≤b)→m≤aK→K (a.put o.dst (.slice I m aK)) ab):o.wp P a S K Q:=by
 refine w4 bw s x bn h0 a5 ap ay hn hs hx (by rw[KY];exact r) ad C fun I aK ab cd g2 cS c9=>?_;simp only[KY,Lh] at cd cS c9 ⊢;exact h I aK ab cd (g2.mono fun b O=>by simp[Value.ownBlock] at O;exact O.symm) (fun b O=>(cS b O).imp (fun h=>by simp[Value.ownBlock] at h;exact h.symm) id) c9
end
section
variable {P:Program} {ops:Array Oper} {Q:Exit→Act→World→Prop} {R:World→World→Prop} {tails:List Nat}
theorem iM{δ:Type}{aa:α→β→γ→δ→Act}{C:α→β→γ→δ→World→Prop}(h:(∀x y z u V,C x y z u V→cP P ops Q R tails rest (aa x y z u) V)→G)(key:∀x y z u V,C x y z u V→cP P ops Q R tails rest (aa x y z u) V):G:=h key
theorem gU{aa:α→β→γ→Act}{C:α→β→γ→World→Prop}(h:(∀x y z V,C x y z V→cP P ops Q R tails rest (aa x y z) V)→G)(key:∀x y z V,C x y z V→cP P ops Q R tails rest (aa x y z) V):G:=h key
theorem l8{aa:α→β→Act}{C:α→β→World→Prop}(h:(∀x y V,C x y V→cP P ops Q R tails rest (aa x y) V)→G)(key:∀x y V,C x y V→cP P ops Q R tails rest (aa x y) V):G:=h key
theorem wU{aa:α→Act}{C:α→World→Prop}(h:(∀x V,C x V→cP P ops Q R tails rest (aa x) V)→G)(key:∀x V,C x V→cP P ops Q R tails rest (aa x) V):G:=h key
end
theorem Hk{w a b:World}(ac:Ext w a)(av:Ext w b)(hs:a.heap.size=w.heap.size+1)(bO:a.heap.size≤b.heap.size):Fr (fun k=>k=w.heap.size) a b:=
 ⟨av.os.trans ac.os.symm,av.tape.trans ac.tape.symm,av.output.trans ac.output.symm,bO,fun k ap hn=>(av.block k ad fun h=>h).trans (ac.block k ad fun h=>h).symm⟩
theorem vV{P:Nat→Prop}{w ab:World}{v:Value}(h:d.rep w (lv P w v) cs)(he:Ext w ab):d.rep ab (lv P ab v) cs:=
 D.aL (fun b O=>⟨O.1,KH O.2.1 he.size,O.2.2⟩) _ _ (D.aS (fun b O=>he.block b O.2.1 fun h=>h) _ _ h)
structure eO where
 name:ByteArray
 idx:Option VE
inductive dn where
 | mx (r:eO)
 | ex (e:VE)
inductive an where
 | nil
 | set (isVar:Bool) (n:ByteArray) (e:VE) (rest:an)
 | call (a:Bool) (n:ByteArray) (args:List dn) (rest:an)
 | lock (un:Bool) (r:eO) (rest:an)
 | ite (e:VE) (th el rest:an)
 | gv (e:VE) (th rest:an)
 | ret (rest:an)
structure aK where
 name:ByteArray
 params:List (ByteArray×Bool)
 body:an
structure bM where
 globals:List (ByteArray×Int)
 af:List bI
 funcs:List aK
structure bR where
 param:Bool
 index:Int
 at_:Option VE
structure az where
 op:Int
 target:Int
 dg:Bool
 expr:Option VE
 place:bR
 ints:List VE
 places:List bR
structure cJ where
 name:ByteArray
 ints:Int
 av:Int
 locals:Int
 code:List az
structure ay where
 globals:List Int
 af:List bI
 procs:List cJ
 main:Int
structure al where
 proc:Int
 pc:Int
 ints:List Int
 av:List Int
structure aj where
 globals:List Int
 table:List cy
 threads:List (List al)
 fault:Int
def bk:VE→D
 | .num n=>.st [.i 1,.i n,.s ⟨#[]⟩,.sl []]
 | .g0 s=>.st [.i 2,.i 0,.s s,.sl []]
 | .loc k=>.st [.i 18,.i k,.s ⟨#[]⟩,.sl []]
 | .iC k=>.st [.i 19,.i k,.s ⟨#[]⟩,.sl []]
 | .un op x=>.st [.i op,.i 0,.s ⟨#[]⟩,.sl [bk x]]
 | .bin op x y=>.st [.i op,.i 0,.s ⟨#[]⟩,.sl [bk x,bk y]]
def jL:D:=.st [.i 0,.i 0,.s ⟨#[]⟩,.sl []]
def oq:Option VE→D
 | none=>jL
 | some x=>bk x
def VE.a9:VE→Int
 | .num _=>1
 | .g0 _=>2
 | .loc _=>18
 | .iC _=>19
 | .un op _=>op
 | .bin op _ _=>op
def VE.numOf:VE→Int
 | .num n=>n
 | .loc k=>k
 | .iC k=>k
 | _=>0
def VE.bu:VE→ByteArray
 | .g0 s=>s
 | _=>⟨#[]⟩
def VE.args:VE→List VE
 | .un _ x=>[x]
 | .bin _ x y=>[x,y]
 | _=>[]
theorem xA(x:VE):bk x=.st [.i x.a9,.i x.numOf,.s x.bu,.sl (x.args.map bk)]:=by
 cases x<;>simp[bk,VE.a9,VE.numOf,VE.bu,VE.args]
theorem c8(x:VE):(bk x).sz=4:=by rw[xA];rfl
section
variable {w:World} {P:Nat→Prop}
theorem aP:D.aQ w P [] cs↔cs=[]:=by simp only[D.aQ]
theorem bm{n:Int}{l:List D}:D.aQ w P (.i n::l) cs↔∃y,cs=.int .i64 n::y∧D.aQ w P l y:=by
 exact C9
theorem fp{n:Bool}{l:List D}:D.aQ w P (.b n::l) cs↔∃y,cs=.bool n::y∧D.aQ w P l y:=by
 exact C9
theorem cp{n:ByteArray}{l:List D}:D.aQ w P (.s n::l) cs↔∃y,cs=.string n::y∧D.aQ w P l y:=by
 exact C9
theorem aN{l:List D}:D.aQ w P (.sl m::l) cs↔∃A n c y,cs=.slice A n c::y∧n≤c∧Sl w P A n m∧D.aQ w P l y:=by
 constructor
 ·intro h;simp only[D.aQ] at h;obtain⟨x,y,rfl,hx,h⟩:=h;obtain⟨A,c,n,rfl,hc,hs⟩:=D.s5.1 hx;exact⟨A,n,c,y,rfl,hc,hs,h⟩
 ·rintro⟨A,n,c,y,rfl,hc,hs,h⟩;simp only[D.aQ];exact⟨_,y,rfl,D.s5.2 ⟨A,c,n,rfl,hc,hs⟩,h⟩
theorem bK:(D.st m).rep w P cs↔D.aQ w P m cs:=by simp only[D.rep]
theorem a1{x:VE}:(bk x).rep w P cs↔∃A n c,cs=[.int .i64 x.a9,.int .i64 x.numOf,.string x.bu,.slice A n c]∧n≤c∧Sl w P A n (x.args.map bk):=by
 rw[xA,bK,bm];constructor
 ·rintro⟨y,rfl,h⟩;obtain⟨cw,rfl,ac⟩:=bm.1 h;obtain⟨cG,rfl,av⟩:=cp.1 ac;obtain⟨A,n,c,b5,rfl,hc,hs,aV⟩:=aN.1 av;exact r7
 ·rintro⟨A,n,c,rfl,hc,hs⟩;exact⟨_,rfl,bm.2 ⟨_,rfl,cp.2 ⟨_,rfl,aN.2 ⟨A,n,c,[],rfl,hc,hs,aP.2 rfl⟩⟩⟩⟩
theorem fh:jL.rep w P cs↔∃A c,cs=[.int .i64 0,.int .i64 0,.string ⟨#[]⟩,.slice A 0 c]:=by
 unfold jL;rw[bK,bm];constructor
 ·rintro⟨y,rfl,h⟩;obtain⟨cw,rfl,ac⟩:=bm.1 h;obtain⟨cG,rfl,av⟩:=cp.1 ac;obtain⟨A,n,c,b5,rfl,hc,hs,aV⟩:=aN.1 av;rw[aP] at aV;subst aV;obtain rfl:n=0:=hs.1.symm;exact⟨A,c,rfl⟩
 ·rintro⟨A,c,rfl⟩;exact⟨_,rfl,bm.2 ⟨_,rfl,cp.2 ⟨_,rfl,aN.2 ⟨A,0,c,[],rfl,Ld _,Sl.bO A,aP.2 rfl⟩⟩⟩⟩
theorem Sl.D2{A:Ls}(h:Sl w P A 1 [d])(bt:d.sz=4):∃b o bs Z bv E,A=some ⟨b,o,none⟩∧P b∧d.rep w P [bs,Z,bv,E]∧
  w.cell? ⟨b,o,none⟩=some bs∧w.cell? ⟨b,o+1,none⟩=some Z∧w.cell? ⟨b,o+2,none⟩=some bv∧w.cell? ⟨b,o+3,none⟩=some E:=by
 obtain⟨b,o,a,cs,bw,O,hd,a5,hl,hc⟩:=h.at_ (z:=4) (k:=0) (fun e he=>by simp at he;subst he;exact bt) ad;simp at hd;subst hd
 match cs,hl with
 | [bs,Z,bv,E],_=>
  have h0:=hc 0 bs rfl;have ac:=hc 1 Z rfl;have av:=hc 2 bv rfl;have aV:=hc 3 E rfl;simp only[Nat.zero_mul,KQ] at h0 ac av aV;exact⟨b,o,bs,Z,bv,E,bw,O,a5,h0,ac,av,aV⟩
theorem Sl.JC{A:Ls}{e:D}(h:Sl w P A 2 [d,e])(bt:d.sz=4)(b3:e.sz=4):∃b o bs Z bv E cE cw cG b5,A=some ⟨b,o,none⟩∧P b∧d.rep w P [bs,Z,bv,E]∧e.rep w P [cE,cw,cG,b5]∧
  w.cell? ⟨b,o,none⟩=some bs∧w.cell? ⟨b,o+1,none⟩=some Z∧w.cell? ⟨b,o+2,none⟩=some bv∧w.cell? ⟨b,o+3,none⟩=some E∧
  w.cell? ⟨b,o+4,none⟩=some cE∧w.cell? ⟨b,o+5,none⟩=some cw∧w.cell? ⟨b,o+6,none⟩=some cG∧w.cell? ⟨b,o+7,none⟩=some b5:=by
 have s:∀x∈[d,e],x.sz=4:=fun x hx=>by
  simp at hx;rcases hx with rfl|rfl<;>assumption
 obtain⟨b,o,a,cs,bw,O,hd,a5,hl,hc⟩:=h.at_ (z:=4) (k:=0) s ad;obtain⟨K,R,l,f,am,_,he,I,aC,a3⟩:=h.at_ (z:=4) (k:=1) s ad;rw[bw] at am;injection am with am;injection am with aX ca;subst aX ca;simp at hd he;subst hd he
 match cs,hl,f,aC with
 | [bs,Z,bv,E],_,[cE,cw,cG,b5],_=>
  have h0:=hc 0 bs rfl;have ac:=hc 1 Z rfl;have av:=hc 2 bv rfl;have aV:=hc 3 E rfl;have cK:=a3 0 cE rfl;have cv:=a3 1 cw rfl;have bP:=a3 2 cG rfl;have cU:=a3 3 b5 rfl;simp only[Nat.zero_mul,KQ,Nat.one_mul,Nat.add_assoc,Nat.reduceAdd] at h0 ac av aV cK cv bP cU;exact⟨b,o,bs,Z,bv,E,cE,cw,cG,b5,bw,O,a5,I,h0,ac,av,aV,cK,cv,bP,cU⟩
theorem ku:∀(x:VE) (cs:List Value),(bk x).rep w P cs→x.rep w P cs
 | .num n,cs,h=>by
  obtain⟨A,n,c,rfl,_,hs⟩:=a1.1 h;obtain rfl:n=0:=hs.1.symm
  exact⟨_,_,_,rfl⟩
 | .g0 s,cs,h=>by
  obtain⟨A,n,c,rfl,_,hs⟩:=a1.1 h;obtain rfl:n=0:=hs.1.symm
  exact⟨_,_,_,rfl⟩
 | .loc k,cs,h=>by
  obtain⟨A,n,c,rfl,_,hs⟩:=a1.1 h;obtain rfl:n=0:=hs.1.symm
  exact⟨_,_,_,rfl⟩
 | .iC k,cs,h=>by
  obtain⟨A,n,c,rfl,_,hs⟩:=a1.1 h;obtain rfl:n=0:=hs.1.symm
  exact⟨_,_,_,rfl⟩
 | .un op x,cs,h=>by
  obtain⟨A,n,c,rfl,_,hs⟩:=a1.1 h;obtain rfl:n=1:=hs.1.symm;obtain⟨b,o,bs,Z,bv,E,rfl,O,a5,c0,c1,c2,c3⟩:=Sl.D2 hs (c8 x)
  exact⟨_,_,b,o,c,bs,Z,bv,E,rfl,O,ku x _ a5,c0,c1,c2,c3⟩
 | .bin op x y,cs,h=>by
  obtain⟨A,n,c,rfl,_,hs⟩:=a1.1 h;obtain rfl:n=2:=hs.1.symm;obtain⟨b,o,bs,Z,bv,E,cE,cw,cG,b5,rfl,O,a5,I,c0,c1,c2,c3,d0,d1,d2,d3⟩:=Sl.JC hs (c8 x) (c8 y);exact⟨_,_,b,o,c,bs,Z,bv,E,cE,cw,cG,b5,rfl,O,ku x _ a5,ku y _ I,c0,c1,c2,c3,d0,d1,d2,d3⟩
end
def ky(r:eO):D:=.st [.s r.name,.sl (r.idx.toList.map bk)]
def fU:D:=.st [.s ⟨#[]⟩,.sl []]
def gH:dn→D
 | .mx r=>.st [.b true,ky r,jL]
 | .ex e=>.st [.b false,fU,bk e]
def gD(kind:Int)(name:ByteArray)(e r:D)(args th el:List D):D:=.st [.i kind,.s name,e,r,.sl args,.sl th,.sl el]
def c5:an→List D
 | .nil=>[]
 | .set v n e rest=>gD (if v then 1 else 2) n (bk e) fU [] [] []::c5 rest
 | .call g n a1 rest=>gD (if g then 4 else 3) n jL fU (a1.map gH) [] []::c5 rest
 | .lock u r rest=>gD (if u then 6 else 5) ⟨#[]⟩ jL (ky r) [] [] []::c5 rest
 | .ite e th el rest=>gD 7 ⟨#[]⟩ (bk e) fU [] (c5 th) (c5 el)::c5 rest
 | .gv e th rest=>gD 8 ⟨#[]⟩ (bk e) fU [] (c5 th) []::c5 rest
 | .ret rest=>gD 9 ⟨#[]⟩ jL fU [] [] []::c5 rest
def ds(p:ByteArray×Bool):D:=.st [.s p.1,.b p.2]
def dr(f:aK):D:=.st [.s f.name,.sl (f.params.map ds),.sl (c5 f.body)]
def iA(g:ByteArray×Int):D:=.st [.s g.1,.i g.2]
def ey(m:bI):D:=.st [.s m.name,.b m.re,.i m.size]
def di(p:bR):D:=.st [.b p.param,.i p.index,.sl (p.at_.toList.map bk)]
def eg(x:az):D:=.st [.i x.op,.i x.target,.b x.dg,oq x.expr,di x.place,.sl (x.ints.map bk),.sl (x.places.map di)]
def gb(p:cJ):D:=.st [.s p.name,.i p.ints,.i p.av,.i p.locals,.sl (p.code.map eg)]
def tG(u:ay):D:=.st [.sl (u.globals.map D.i),.sl (u.af.map ey),.sl (u.procs.map gb),.i u.main]
def er(f:al):D:=.st [.i f.proc,.i f.pc,.sl (f.ints.map D.i),.sl (f.av.map D.i)]
def jP(t:List al):D:=.st [.sl (t.map er)]
def lj(h:cy):D:=.st [.i h.owner,.i h.depth]
end Go.Proofs.YtnhhdaggkiomoaaGreat

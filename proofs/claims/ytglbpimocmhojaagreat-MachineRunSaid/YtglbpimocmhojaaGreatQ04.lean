/- Part 4 of the proof. No condition of its own. -/
import Derived.Test.YtglbpimocmhojaaGreatQ03
namespace Go.Proofs.YtglbpimocmhojaaGreat
open Go.RowKit Go.Proofs.Tryz
set_option maxRecDepth 1000000
set_option maxHeartbeats 25600000
set_option linter.unusedVariables false
variable{a:Act}{K:Act->World->Prop}{cs:Array Value}{d:D}{threads:Int}{xs:List Value}{X:List bG}{T:List cy}{cO k:Nat}{M:Nat->Prop}{o:Oper}{rest:PT}{G p:Prop}{α β γ:Type}{S:World}
def idx(ms:Int)(r:Int×Int):Int×Int:=if r.2≠0 then (0,r.2) else if r.1<0\/ms<=r.1 then (0,2) else (r.1,0)
structure yR(w:World)(MA:Lp)(mn:Nat)(X:List bG)(G L:Lp)(ng nl:Nat)(g l:List Int)(e:VE)(i:Nat)(m:bG)(b o:Nat)(c0 c1 c2 c3:Value):Prop where
 ev:lC w G L ng nl g l e [c0,c1,c2,c3]
 ms:cx (EF gy) 3 w w.heap.size MA mn X
 i1:i<mn
 hm:X[i]?=some m
 bl:b<w.heap.size
 e0:w.cell? ⟨b,o,none⟩=some c0
 e1:w.cell? ⟨b,o+1,none⟩=some c1
 e2:w.cell? ⟨b,o+2,none⟩=some c2
 e3:w.cell? ⟨b,o+3,none⟩=some c3
theorem cx.Jc{w:World}{B n:Nat}{A:Lp}{l:List bG}(h:cx (EF gy) 3 w B A n l)(ap:k<n):
  ∃b o m,A=some ⟨b,o,none⟩/\b<B/\l[k]?=some m/\w.cell? ⟨b,o+k*3,none⟩=some (.string m.name)/\w.cell? ⟨b,o+k*3+1,none⟩=some (.bool m.re)/\w.cell? ⟨b,o+k*3+2,none⟩=some (.int .i64 m.size):=by
 obtain⟨b,o,x,bw,O,hx,_,hc⟩:=h.H8 ap;exact⟨b,o,x,bw,O,hx,hc 0 _ rfl,hc 1 _ rfl,hc 2 _ rfl⟩
namespace BX
theorem zT(h:p:=by
 have q1:decide ((i:Int)<0)=false:=by simp
 have cI:decide (i>=mn)=false:=by simp;omega
 have a:decide (mn<=i)=false:=by simp;omega
 have dd:(0:Int)<=(i:Int):=ad;have df:(i:Int)<(mn:Int):=ad;have bN:=ae (ar.on (Fr.ext aw));clear hm aQ ar F;go_enter func60,ntmps60;go_wp2_with(fail);have dh:=(aw.cell (j:=o) T (λh=>h)).trans e0;have cv:=(aw.cell (j:=o+1) T (λh=>h)).trans e1;generalize w.alloc (.cells #[.bool false,.int .i64 i,.slice (some ⟨b,o,none⟩) 1 pc] 55)=W at *;refine(oW e W G L ng nl cg cl g l _ _ _ _ bN.o).mono ?_;exact FY
 ):p:=h
end BX
open BX in
theorem xX(w:World)(MA:Lp)(mn mc:Nat)(X:List bG)(G L:Lp)(ng nl cg cl:Nat)(g l:List Int)(e:VE)(i:Nat)(m:bG)(b o pc:Nat)(c0 c1 c2 c3:Value)
  (h:yR w MA mn X G L ng nl g l e i m b o c0 c1 c2 c3) :
  Calls prog 60 #[.agg #[.bool false,.int .i64 i,.slice (some ⟨b,o,none⟩) 1 pc],.slice MA mn mc,.slice G ng cg,.slice L nl cl] w (fY w (idx m.size (ev g l e))):=by
 exact zS
namespace BY
theorem zT(h:p:=by
 have dd:(0:Int)<=(i:Int):=ad;have df:(i:Int)<(mn:Int):=ad;have bN:=ae (ar.on (Fr.ext aw));have a:=ae n;clear hm aQ ar F n;go_enter func62,ntmps62;go_wp2_with(fail);have dh:=(aw.cell (j:=o) T (λh=>h)).trans e0;have cv:=(aw.cell (j:=o+1) T (λh=>h)).trans e1;generalize w.alloc (.cells #[.bool false,.int .i64 i,.slice (some ⟨b,o,none⟩) 1 pc] 55)=W at *;refine(nw e W G L ng nl cg cl g l _ _ _ _ bN.o a.o).mono ?_;exact FY
 ):p:=h
end BY
open BY in
theorem sU(w:World)(MA:Lp)(mn mc:Nat)(X:List bG)(G L:Lp)(ng nl cg cl:Nat)(g l:List Int)(e:VE)(i:Nat)(m:bG)(b o pc:Nat)(c0 c1 c2 c3:Value)
  (h:yR w MA mn X G L ng nl g l e i m b o c0 c1 c2 c3) (n:nK g l e) :
  Calls prog 62 #[.agg #[.bool false,.int .i64 i,.slice (some ⟨b,o,none⟩) 1 pc],.slice MA mn mc,.slice G ng cg,.slice L nl cl] w (fY w (idx m.size (ev g l e))):=by
 exact zS
theorem uS(w:World)(i:Int)(A:Lp)(pc:Nat)(b:Bool)(m g l:Value):Calls prog 60 #[.agg #[.bool b,.int .i64 i,.slice A 0 pc],m,g,l] w (fY w (0,0)):=by
 go_enter func60,ntmps60;go_wp2
 go_ret2
 exact uZ
theorem qW(w:World)(i:Int)(A:Lp)(pc:Nat)(b:Bool)(m g l:Value):Calls prog 62 #[.agg #[.bool b,.int .i64 i,.slice A 0 pc],m,g,l] w (fY w (0,0)):=by
 go_enter func62,ntmps62;go_wp2
 go_ret2
 exact uZ
section
attribute [local go_sem ↓] gm gp
theorem xD(a b c d:Int)(w:World):(binOp .neq 107 (.agg #[.int .i64 a,.int .i64 b]) (.agg #[.int .i64 c,.int .i64 d])).run prog w=.ok (.bool (decide (a≠c\/b≠d))) w:=by
 exact zF
theorem E4(a b c d:Int)(w:World):(binOp .eql 107 (.agg #[.int .i64 a,.int .i64 b]) (.agg #[.int .i64 c,.int .i64 d])).run prog w=.ok (.bool (decide (a=c/\b=d))) w:=by
 exact zF
namespace Cm
theorem si(h:p:=by
 go_enter func41,ntmps41;exact r2
 ):p:=h
end Cm
open Cm in
theorem D8(A A2:Lp)(n c n2 c2:Nat)(S T:List cy)(w:World)(hs:cx (EF bH) 2 w w.heap.size A n S)(ht:cx (EF bH) 2 w w.heap.size A2 n2 T)(hn:n<=140737488355328) :
  Calls prog 41 #[.slice A n c,.slice A2 n2 c2] w λr ab=>r=.returned (.bool (decide (S=T)))/\Below w.heap.size w ab:=by
 have hl:=hs.1;have cg:=ht.1;by_cases be:n=n2
 case neg=>
  exact sf
 subst be;obtain⟨b9,J⟩:=aH hl cg;clear hl cg;have b6:((n:Int) != (n:Int))=false:=by simp
 go_enter func41,ntmps41;go_wp2;go_loopw [5] (λi wr=>∃k:Nat,k<=n/\i=.int .i64 k/\(∀j,j<k->S[j]?=T[j]?)/\Below w.heap.size w wr) (λi _=>n - (intOf i).toNat)
 case atStart=>exact⟨0,KZ _,rfl,λj bi=>absurd bi ad,Below.refl _ _⟩
 case round=>
  obtain⟨k,ap,rfl,bQ,O⟩:=hrel;have aA:=ae bQ;clear bQ;by_cases ak:k<n
  .obtain⟨b,o,x,rfl,U,hx,c0,c1⟩:=(hs.ez O).hold ak;obtain⟨K,M,d,rfl,l,g,d0,d1⟩:=(ht.ez O).hold ak;have bz:(0:Int)<=(k:Int):=ad;have cb:(k:Int)<(n:Int):=ad;have e:=xD;by_cases hd:x.owner≠d.owner\/x.depth≠d.depth
   .have aW:=ae (show decide (S=T)=false from decide_eq_false (λh=>by
     subst h;rw[hx] at g;injection g with g;subst g;simp at hd))
    have u:decide (x.owner≠d.owner\/x.depth≠d.depth)=true:=decide_eq_true hd;exact Gk
   .have aQ:=ae (show S[k]?=T[k]? by
     have ac:x.owner=d.owner:=by
      by_cases ag:x.owner=d.owner
      .exact ag
      .exact absurd (.inl ag) hd
     have au:x.depth=d.depth:=by
      by_cases ag:x.depth=d.depth
      .exact ag
      .exact absurd (.inr ag) hd
     rw[hx,g];congr 1
     cases x;cases d
     simp_all)
    have u:decide (x.owner≠d.owner\/x.depth≠d.depth)=false:=decide_eq_false hd;exact F5
  .obtain rfl:k=n:=ad;exact w8
def Ic(X:List bG)(T:List cy)(m th:Int)(i:Nat):Int:=if (own X)[i]?=some m/\(jW T i).owner=th+1/\0<=th then (jW T i).depth else 0
def Gz(X:List bG)(T:List cy)(m th:Int):Nat->Int
 | 0=>0
 | k+1=>Gz X T m th k+Ic X T m th k
def depth(X:List bG)(T:List cy)(m th:Int):Int:=Gz X T m th (own X).length
end
section
attribute [local go_sem ↓] gm gp
def eJ(X:List bG)(threads:Int)(i:Nat)(h:cy):Bool:=
 !(decide (h.owner<0) || decide (threads<h.owner) || ((h.owner == 0) != (h.depth == 0)) || decide (h.depth<0) || (decide (1<h.depth) && !wo X (bt X i)))
def gY(X:List bG)(T:List cy)(threads:Int):Bool:=decide (T.length=(own X).length) && (List.range T.length).all λi=>eJ X threads i (jW T i)
theorem wT(h:T.length≠(own X).length):gY X T threads=false:=by
 unfold gY;rw[decide_eq_false h];rfl
theorem wS{hd:cy}(hx:T[k]?=some hd)(h:eJ X threads k hd=false):gY X T threads=false:=by
 unfold gY;have ap:=(List.getElem?_eq_some_iff.1 hx).1;have bw:jW T (k:Int)=hd:=by unfold jW;rw[KY,hx];rfl
 rw[Bool.and_eq_false_iff];right;rw[List.all_eq_false];exact⟨k,List.mem_range.2 ap,by rw[bw,h];simp⟩
theorem n9(hl:T.length=(own X).length)(h:∀k hd,T[k]?=some hd->eJ X threads k hd=true):gY X T threads=true:=by
 unfold gY;rw[decide_eq_true hl,Bool.true_and,List.all_eq_true];intro k ap;have ap:=List.mem_range.1 ap;refine h k _ ?_;unfold jW;rw[KY,List.getElem?_eq_getElem ap];rfl
theorem yH(A A2:Lp)(n c n2 c2:Nat)(X:List bG)(T:List cy)(th:Int)(w:World)(h:cx (EF gy) 3 w w.heap.size A n X)(hX:m1 X)
  (ht:cx (EF bH) 2 w w.heap.size A2 n2 T) :
  Calls prog 43 #[.slice A n c,.slice A2 n2 c2,.int .i64 th] w λr ab=>r=.returned (.bool (gY X T th))/\Below w.heap.size w ab:=by
 have hl:=h.1;have cg:=ht.1;have E:=cA hX;have f:=eu X;go_enter func43,ntmps43;go_wp2_with(fail);refine(hZ A n c X w h hX).mono ?_;rintro r aS ⟨rfl,O⟩;rw[<-f];generalize hN:(own X).length=N at *;by_cases be:n2=N
 case neg=>
  have aW:=ae (show gY X T th=false from wT ad);have v:(n2 != N)=true:=by simpa using be
  have m:((n2:Int) != (N:Int))=true:=by simp;omega
  clear hl cg hN f be;exact tr
 subst be;have b9:=ae (show T.length=(own X).length by omega);obtain⟨D,J,y⟩:=eh f cg hl;clear hl cg hN f;have b6:((n2:Int) != (n2:Int))=false:=by simp
 go_wp2;go_loopw [16] (λi wr=>∃k:Nat,k<=n2/\i=.int .i64 k/\(∀j hd,j<k->T[j]?=some hd->eJ X th j hd=true)/\Below w.heap.size w wr) (λi _=>n2 - (intOf i).toNat)
 case atStart=>exact⟨0,KZ _,rfl,λj hd bi=>absurd bi ad,O⟩
 case round=>
  obtain⟨k,ap,rfl,bQ,aV⟩:=hrel;have aA:=ae bQ;clear bQ;by_cases ak:k<n2
  .obtain⟨b,o,hd,rfl,U,hx,c0,c1⟩:=(ht.ez aV).hold ak;have b2:=aV.size;have aQ:=ae hx;have d:Lr (eJ X th k hd=false->gY X T th=false):=ae λac=>wS aQ.o ac;clear hx;by_cases e1:hd.owner<0
   .have aW:=ae (d.o (by unfold eJ;simp[e1]));exact tt
   by_cases e2:th<hd.owner
   .have aW:=ae (d.o (by unfold eJ;simp[e2]));exact tt
   by_cases f1:hd.owner=0
   .have ca:(hd.owner == 0)=true:=by simpa using f1
    by_cases f2:hd.depth=0
    .have g2:(hd.depth == 0)=true:=by simpa using f2
     have aP:=ae (show eJ X th k hd=true by unfold eJ;rw[ca,g2];simp;omega);have f3:¬hd.depth<0:=ad;have f4:¬1<hd.depth:=ad;clear f1 f2;exact Gl
    .have g2:(hd.depth == 0)=false:=by simpa using f2
     have aW:=ae (d.o (by unfold eJ;rw[ca,g2];simp));clear f1 f2;exact tt
   have ca:(hd.owner == 0)=false:=by simpa using f1
   by_cases f2:hd.depth=0
   .have g2:(hd.depth == 0)=true:=by simpa using f2
    have aW:=ae (d.o (by unfold eJ;rw[ca,g2];simp));clear f1 f2;exact tt
   have g2:(hd.depth == 0)=false:=by simpa using f2
   by_cases b0:hd.depth<0
   .have aW:=ae (d.o (by unfold eJ;simp[b0]));exact tt
   by_cases ct:1<hd.depth
   case neg=>
    have aP:=ae (show eJ X th k hd=true by unfold eJ;rw[ca,g2];simp[e1,e2,b0,ct]);exact Gl
   have bB:0<=bt X (k:Int):=l0 ad (aC D.o);obtain⟨i,t,an,P,_⟩:=mE bB;have aI:i<n:=by have:=(List.getElem?_eq_some_iff.1 P).1;have:=y.o;omega
   have L:wo X (bt X (k:Int))=t.re:=by rw[an];unfold wo;rw[KY,P];rfl
   obtain⟨s,cq,au⟩:=eh L an P;clear L an P bB;go_wp2_with(fail);have e:=aV.alloc b2 (.cells #[.int .i64 hd.owner,.int .i64 hd.depth] 107);refine(nX A n c X k _ (h.c8 e e.size) hX ad).mono ?_;rintro r aT ⟨rfl,bg⟩;have co:=e.trans (bg.mono e.size);obtain⟨K,M,F,rfl,l,g,d0,d1,d2⟩:=(h.ez co).Iw aI;obtain rfl:t=F:=by have:=au.o;rw[g] at this;injection this with this;exact this.symm
   clear g;rw[cq.o]
   cases a5:t.re with
   | false=>
    have aW:=ae (d.o (by unfold eJ;rw[s.o,a5];simp[ct]));rw[a5] at d1;clear a5;go_wp2;go_ret
    exact⟨ret_bool (by rw[aW.o]),co⟩
   | true=>
    have aP:=ae (show eJ X th k hd=true by unfold eJ;rw[s.o,a5,ca,g2];simp[e1,e2,b0]);rw[a5] at d1;clear a5;go_wp2;go_roundw
    case rel=>
     refine⟨k+1,ad,by go_num,λj u bi g=>?_,co⟩;by_cases z:j<k
     .exact aA.o j u z g
     .obtain rfl:j=k:=ad;rw[aQ.o] at g;injection g with g;rw[<-g];exact aP.o
    case measure=>exact aG
  .obtain rfl:k=n2:=ad;have aW:=ae (show gY X T th=true from n9 b9.o λj hd hx=>aA.o j hd (by have:=(List.getElem?_eq_some_iff.1 hx).1;have:=J.o;omega) hx);go_wp2;go_ret;exact⟨ret_bool (by rw[aW.o]),aV⟩
end
abbrev lu(P:Nat->Prop)(w:World)(v:Value):Nat->Prop:=λb=>P b/\b<w.heap.size/\v.ownBlock≠some b
structure Gr(P:Nat->Prop)(B:Nat)(e:TypeId)(z:Nat)(w:World)(A:Lp)(n c:Nat)(l:List D):Prop where
 len:l.length=n
 ex:∃xs,w.ownsRow B e z (.slice A n c) n xs/\D.aQ w (lu P w (.slice A n c)) l xs
section
variable {P Q:Nat->Prop} {B q:Nat} {e:TypeId} {z:Nat} {w ab aS:World} {A:Lp} {n c:Nat} {l:List D}
theorem Gr.nil(P:Nat->Prop)(B:Nat)(e:TypeId)(z:Nat)(w:World):Gr P B e z w none 0 0 []:=⟨rfl,[],⟨by simp,.inl ⟨rfl,rfl⟩⟩,by simp only[D.aQ]⟩
theorem Gr.lt(h:Gr P B e z w A n c l){g:Nat}(a2:(Value.slice A n c).ownBlock=some g):B<=g/\g<w.heap.size:=by
 obtain⟨_,xs,ac,_⟩:=h;exact ac.lt g a2
theorem Gr.cap(h:Gr P B e z w A n c l):n<=c/\c<=maxLen:=by
 obtain⟨_,xs,ac,_⟩:=h;obtain⟨_,_,bI,au,aU,_⟩:=b1 ac;injection bI with _ _ bI;subst bI;exact⟨au,aU⟩
theorem Gr.ak(h:Gr P B e z w A n c l)(hs:w.heap.size<=ab.heap.size)(ap:∀b,b<w.heap.size->(P b\/B<=b)->ab.heap[b]?=w.heap[b]?):Gr P B e z ab A n c l:=by
 obtain⟨hl,xs,ac,au⟩:=h;refine⟨hl,xs,⟨ac.1,?_⟩,D.bV (λb O=>⟨O.1,KE O.2.1 hs,O.2.2⟩) _ _ (D.bU (λb O=>ap b O.2.1 (.inl O.1)) _ _ au)⟩;rcases ac.2 with aU|⟨g,cap,cur,bI,j,a9,rest⟩
 .exact .inl aU
 .exact .inr ⟨g,cap,cur,bI,j,(ap g (Array.getElem?_eq_some_iff.1 a9).1 (.inr j)).trans a9,rest⟩
theorem Gr.dj(h:Gr P B e z w A n c l)(hs:w.heap.size<=ab.heap.size)(ap:∀b,b<w.heap.size->(P b\/(Value.slice A n c).ownBlock=some b)->ab.heap[b]?=w.heap[b]?):Gr P B e z ab A n c l:=by
 obtain⟨hl,xs,ac,au⟩:=h;refine⟨hl,xs,⟨ac.1,?_⟩,D.bV (λb O=>⟨O.1,KE O.2.1 hs,O.2.2⟩) _ _ (D.bU (λb O=>ap b O.2.1 (.inl O.1)) _ _ au)⟩;rcases ac.2 with aU|⟨g,cap,cur,bI,j,a9,rest⟩
 .exact .inl aU
 .exact .inr ⟨g,cap,cur,bI,j,(ap g (Array.getElem?_eq_some_iff.1 a9).1 (.inr (by rw[bI];rfl))).trans a9,rest⟩
theorem Gr.base{q:Nat}(h:Gr P B e z w A n c l)(aR:q<=B):Gr P q e z w A n c l:=by
 obtain⟨hl,xs,ac,au⟩:=h;refine⟨hl,xs,⟨ac.1,?_⟩,au⟩;rcases ac.2 with aU|⟨g,cap,cur,bI,j,a9,rest⟩
 .exact .inl aU
 .exact .inr ⟨g,cap,cur,bI,ad,a9,rest⟩
theorem Gr.mono(h:Gr P B e z w A n c l)(aZ:∀b,b<w.heap.size->P b->Q b):Gr Q B e z w A n c l:=by
 obtain⟨hl,xs,ac,au⟩:=h;exact⟨hl,xs,ac,D.bV (λb O=>⟨aZ b O.2.1 O.1,O.2.1,O.2.2⟩) _ _ au⟩
theorem Gr.ai(h:Gr P B e z w A n c l)(O:Ext w ab):Gr P B e z ab A n c l:=h.ak O.size λb ak _=>O.block b ak λh=>h
theorem Gr.c8(h:Gr P B e z w A n c l)(O:Fr M w ab)(hM:∀b,M b->b<w.heap.size->¬P b/\b<B):Gr P B e z ab A n c l:=
 h.ak O.size λb ak hp=>O.block b ak λhm=>by
  obtain⟨ac,au⟩:=hM b hm ak;rcases hp with hp|hp
  .exact ac hp
  .omega
theorem Gr.sl(h:Gr P B e z w A n c l)(aZ:∀b,b<w.heap.size->P b->Q b)(aR:∀b,b<w.heap.size->B<=b->Q b):Sl w Q A n l:=by
 obtain⟨hl,xs,ac,au⟩:=h;exact Sl.p9 ac (D.bV (λb O=>aZ b O.2.1 O.1) _ _ au) hl λg _ ac au=>aR g au ac
end
abbrev dq(S:World)(A:Lp)(n c:Nat)(I:Lp)(aP aJ:Nat):Prop:=∀b,(Value.slice I aP aJ).ownBlock=some b->(Value.slice A n c).ownBlock=some b\/S.heap.size<=b
section
variable {P:Program} {f:Nat->Prop} {B:Nat} {e t:TypeId} {z:Value} {size bytes:Nat}
theorem Gr.snoc{w ab:World}{A I:Lp}{n c aJ:Nat}{l:List D}{cN:List Value}(hl:l.length=n)(ac:w.ownsRow B e cO (.slice A n c) n xs)(au:D.aQ w (lu f w (.slice A n c)) l xs)
  (hd:d.rep w (lu f w (.slice A n c)) cN) {s:Nat} (hs:w.heap.size<=s) (aB:ab.ownsRow B e cO (.slice I (n+1) aJ) (n+1) (xs++cN)) (a2:w.grownBy ab (Value.slice A n c).ownBlock)
  (O:(Value.slice I (n+1) aJ).ownBlock=(Value.slice A n c).ownBlock\/(Value.slice I (n+1) aJ).ownBlock=some s):Gr f B e cO ab I (n+1) aJ (l++[d]):=by
 refine⟨by simp[hl],_,aB,D.cG ?_ (D.bj.2 ?_)⟩
 .refine D.bV (λb aV=>⟨aV.1,KE aV.2.1 a2.size,λhc=>?_⟩) _ _ (D.bU (λb aV=>a2.block b aV.2.1 λhe=>aV.2.2 he.symm) _ _ au);exact xb
 .refine D.aL (λb aV=>⟨aV.1,KE aV.2.1 a2.size,λhc=>?_⟩) _ _ (D.aS (λb aV=>a2.block b aV.2.1 λhe=>aV.2.2 he.symm) _ _ hd);exact xb
namespace Bc
theorem AN(h:p:=by
 exact h I aJ ab (Gr.snoc hl ac au hd (s:=S.heap.size+1) ad bO a2 (by simpa using H)) (Ll.grown a2 λg a2=>.inl a2) (λb O=>by
  rcases H with H|H
  .rw[H] at O;exact .inl O
  .rw[H] at O;injection O with O;right;simp at O;omega) hc
 ):p:=h
end Bc
open Bc in
theorem qD{Q:Exit->Act->World->Prop}(bw:ch P t e z size bytes)(s x:Operand)
  (bn:o.op=.call {callee:=.builtin .append,args:=#[s,x],argTypes:=#[t,t]})
  {A:Lp} {n c:Nat} {l:List D} (h0:Gr f B e size S A n c l) {d:D} {cs:Array Value} (hd:d.rep S (lu f S (.slice A n c)) cs.toList)
  (hs:a.eval s=.slice A n c) (hx:a.eval x=.slice (some ⟨S.heap.size,0,none⟩) 1 1) (T:cs.size=size)
  (r:(n+1)*bytes<=140737488355328) (y:n+1<=140737488355328) (C:B<=S.heap.size)
  (h:∀I aJ ab,Gr f B e size ab I (n+1) aJ (l++[d])->Fr (λb=>(Value.slice A n c).ownBlock=some b) S ab->dq S A n c I (n+1) aJ->n+1<=aJ->K (a.put o.dst (.slice I (n+1) aJ)) ab):o.wp P a (S.alloc (.cells cs e)) K Q:=by
 obtain⟨hl,xs,ac,au⟩:=h0;refine j8 _ bw s x bn B _ n xs hs (ac.alloc _) _ 1 1 cs.toList hx (Src.block (heap_alloc_new S _) 1 ad (D.sW _ _ hd)) r y (by simp;omega) (λh=>nomatch h) λG ab bO cV H=>?_;exact AM
theorem bP{ops:Array Oper}{rest:List Oper}{Q:Exit->Act->World->Prop}(bw:ch P t e z size bytes)(i:o.guard=none)(s x:Operand)
  (bn:o.op=.call {callee:=.builtin .append,args:=#[s,x],argTypes:=#[t,t]})
  {A:Lp} {n c:Nat} {l:List D} (h0:Gr f B e size S A n c l) {d:D} {cs:Array Value} (hd:d.rep S (lu f S (.slice A n c)) cs.toList)
  (hs:a.eval s=.slice A n c) (hx:a.eval x=.slice (some ⟨S.heap.size,0,none⟩) 1 1) (T:cs.size=size)
  (r:(n+1)*bytes<=140737488355328) (y:n+1<=140737488355328) (C:B<=S.heap.size)
  (h:∀I aJ ab,Gr f B e size ab I (n+1) aJ (l++[d])->Fr (λb=>(Value.slice A n c).ownBlock=some b) S ab->dq S A n c I (n+1) aJ->n+1<=aJ->wpList P ops Q rest (a.put o.dst (.slice I (n+1) aJ)) ab):wpList P ops Q (o::rest) a (S.alloc (.cells cs e)):=
 wpList_plain i λ_ hK=>qD bw s x bn h0 hd hs hx T r y C λI aJ ab ca g2 cT c8=>hK _ _ (h I aJ ab ca g2 cT c8)
theorem Gr.GK{w ab:World}{A I:Lp}{n m c aJ:Nat}{l k:List D}{cN:List Value}(hl:l.length=n)(hm:k.length=m)(ac:w.ownsRow B e cO (.slice A n c) n xs)(au:D.aQ w (lu f w (.slice A n c)) l xs)
  (hd:D.aQ w (lu f w (.slice A n c)) k cN) {s:Nat} (hs:w.heap.size<=s) (aB:ab.ownsRow B e cO (.slice I (n+m) aJ) (n+m) (xs++cN)) (a2:w.grownBy ab (Value.slice A n c).ownBlock)
  (O:(Value.slice I (n+m) aJ).ownBlock=(Value.slice A n c).ownBlock\/(Value.slice I (n+m) aJ).ownBlock=some s):Gr f B e cO ab I (n+m) aJ (l++k):=by
 refine⟨by simp[hl,hm],_,aB,D.cG ?_ ?_⟩
 .refine D.bV (λb aV=>⟨aV.1,KE aV.2.1 a2.size,λhc=>?_⟩) _ _ (D.bU (λb aV=>a2.block b aV.2.1 λhe=>aV.2.2 he.symm) _ _ au);exact xb
 .refine D.bV (λb aV=>⟨aV.1,KE aV.2.1 a2.size,λhc=>?_⟩) _ _ (D.bU (λb aV=>a2.block b aV.2.1 λhe=>aV.2.2 he.symm) _ _ hd);exact xb
theorem Ey{Q:Exit->Act->World->Prop}(bw:ch P t e z size bytes)(s x:Operand)
  (bn:o.op=.call {callee:=.builtin .append,args:=#[s,x],argTypes:=#[t,t]})
  {A A2:Lp} {n c m c2:Nat} {l k:List D} (h0:Gr f B e size S A n c l) (ap:Sl S (lu f S (.slice A n c)) A2 m k) (bt:∀d∈k,d.sz=size)
  (hs:a.eval s=.slice A n c) (hx:a.eval x=.slice A2 m c2)
  (r:(n+m)*bytes<=140737488355328) (y:n+m<=140737488355328) (C:B<=S.heap.size)
  (h:∀I aJ ab,Gr f B e size ab I (n+m) aJ (l++k)->Fr (λb=>(Value.slice A n c).ownBlock=some b) S ab->dq S A n c I (n+m) aJ->n+m<=aJ->K (a.put o.dst (.slice I (n+m) aJ)) ab):o.wp P a S K Q:=by
 obtain⟨hl,xs,ac,au⟩:=h0;obtain⟨cN,a5,ay⟩:=ap.src bt;refine j8 _ bw s x bn B _ n xs hs ac _ m c2 cN hx ay r y C (λh=>(by subst h;exact ap.none_)) λG ab bO cV H=>?_;obtain⟨I,aJ,rfl,hc,_⟩:=b1 bO;exact h I aJ ab (Gr.GK hl ap.1 ac au a5 (s:=S.heap.size) (KD _) bO cV H) (Ll.grown cV λg a2=>.inl a2) (λb O=>by
  rcases H with H|H
  .rw[H] at O;exact .inl O
  .rw[H] at O;injection O with O;right;omega) hc
theorem wW{ops:Array Oper}{rest:List Oper}{Q:Exit->Act->World->Prop}(bw:ch P t e z size bytes)(i:o.guard=none)(s x:Operand)
  (bn:o.op=.call {callee:=.builtin .append,args:=#[s,x],argTypes:=#[t,t]})
  {A A2:Lp} {n c m c2:Nat} {l k:List D} (h0:Gr f B e size S A n c l) (ap:Sl S (lu f S (.slice A n c)) A2 m k) (bt:∀d∈k,d.sz=size)
  (hs:a.eval s=.slice A n c) (hx:a.eval x=.slice A2 m c2)
  (r:(n+m)*bytes<=140737488355328) (y:n+m<=140737488355328) (C:B<=S.heap.size)
  (h:∀I aJ ab,Gr f B e size ab I (n+m) aJ (l++k)->Fr (λb=>(Value.slice A n c).ownBlock=some b) S ab->dq S A n c I (n+m) aJ->n+m<=aJ->wpList P ops Q rest (a.put o.dst (.slice I (n+m) aJ)) ab):wpList P ops Q (o::rest) a S:=
 wpList_plain i λ_ hK=>Ey bw s x bn h0 ap bt hs hx r y C λI aJ ab ca g2 cT c8=>hK _ _ (h I aJ ab ca g2 cT c8)
end
structure la(B:Nat)(e1:TypeId)(bp:Nat)(e2:TypeId)(bF:Nat)(w:World)(A:Lp)(n c:Nat)(l:List D)(I:Lp)(aP aJ:Nat)(aO:List D):Prop where
 one:Gr (λb=>B<=b/\(Value.slice I aP aJ).ownBlock≠some b) B e1 bp w A n c l
 two:Gr (λb=>B<=b/\(Value.slice A n c).ownBlock≠some b) B e2 bF w I aP aJ aO
 ne:∀b,(Value.slice A n c).ownBlock=some b->(Value.slice I aP aJ).ownBlock≠some b
section
variable {B:Nat} {e1 e2:TypeId} {bp bF:Nat} {w ab:World} {A I A2:Lp} {n c aP aJ n2 c2:Nat} {l aO dn:List D}
theorem la.nil(B:Nat)(e1:TypeId)(bp:Nat)(e2:TypeId)(bF:Nat)(w:World):la B e1 bp e2 bF w none 0 0 [] none 0 0 []:=⟨Gr.nil _ _ _ _ _,Gr.nil _ _ _ _ _,λb h=>by cases h⟩
theorem la.swap(h:la B e1 bp e2 bF w A n c l I aP aJ aO):la B e2 bF e1 bp w I aP aJ aO A n c l:=⟨h.two,h.one,λb ac au=>h.ne b au ac⟩
theorem la.c8(h:la B e1 bp e2 bF w A n c l I aP aJ aO)(O:Fr M w ab)(hM:∀b,M b->b<w.heap.size->b<B):la B e1 bp e2 bF ab A n c l I aP aJ aO:=by
 refine⟨h.one.dj O.size λb ak hp=>O.block b ak λhm=>?_,h.two.dj O.size λb ak hp=>O.block b ak λhm=>?_,h.ne⟩
 .have:=hM b hm ak;rcases hp with hp|hp
  .have:=hp.1;omega
  .have:=(h.one.lt hp).1;omega
 .have:=hM b hm ak;rcases hp with hp|hp
  .have:=hp.1;omega
  .have:=(h.two.lt hp).1;omega
theorem la.ai(h:la B e1 bp e2 bF w A n c l I aP aJ aO)(O:Ext w ab):la B e1 bp e2 bF ab A n c l I aP aJ aO:=h.c8 O λ_ h _=>h.elim
theorem la.grow(h:la B e1 bp e2 bF w A n c l I aP aJ aO)(a2:Gr (λb=>B<=b/\(Value.slice I aP aJ).ownBlock≠some b) B e1 bp ab A2 n2 c2 dn)(J:Fr (λb=>(Value.slice A n c).ownBlock=some b) w ab)(bn:dq w A n c A2 n2 c2) :
  la B e1 bp e2 bF ab A2 n2 c2 dn I aP aJ aO:=by
 have ac:Gr (λb=>(B<=b/\(Value.slice A n c).ownBlock≠some b)/\(Value.slice A2 n2 c2).ownBlock≠some b) B e2 bF w I aP aJ aO:=h.two.mono λb ak hp=>⟨hp,λO=>by
  rcases bn b O with ac|ac
  .exact hp.2 ac
  .omega⟩
 have au:=ac.dj J.size λb ak hp=>J.block b ak λhm=>by
  rcases hp with hp|hp
  .exact hp.1.2 hm
  .exact h.ne b hm hp
 refine⟨a2,au.mono λb _ hp=>⟨hp.1.1,hp.2⟩,λb O au=>?_⟩;rcases bn b O with ac|ac
 .exact h.ne b ac au
 .have:=(h.two.lt au).2;omega
end
theorem Gr.lit{P:Nat->Prop}{w:World}{e:TypeId}{z n:Nat}{l:List D}(hl:l.length=n)(T:cs.size=n*z)(hn:n<=1000000)(a5:D.aQ w (λb=>P b/\b<w.heap.size) l cs.toList):
  Gr P w.heap.size e z (w.alloc (.cells cs e)) (some ⟨w.heap.size,0,none⟩) n n l:=by
 refine⟨hl,cs.toList,World.ownsRow_lit w _ n (KD _) (by unfold maxLen;omega) T,?_⟩;refine D.bV (λb O=>⟨O.1,by have:=O.2;simp;omega,λhc=>?_⟩) _ _ (D.bU (λb O=>Below.heap_alloc w _ b O.2) _ _ a5);simp[Value.ownBlock] at hc;have:=O.2;omega
def rr(g:Nat):World->Nat->List Value->World
 | V,_,[]=>V
 | V,i,v::vs=>rr g (V.setCell ⟨g,i,none⟩ v) (i+1) vs
def iZ:Array Value->Nat->List Value->Array Value
 | cs,_,[]=>cs
 | cs,i,v::vs=>iZ (cs.setIfInBounds i v) (i+1) vs
theorem l7:∀(vs:List Value) (i:Nat) (cs:Array Value),i+vs.length<=cs.size->(iZ cs i vs).toList=cs.toList.take i++vs++cs.toList.drop (i+vs.length)
 | [],i,cs,_=>by simp[iZ]
 | v::vs,i,cs,h=>by
  simp only[KQ] at h;rw[iZ,l7 vs (i+1) _ (by simp;omega),Array.toList_setIfInBounds];have an:i<cs.toList.length:=by simp;omega
  rw[List.take_succ_eq_append_getElem (by simpa using an),List.take_set_of_le (KD _),List.drop_set_of_lt ad];simp[Nat.add_assoc,Nat.add_comm 1]
theorem kW{g:Nat}{t:TypeId}:∀(vs:List Value) (i:Nat) (V:World) (cs:Array Value),aq V g t cs->aq (rr g V i vs) g t (iZ cs i vs)
 | [],_,_,_,h=>h
 | _::vs,i,_,_,h=>kW vs (i+1) _ _ (h.aM i _)
theorem mz{g:Nat}:∀(vs:List Value) (i:Nat) (V:World),Fr (λb=>b=g) V (rr g V i vs)
 | [],_,_=>Ll
 | _::vs,i,_=>Fr.trans ((Fr.refl (λb=>b=g) _).setCell (.inl rfl) _) (mz vs (i+1) _)
theorem bA{w X V:World}{g:Nat}{t:TypeId}(vs:List Value)(hs:cs.size=vs.length)(aR:aq V g t cs)(aw:Ext w V)(a2:w.heap.size<=g)(hX:rr g V 0 vs=X):
  aq X g t vs.toArray/\Ext w X/\Fr (λb=>b=g) V X:=by
 subst hX;have J:=mz (g:=g) vs 0 V;refine⟨?_,Fr.low (M:=λb=>b=g) (Fr.trans (Fr.mono aw λ_ h=>h.elim) J) λk ap=>by subst ap;exact a2,J⟩;have ac:=kW vs 0 V cs aR;have au:iZ cs 0 vs=vs.toArray:=by
  apply Array.toList_inj.1
  rw[l7 vs 0 cs ad];simp;omega
 rwa [au] at ac
section
variable {P:Program} {f:Nat->Prop} {B:Nat} {e t:TypeId} {z:Value} {size bytes:Nat}
theorem e5{Q:Exit->Act->World->Prop}(bw:ch P t e z size bytes)(s x:Operand)
  (bn:o.op=.call {callee:=.builtin .append,args:=#[s,x],argTypes:=#[t,t]})
  {A:Lp} {n c g:Nat} {l:List D} (h0:Gr f B e size S A n c l) {d:D} {cs:Array Value} {i:TypeId} (aR:aq S g i cs) (hd:d.rep S (lu f S (.slice A n c)) cs.toList)
  (hs:a.eval s=.slice A n c) (hx:a.eval x=.slice (some ⟨g,0,none⟩) 1 1) (T:cs.size=size)
  (r:(n+1)*bytes<=140737488355328) (y:n+1<=140737488355328) (C:B<=S.heap.size)
  (h:∀I aJ ab,Gr f B e size ab I (n+1) aJ (l++[d])->Fr (λb=>(Value.slice A n c).ownBlock=some b) S ab->dq S A n c I (n+1) aJ->n+1<=aJ->K (a.put o.dst (.slice I (n+1) aJ)) ab):o.wp P a S K Q:=by
 obtain⟨hl,xs,ac,au⟩:=h0;have ay:Src S size (some ⟨g,0,none⟩) 1 cs.toList:=⟨by simpa using T,D.sW _ _ hd,λ_=>⟨g,0,rfl,λj u bi=>by
  rw[KV,aR.cell];simpa using bi⟩⟩
 refine j8 _ bw s x bn B _ n xs hs ac _ 1 1 cs.toList hx ay r y C (λh=>nomatch h) λG ab bO cV H=>?_;obtain⟨I,aJ,rfl,hc,_⟩:=b1 bO;refine h I aJ ab (Gr.snoc hl ac au hd (s:=S.heap.size) (KD _) bO cV H) (Ll.grown cV λg a2=>.inl a2) (λb O=>?_) hc;exact zn
theorem wX{Q:Exit->Act->World->Prop}(bw:ch P t e z size bytes)(s x:Operand)
  (bn:o.op=.call {callee:=.builtin .append,args:=#[s,x],argTypes:=#[t,t]})
  {A A2:Lp} {n c m c2:Nat} {l k:List D} {cN:List Value} (h0:Gr f B e size S A n c l) (a5:D.aQ S (lu f S (.slice A n c)) k cN) (ap:k.length=m) (ay:Src S size A2 m cN) (hn:A2=none->m=0)
  (hs:a.eval s=.slice A n c) (hx:a.eval x=.slice A2 m c2)
  (r:(n+m)*bytes<=140737488355328) (y:n+m<=140737488355328) (C:B<=S.heap.size)
  (h:∀I aJ ab,Gr f B e size ab I (n+m) aJ (l++k)->Fr (λb=>(Value.slice A n c).ownBlock=some b) S ab->dq S A n c I (n+m) aJ->n+m<=aJ->K (a.put o.dst (.slice I (n+m) aJ)) ab):o.wp P a S K Q:=by
 obtain⟨hl,xs,ac,au⟩:=h0;refine j8 _ bw s x bn B _ n xs hs ac _ m c2 cN hx ay r y C hn λG ab bO cV H=>?_;obtain⟨I,aJ,rfl,hc,_⟩:=b1 bO;refine h I aJ ab (Gr.GK hl ap ac au a5 (s:=S.heap.size) (KD _) bO cV H) (Ll.grown cV λg a2=>.inl a2) (λb O=>?_) hc;exact zn
theorem qC{ops:Array Oper}{rest:List Oper}{Q:Exit->Act->World->Prop}(bw:ch P t e z size bytes)(i:o.guard=none)(s x:Operand)
  (bn:o.op=.call {callee:=.builtin .append,args:=#[s,x],argTypes:=#[t,t]})
  {A A2:Lp} {n c m c2:Nat} {l k:List D} {cN:List Value} (h0:Gr f B e size S A n c l) (a5:D.aQ S (lu f S (.slice A n c)) k cN) (ap:k.length=m) (ay:Src S size A2 m cN) (hn:A2=none->m=0)
  (hs:a.eval s=.slice A n c) (hx:a.eval x=.slice A2 m c2)
  (r:(n+m)*bytes<=140737488355328) (y:n+m<=140737488355328) (C:B<=S.heap.size)
  (h:∀I aJ ab,Gr f B e size ab I (n+m) aJ (l++k)->Fr (λb=>(Value.slice A n c).ownBlock=some b) S ab->dq S A n c I (n+m) aJ->n+m<=aJ->wpList P ops Q rest (a.put o.dst (.slice I (n+m) aJ)) ab):wpList P ops Q (o::rest) a S:=
 wpList_plain i λ_ hK=>wX bw s x bn h0 a5 ap ay hn hs hx r y C λI aJ ab ca g2 cT c8=>hK _ _ (h I aJ ab ca g2 cT c8)
theorem jl{Q:Exit->Act->World->Prop}(bw:ch P t e z size bytes)(s x:Operand)
  (bn:o.op=.call {callee:=.builtin .append,args:=#[s,x],argTypes:=#[t,t]})
  {A2:Lp} {g m c2:Nat} {k:List D} {cN:List Value} (h0:Gr f B e size S (some ⟨g,0,none⟩) 0 0 []) (a5:D.aQ S (lu f S (.slice (some ⟨g,0,none⟩) 0 0)) k cN) (ap:k.length=m) (ay:Src S size A2 m cN) (hn:A2=none->m=0)
  (hs:a.eval s=.slice (some ⟨g,0,none⟩) 0 0) (hx:a.eval x=.slice A2 m c2)
  (r:m*bytes<=140737488355328) (y:m<=140737488355328) (C:B<=S.heap.size)
  (h:∀I aJ ab,Gr f B e size ab I m aJ k->Fr (λb=>b=g) S ab->(∀b,(Value.slice I m aJ).ownBlock=some b->b=g\/S.heap.size<=b)->m<=aJ->K (a.put o.dst (.slice I m aJ)) ab):o.wp P a S K Q:=by
 refine wX bw s x bn h0 a5 ap ay hn hs hx (by rw[KV];exact r) ad C λI aJ ab ca g2 cT c8=>?_;simp only[KV,Le] at ca cT c8 ⊢;exact h I aJ ab ca (g2.mono λb O=>by simp[Value.ownBlock] at O;exact O.symm) (λb O=>(cT b O).imp (λh=>by simp[Value.ownBlock] at h;exact h.symm) id) c8
end
section
variable {P:Program} {ops:Array Oper} {Q:Exit->Act->World->Prop} {R:World->World->Prop} {tails:List Nat}
theorem iL{δ:Type}{aa:α->β->γ->δ->Act}{C:α->β->γ->δ->World->Prop}(h:(∀x y z u V,C x y z u V->cN P ops Q R tails rest (aa x y z u) V)->G)(key:∀x y z u V,C x y z u V->cN P ops Q R tails rest (aa x y z u) V):G:=h key
theorem gV{aa:α->β->γ->Act}{C:α->β->γ->World->Prop}(h:(∀x y z V,C x y z V->cN P ops Q R tails rest (aa x y z) V)->G)(key:∀x y z V,C x y z V->cN P ops Q R tails rest (aa x y z) V):G:=h key
theorem l8{aa:α->β->Act}{C:α->β->World->Prop}(h:(∀x y V,C x y V->cN P ops Q R tails rest (aa x y) V)->G)(key:∀x y V,C x y V->cN P ops Q R tails rest (aa x y) V):G:=h key
theorem wN{aa:α->Act}{C:α->World->Prop}(h:(∀x V,C x V->cN P ops Q R tails rest (aa x) V)->G)(key:∀x V,C x V->cN P ops Q R tails rest (aa x) V):G:=h key
end
theorem Hh{w a b:World}(ac:Ext w a)(au:Ext w b)(hs:a.heap.size=w.heap.size+1)(bN:a.heap.size<=b.heap.size):Fr (λk=>k=w.heap.size) a b:=
 ⟨au.os.trans ac.os.symm,au.tape.trans ac.tape.symm,au.output.trans ac.output.symm,bN,λk ap hn=>(au.block k ad λh=>h).trans (ac.block k ad λh=>h).symm⟩
theorem vO{P:Nat->Prop}{w ab:World}{v:Value}{cs:List Value}(h:d.rep w (lu P w v) cs)(he:Ext w ab):d.rep ab (lu P ab v) cs:=
 D.aL (λb O=>⟨O.1,KE O.2.1 he.size,O.2.2⟩) _ _ (D.aS (λb O=>he.block b O.2.1 λh=>h) _ _ h)
structure eO where
 name:ByteArray
 idx:Option VE
inductive dn where
 | mx (r:eO)
 | ex (e:VE)
inductive an where
 | nil
 | set (isVar:Bool) (n:ByteArray) (e:VE) (rest:an)
 | call (a:Bool) (n:ByteArray) (args:List dn) (rest:an)
 | lock (un:Bool) (r:eO) (rest:an)
 | ite (e:VE) (th el rest:an)
 | gv (e:VE) (th rest:an)
 | ret (rest:an)
structure aJ where
 name:ByteArray
 params:List (ByteArray×Bool)
 body:an
structure bK where
 globals:List (ByteArray×Int)
 af:List bG
 funcs:List aJ
structure bQ where
 param:Bool
 index:Int
 at_:Option VE
structure az where
 op:Int
 target:Int
 dg:Bool
 expr:Option VE
 place:bQ
 ints:List VE
 places:List bQ
structure cH where
 name:ByteArray
 ints:Int
 au:Int
 locals:Int
 code:List az
structure ay where
 globals:List Int
 af:List bG
 procs:List cH
 main:Int
structure al where
 proc:Int
 pc:Int
 ints:List Int
 au:List Int
structure aj where
 globals:List Int
 table:List cy
 threads:List (List al)
 fault:Int
end Go.Proofs.YtglbpimocmhojaaGreat

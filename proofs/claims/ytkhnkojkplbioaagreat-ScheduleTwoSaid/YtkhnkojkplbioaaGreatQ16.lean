/- Part 16 of the proof. No condition of its own. -/
import Derived.Test.YtkhnkojkplbioaaGreatQ12
import Derived.Test.YtkhnkojkplbioaaGreatQ15
namespace Go.Proofs.YtkhnkojkplbioaaGreat
open Go.RowKit Go.Proofs.Tryz
set_option maxRecDepth 1000000
set_option maxHeartbeats 25600000
set_option linter.unusedVariables false
variable{cs:List Value}{P:Nat->Prop}{p:Prop}{u:ay}
def cA(s:List UInt8)(T:List Tok)(k:Nat):Bool:=match T[k]? with
 | some t=>(t.kind == 4 || t.kind == 3) && decide (strOf t.text=strOf s)
 | none=>false
def tK(q:Int)(T:List Tok)(k:Nat):Bool:=match T[k]? with
 | some t=>t.kind == q
 | none=>false
structure ck(w:World)(g:Nat)(A:L3)(n c:Nat)(T:List Tok)(k deep:Nat):Prop where
 blk:aq w g 193 #[.slice A n c,.int .i64 k,.int .i64 0,.int .i64 0,.int .i64 0,.int .i64 deep]
 tL:cp (EF rr) 4 w g A n T
 lt:k<n
 jF:n<=4001
section
variable {w ab:World} {g:Nat} {A:L3} {n c:Nat} {T:List Tok} {k deep:Nat}
theorem ck.on{M:Nat->Prop}(h:ck w g A n c T k deep)(O:Fr M w ab)(hM:∀b,M b->g<b):ck ab g A n c T k deep:=
 ⟨h.blk.on O λhm=>by have:=hM g hm;omega,h.tL.dS (O.below (aD h.blk.lt) λb O hm=>by have:=hM b hm;omega),h.lt,h.jF⟩
theorem ck.aj(h:ck w g A n c T k deep)(O:Ext w ab):ck ab g A n c T k deep:=h.on O λ_ h=>h.elim
theorem ck.tok(h:ck w g A n c T k deep):∃(b o:Nat) (t:Tok),A=some ⟨b,o,none⟩/\b<g/\T[k]?=some t/\w.cell? ⟨b,o+k*4,none⟩=some (.int .i64 t.kind)/\w.cell? ⟨b,o+k*4+1,none⟩=some (.string (strOf t.text))/\w.cell? ⟨b,o+k*4+2,none⟩=some (.int .i64 t.num)/\w.cell? ⟨b,o+k*4+3,none⟩=some (.int .i64 t.pos):=by
 have hl:=h.tL.1;obtain⟨b,o,aX,O,hc⟩:=h.tL.2 (aD h.lt);have ap:k<T.length:=by have:=h.lt;omega
 have ht:T[k]?=some T[k]:=List.getElem?_eq_getElem ap;obtain⟨cs,rfl,_,bi⟩:=hc k _ ht;have c0:=bi 0 _ rfl;simp only[Lu] at c0;exact⟨b,o,_,aX,O,ht,c0,bi 1 _ rfl,bi 2 _ rfl,bi 3 _ rfl⟩
end
theorem Gv(a b:List UInt8):((strOf a).toList == (strOf b).toList)=decide (strOf a=strOf b):=by
 by_cases h:strOf a=strOf b
 .rw[h];simp
 .rw[tJ h];simp[h]
namespace BY
theorem dE(h:p:=by
 generalize hX:World.drew _=X;have aw:=gK hX;have aR:=kx hX;have bo:=ae aw;have dL:=(aR.aj LW)
 obtain⟨d0,aL,aM⟩:=aR.two;obtain⟨a0,aj,af⟩:=(show aq X g 193 _ from cq.aj aw).two;clear hX aw aR dL;have l7:(t.kind == 4 || t.kind == 3)=true->cA s T k=((strOf t.text).toList == (strOf s).toList):=λh=>by rw[bq.o,h,Gv,Bool.true_and]
 have d:(t.kind == 4 || t.kind == 3)=false->cA s T k=false:=λh=>by rw[bq.o,h,Bool.false_and]
 have bX:=ag l7 d;clear l7 d;by_cases bR:t.kind=4
 .have dd:(t.kind == 4)=true:=by simpa using bR
  clear bR;go_wp2_with(fail);go_ret;exact⟨ret_bool (bX.1 (by simp[dd])).symm,bo.o⟩
 .have dd:(t.kind == 4)=false:=by simpa using bR
  clear bR;by_cases aY:t.kind=3
  .have df:(t.kind == 3)=true:=by simpa using aY
   clear aY;go_wp2_with(fail);go_ret;exact⟨ret_bool (bX.1 (by simp[df])).symm,bo.o⟩
  .have df:(t.kind == 3)=false:=by simpa using aY
   clear aY;go_wp2_with(fail);go_ret;exact⟨ret_bool (bX.2 (by simp[df,dd])).symm,bo.o⟩
 ):p:=h
end BY
open BY in
theorem lO(s:List UInt8)(g:Nat)(A:L3)(n c:Nat)(T:List Tok)(k deep:Nat)(w:World)(h:ck w g A n c T k deep) :
  Calls prog 119 #[.pointer (some ⟨g,0,none⟩),.string (strOf s)] w λe ab=>e=.returned (.bool (cA s T k))/\Ext w ab:=by
 obtain⟨b,o,t,rfl,O,ht,c0,c1,c2,c3⟩:=h.tok;have al:=h.lt;have L:=h.jF;have ci:=h.blk.lt;have br:(0:Int)<=(k:Int):=ad;have cd:(k:Int)<(n:Int):=ad;have dR:b<w.heap.size:=ad;have f:cA s T k=((t.kind == 4 || t.kind == 3) && decide (strOf t.text=strOf s)):=by unfold cA;rw[ht]
 have bq:=ae f;obtain⟨a0,aj,af⟩:=h.blk.two;have cq:=ae h.blk;clear h f ht;go_enter func119,ntmps119;go_upto_region 1 with(fail);refine eC (λ_=>False) [(0,3),(1,3),(2,3),(3,0),(4,3),(5,3),(6,3),(7,0),(8,3),(9,0),(10,1),(11,2)] ?_
 iterate 3 refine pf ?_
 refine ph ?_
 iterate 3 refine pf ?_
 refine ph ?_;refine pf ?_;refine ph ?_;refine rz ?_;exact eT
theorem dB(s:List UInt8)(g:Nat)(A:L3)(n c:Nat)(T:List Tok)(k deep:Nat)(w:World)(h:ck w g A n c T k deep)(q:Bool)(bA:cA s T k=q)(ap:q=true->k+1<n) :
  Calls prog 121 #[.pointer (some ⟨g,0,none⟩),.string (strOf s)] w λe ab=>e=.returned (.bool q)/\ck ab g A n c T (if q=true then k+1 else k) deep/\Fr (λb=>b=g) w ab:=by
 obtain⟨H,bZ⟩:=aJ h bA;have al:=h.lt;have L:=h.jF;clear h bA
 cases q with
 | false=>
  go_enter func121,ntmps121;go_wp2_with(fail);refine(lO s g A n c T k deep w H.o).mono ?_;rintro e aS ⟨rfl,aw⟩;rw[bZ.o];have H1:=ag (H.aj aw) aw;clear aw ap;go_wp2_with(fail);go_ret
  exact⟨rfl,by simpa using H1.1,H1.2.mono λ_ h=>h.elim⟩
 | true=>
  have b0:=ap rfl;clear ap;go_enter func121,ntmps121;go_wp2_with(fail);refine(lO s g A n c T k deep w H.o).mono ?_;rintro e aS ⟨rfl,aw⟩;rw[bZ.o];have H1:=ag (H.aj aw) aw;obtain⟨a0,aj,af⟩:=H1.1.blk.two;clear aw;go_wp2_with(fail);go_ret;have J:Fr (λb=>b=g) aS (aS.setCell ⟨g,1,none⟩ (.int .i64 ((k:Int)+1))):=(Fr.refl (λb=>b=g) aS).setCell (.inl rfl) _;refine⟨rfl,⟨?_,H1.1.tL.dS (J.below (aD H1.1.blk.lt) λb O hm=>ad),by simpa using b0,L⟩,(H1.2.mono λ_ h=>h.elim).trans J⟩;exact H1.1.blk.aM 1 (.int .i64 ((k:Int)+1))
theorem m2(s:List UInt8)(g:Nat)(A:L3)(n c:Nat)(T:List Tok)(k deep:Nat)(w:World)(h:ck w g A n c T k deep)(bA:cA s T k=true)(ap:k+1<n) :
  Calls prog 146 #[.pointer (some ⟨g,0,none⟩),.string (strOf s)] w λe ab=>e=.returned (.tuple #[])/\ck ab g A n c T (k+1) deep/\Fr (λb=>b=g) w ab:=by
 obtain⟨H,bZ⟩:=aJ h bA;clear h bA;go_enter func146,ntmps146;go_wp2_with(fail);refine(dB s g A n c T k deep w H.o true bZ.o (λ_=>ap)).mono ?_;rintro e aS ⟨rfl,a1,hF⟩;have H1:=ag a1 hF;clear a1 hF;go_wp2_with(fail);refine bodyPost_end (v:=.tuple #[]) (by simp[results,Tryz.results146,go_sem]) rfl ?_;exact⟨rfl,by simpa using H1.1,H1.2⟩
theorem pr(q:Int)(g:Nat)(A:L3)(n c:Nat)(T:List Tok)(k deep:Nat)(w:World)(h:ck w g A n c T k deep) :
  Calls prog 118 #[.pointer (some ⟨g,0,none⟩),.int .i64 q] w λe ab=>e=.returned (.bool (tK q T k))/\Ext w ab:=by
 obtain⟨b,o,t,rfl,O,ht,c0,c1,c2,c3⟩:=h.tok;have al:=h.lt;have L:=h.jF;have ci:=h.blk.lt;have br:(0:Int)<=(k:Int):=ad;have cd:(k:Int)<(n:Int):=ad;have dR:b<w.heap.size:=ad;have f:tK q T k=(t.kind == q):=by unfold tK;rw[ht]
 have bq:=ae f;obtain⟨a0,aj,af⟩:=h.blk.two;clear h f ht;go_enter func118,ntmps118;go_upto_region 1 with(fail);refine eC (λ_=>False) [(0,3),(1,3),(2,3),(3,0),(4,3),(5,3),(6,3),(7,3),(8,3),(9,0),(10,3),(11,3),(12,3),(13,0),(14,3),(15,3),(16,0),(17,3),(18,3),(19,3),(20,3)] ?_
 iterate 3 refine pf ?_
 refine ph ?_
 iterate 5 refine pf ?_
 refine ph ?_
 iterate 3 refine pf ?_
 refine ph ?_
 iterate 2 refine pf ?_
 refine ph ?_
 iterate 4 refine pf ?_
 refine aC ?_;go_wp2_with(fail);go_ret;exact⟨ret_bool bq.symm,LW.drew⟩
theorem pt(g:Nat)(A:L3)(n c:Nat)(T:List Tok)(k deep:Nat)(w:World)(t:Tok)(h:ck w g A n c T k deep)(ht:T[k]?=some t)(bA:t.kind=1)(ap:k+1<n) :
  Calls prog 124 #[.pointer (some ⟨g,0,none⟩)] w λe ab=>e=.returned (.string (strOf t.text))/\ck ab g A n c T (k+1) deep/\Fr (λb=>b=g) w ab:=by
 have H:=ae h;have d:tK 1 T k=true:=by unfold tK;rw[ht];simp[bA]
 obtain⟨bZ,aa⟩:=aJ d ht;have L:=h.jF;clear h d bA ht;go_enter func124,ntmps124;go_wp2_with(fail);refine(pr 1 g A n c T k deep w H.o).mono ?_;rintro e aS ⟨rfl,aw⟩;rw[bZ.o];have H1:=ag (H.aj aw) aw;obtain⟨a0,aj,af⟩:=H1.1.blk.two;clear aw;go_upto_region 5 with(fail);generalize hX:World.setCell _ _ _=X;have J:=cO hX;have a1:ck X g A n c T (k+1) deep:=by
  rw[<-hX];have J:Fr (λb=>b=g) aS (aS.setCell ⟨g,1,none⟩ (.int .i64 ((k:Int)+1))):=(Fr.refl (λb=>b=g) aS).setCell (.inl rfl) _;exact⟨H1.1.blk.aM 1 (.int .i64 ((k:Int)+1)),H1.1.tL.dS (J.below (aD H1.1.blk.lt) λb O hm=>ad),ap,L⟩
 have aQ:=ag a1 ((H1.2.mono λ_ h=>h.elim).trans J);obtain⟨b,o,f,rfl,O,j,c0,c1,c2,c3⟩:=H1.1.tok;have G:f=t:=by
  have:=aa.o;rw[j] at this;injection this
 subst G;have ci:=a1.blk.lt;have dR:b<X.heap.size:=ad;have I:¬b=g:=ad;have c1:X.cell? ⟨b,o+k*4+1,none⟩=some (.string (strOf f.text)):=(J.cell (aD H1.1.blk.lt) I).trans c1;clear a0 aj af c0 c2 c3 hX J;obtain⟨a0,aj,af⟩:=a1.blk.two;have br:(0:Int)<=(k:Int):=ad;have cd:(k:Int)<(n:Int):=ad;have i:(k:Int)<=4001:=ad;clear a1 j;refine eC (λ_=>False) [(0,3),(1,3),(2,3),(3,0),(4,3),(5,3),(6,3),(7,0),(8,3),(9,3),(10,3),(11,0),(12,3)] ?_
 iterate 3 refine pf ?_
 refine ph ?_
 iterate 3 refine pf ?_
 refine ph ?_;refine pf ?_;rw[show IntKind.i64.wrap ((k:Nat):Int)=(k:Int) from IntWalk.i64_in _ ad]
 iterate 2 refine pf ?_
 refine ph ?_;refine pf ?_;refine aC ?_;go_wp2_with(fail);go_ret;exact⟨rfl,aQ.1.aj LW.drew,aQ.2.drew⟩
theorem Sl.uH{w:World}{A:L3}{n:Nat}{l:List Int}(h:Sl w P A n (l.map .i)){k:Nat}(ap:k<n):
  ∃b o x,A=some ⟨b,o,none⟩/\P b/\l[k]?=some x/\w.cell? ⟨b,o+k,none⟩=some (.int .i64 x):=by
 obtain⟨b,o,x,cs,aX,O,hx,ba,hl,hc⟩:=Sl.g6 (z:=1) h (λ_=>rfl) ap;simp only[D.rep] at ba;subst ba;exact⟨b,o,x,aX,O,hx,by have:=hc 0 _ rfl;simpa using this⟩
namespace CI
theorem sV(h:p:=by
 go_enter func43,ntmps43;exact sH
 ):p:=h
end CI
open CI in
theorem ib(A A2:L3)(n c n2 c2:Nat)(S T:List Int)(w:World)(hs:Sl w (av w) A n (S.map .i))(ht:Sl w (av w) A2 n2 (T.map .i))(hn:n<=140737488355328) :
  Calls prog 43 #[.slice A n c,.slice A2 n2 c2] w λr ab=>r=.returned (.bool (decide (S=T)))/\Below w.heap.size w ab:=by
 have hl:S.length=n:=by have:=hs.1;simpa using this
 have bc:T.length=n2:=by have:=ht.1;simpa using this
 by_cases bf:n=n2
 case neg=>
  exact sU
 subst bf;obtain⟨b8,J⟩:=aJ hl bc;clear hl bc;have bq:((n:Int) != (n:Int))=false:=by simp
 go_enter func43,ntmps43;go_wp2;go_loopw [5] (λi wr=>∃k:Nat,k<=n/\i=.int .i64 k/\(∀j,j<k->S[j]?=T[j]?)/\Below w.heap.size w wr) (λi _=>n - (intOf i).toNat)
 case atStart=>exact⟨0,LJ _,rfl,λj bi=>absurd bi ad,Below.refl _ _⟩
 case round=>
  obtain⟨k,ap,rfl,cE,O⟩:=hrel;have aA:=ae cE;clear cE;by_cases al:k<n
  .obtain⟨b,o,x,rfl,U,hx,c0⟩:=(hs.on O).uH al;obtain⟨K,M,d,rfl,l,g,d0⟩:=(ht.on O).uH al;exact GU
  .obtain rfl:k=n:=ad;exact xM
theorem yW(A:L3)(n c:Nat)(S:List Int)(bx:Int)(w:World)(hs:Sl w (av w) A n (S.map .i))(hn:n<=140737488355328) :
  Calls prog 136 #[.slice A n c,.int .i64 bx] w λr ab=>r=.returned (.bool (decide (bx∈S)))/\Below w.heap.size w ab:=by
 have hl:S.length=n:=by have:=hs.1;simpa using this
 have b8:=ae hl;clear hl;go_enter func136,ntmps136;go_wp2;go_loopw [5] (λi wr=>∃k:Nat,k<=n/\i=.int .i64 k/\(∀j,j<k->S[j]?≠some bx)/\Below w.heap.size w wr) (λi _=>n - (intOf i).toNat)
 case atStart=>exact⟨0,LJ _,rfl,λj bi=>absurd bi ad,Below.refl _ _⟩
 case round=>
  obtain⟨k,ap,rfl,cE,O⟩:=hrel;have aA:=ae cE;clear cE;by_cases al:k<n
  .obtain⟨b,o,x,rfl,U,hx,c0⟩:=(hs.on O).uH al;have br:(0:Int)<=(k:Int):=ad;have cd:(k:Int)<(n:Int):=ad;by_cases hd:x=bx
   .have a3:=ae (show decide (bx∈S)=true from decide_eq_true (hd▸Ln hx));have u:(x == bx)=true:=by simp[hd]
    clear hx hd;exact ub
   .have aQ:=ae (show S[k]?≠some bx by rw[hx];intro h;injection h with h;exact hd h);have u:(x == bx)=false:=by simp[hd]
    clear hx hd;go_wp2;go_roundw
    case rel=>
     refine⟨k+1,ad,by go_num,λj bi=>?_,O⟩;by_cases z:j<k
     .exact aA.o j z
     .obtain rfl:j=k:=ad;exact aQ.o
    case measure=>exact aH
  .obtain rfl:k=n:=ad;have a3:=ae (show decide (bx∈S)=false from decide_eq_false (λh=>by
    obtain⟨j,bi,he⟩:=List.mem_iff_getElem.1 h;exact aA.o j (aD b8.o) (by rw[List.getElem?_eq_getElem bi,he])))
   exact ub
theorem y8(cn:Int)(A:L3)(n c:Nat)(L:List Int)(p:bN)(q:List Value)(sl:Value)(w:World)(hs:Sl w (av w) A n (L.map .i))(hn:n<=140737488355328)(hp:p.param=true->0<=p.index/\p.index<n) :
  Calls prog 135 #[.agg #[.int .i64 cn,.slice A n c],.agg #[.bool p.param,.int .i64 p.index,sl]] w λr ab=>r=.returned (.int .i64 (if p.param then L.getD p.index.toNat 0 else p.index))/\Ext w ab:=by
 obtain⟨pm,i,a⟩:=p;simp only at hp ⊢;cases pm
 .go_enter func135,ntmps135;go_wp2;go_ret;exact⟨rfl,(LW.alloc _).alloc _⟩
 .obtain⟨h0,ac⟩:=hp rfl;obtain⟨k,rfl⟩:=Lp h0;have ap:k<n:=ad;obtain⟨b,o,x,rfl,U,hx,c0⟩:=hs.uH ap;have aQ:=ae (show L.getD (Int.toNat k) 0=x by rw[List.getD_eq_getElem?_getD,LI,hx];rfl);clear hx;suffices ah:Calls prog 135 #[.agg #[.int .i64 cn,.slice (some ⟨b,o,none⟩) n c],.agg #[.bool true,.int .i64 (k:Int),sl]] w λr ab=>r=.returned (.int .i64 x)/\Ext w ab from
   ah.mono λe aS ac=>⟨ac.1.trans (by rw[<-aQ.o];simp),ac.2⟩
  go_enter func135,ntmps135;go_wp2;go_ret;exact⟨rfl,(LW.alloc _).alloc _⟩
structure hZ where
 proc:Int
 au:List Int
def fE(i:hZ):D:=.st [.i i.proc,.sl (i.au.map .i)]
theorem kF{w:World}{i:hZ}:(fE i).rep w P cs↔∃A c n,cs=[.int .i64 i.proc,.slice A n c]/\n<=c/\Sl w P A n (i.au.map .i):=by
 unfold fE;simp only[D.rep];rw[bq];constructor
 .rintro⟨f,rfl,h⟩;obtain⟨A,n,c,y,rfl,hc,hs,bb⟩:=aN.1 h;rw[aP] at bb;subst bb;exact⟨A,c,n,rfl,hc,hs⟩
 .rintro⟨A,c,n,rfl,hc,hs⟩;exact vI
theorem Sl.wF{w:World}{A:L3}{n:Nat}{l:List hZ}(h:Sl w P A n (l.map fE)){k:Nat}(ap:k<n):
  ∃b o x cw cc cC,A=some ⟨b,o,none⟩/\P b/\l[k]?=some x/\w.cell? ⟨b,o+k*2,none⟩=some (.int .i64 x.proc)/\w.cell? ⟨b,o+k*2+1,none⟩=some (.slice cw cc cC)/\cc<=cC/\Sl w P cw cc (x.au.map .i):=by
 obtain⟨b,o,x,cs,aX,O,hx,ba,hl,hc⟩:=Sl.g6 (z:=2) h (λ_=>rfl) ap;obtain⟨cw,cC,cc,rfl,ac,au⟩:=kF.1 ba;exact⟨b,o,x,cw,cc,cC,aX,O,hx,hc 0 _ rfl,hc 1 _ rfl,ac,au⟩
namespace CJ
theorem A7(h:p:=by
 refine ax rfl (λK hK=>?_);go_simp;refine dP hK ?_;clear hK K;refine pf ?_;refine aC ?_;go_wp2_with(fail);go_roundw
 case rel=>exact⟨k+1,ad,by go_num,bx.drew⟩
 case measure=>exact aH
 ):p:=h
end CJ
open CJ in
theorem qf(IA:L3)(n ic:Nat)(bz:L3)(cp b3:Nat)(ce:L3)(a6 rc:Nat)(L:List hZ)(x:hZ)(cw:L3)(cc cC:Nat)(w:World)
  (bU:Sl w (av w) IA n (L.map fE)) (hx:Sl w (av w) cw cc (x.au.map .i)) (hn:n<=1000000) (ap:∀i∈L,i.au.length<=1000000) :
  Calls prog 95 #[.agg #[.slice IA n ic,.slice bz cp b3,.slice ce a6 rc],.agg #[.int .i64 x.proc,.slice cw cc cC]] w λe ab=>∃r:Int,e=.returned (.int .i64 r)∧-1<=r/\r<n/\Ext w ab:=by
 obtain⟨b8,aQ,c8⟩:=ek bU hx ap;obtain⟨eE,du⟩:=x;simp only at aQ ⊢;clear bU hx ap;go_enter func95,ntmps95;go_wp2_with(fail);generalize be:World.alloc _ _=W;have aw:=iS be;have aR:=gG be;have bC:=gf be;obtain⟨bo,bO,bB⟩:=ek aw aR bC;clear be aw aR bC;go_loopw [5] (λi wr=>∃k:Nat,k<=n/\i=.int .i64 k/\Ext W wr) (λi _=>n - (intOf i).toNat)
 case atStart=>exact⟨0,LJ _,rfl,LW⟩
 case round=>
  obtain⟨k,ap,rfl,he⟩:=hrel;have bx:=ae he;have b1:=bO.aj he;have bj:=bB.aj he;obtain⟨G,g⟩:=aJ b1 bj;obtain⟨a0,aj,af⟩:=b1.two;obtain⟨a7,am,aF⟩:=bj.two;clear he b1 bj;by_cases al:k<n
  .obtain⟨b,o,y,aY,cP,cZ,rfl,U,bb,c0,c1,dd,cV⟩:=(b8.on (Fr.ext (bo.trans bx.o))).wF al;obtain⟨f,j⟩:=y;simp only at c0 cV;have ai:cP<=140737488355328:=by have:=c8.o _ (Ln bb);have:=cV.1;simp at this;simp at *;omega
   have br:(0:Int)<=(k:Int):=ad;have cd:(k:Int)<(n:Int):=ad;have df:=ae cV;have di:=ae (aQ.on (Fr.ext (bo.trans bx.o)));have d:=ae ai;clear bb cV ai dd;by_cases hp:f=eE
   .have cL:(f == eE)=true:=by simp[hp]
    clear hp;go_upto_region 4 with(fail);refine eC (λ_=>False) [(0,3),(1,0),(2,3),(3,3),(4,3),(5,0),(6,3),(7,0),(8,3),(9,3),(10,3),(11,0),(12,3),(13,3),(14,3),(15,0),(16,3),(17,0),(18,2),(19,3)] ?_;refine pf ?_;refine ph ?_
    iterate 3 refine pf ?_
    refine ph ?_;refine pf ?_;refine ph ?_
    iterate 3 refine pf ?_
    refine ph ?_
    iterate 3 refine pf ?_
    refine ph ?_;refine pf ?_;refine ph ?_;refine ax rfl (λK hK=>?_);go_simp;refine(ib aY cw cP cZ cc cC j du wr.drew (df.on (Fr.ext LW.drew)) (di.on (Fr.ext LW.drew)) d.o).mono ?_;rintro e aS ⟨rfl,ar⟩;have aX:=ae (bx.trans (Fr.aF (Fr.of ar)));clear ar a0 aj af a7 am aF c0 c1;generalize decide (j=du)=q;refine dP hK ?_;clear hK K;refine pf ?_;refine aC ?_;cases q
    .go_wp2_with(fail);go_roundw
     case rel=>exact⟨k+1,ad,by go_num,aX.o⟩
     case measure=>exact aH
    .go_wp2_with(fail);go_ret;exact⟨k,rfl,ad,ad,bo.trans aX.o⟩
   .have cL:(f == eE)=false:=by simp[hp]
    clear hp;go_upto_region 4 with(fail);refine eC (λ_=>False) [(0,3),(1,0),(2,3),(3,3),(4,3),(5,0),(6,3),(7,0),(8,3),(9,3),(10,3),(11,0),(12,3),(13,3),(14,3),(15,0),(16,3),(17,0),(18,2),(19,3)] ?_;refine pf ?_;refine ph ?_
    iterate 3 refine pf ?_
    refine ph ?_;refine pf ?_;refine ph ?_
    iterate 2 refine pf ?_
    refine dr rfl (by rfl) ?_
    try simp only[PU]
    refine iq rfl (by rfl) ?_;exact A6
  .obtain rfl:k=n:=ad;go_wp2_with(fail);go_ret;exact⟨-1,rfl,ad,ad,bo.trans bx.o⟩
structure GD(w:World)(P:Nat->Prop)(x:az)(cs:List Value)(eo en:Int)(es:ByteArray)(EA:L3)(em ec:Nat)(QA:L3)(qm qc:Nat)(IA:L3)(i ic:Nat)(KA:L3)(k kc:Nat):Prop where
 cells:cs=[.int .i64 x.op,.int .i64 x.target,.bool x.c7,.int .i64 eo,.int .i64 en,.string es,.slice EA em ec,.bool x.place.param,.int .i64 x.place.index,.slice QA qm qc,.slice IA i ic,.slice KA k kc]
 expr:(oO x.expr).rep w P [.int .i64 eo,.int .i64 en,.string es,.slice EA em ec]
 place:(dk x.place).rep w P [.bool x.place.param,.int .i64 x.place.index,.slice QA qm qc]
 ints:Sl w P IA i (x.ints.map bp)
 H5:i<=ic
 places:Sl w P KA k (x.places.map dk)
 H7:k<=kc
theorem wq{w:World}{x:az}(h:(ej x).rep w P cs):∃eo en es EA em ec QA qm qc IA i ic KA k kc,GD w P x cs eo en es EA em ec QA qm qc IA i ic KA k kc:=by
 unfold ej at h;rw[bM,bq] at h;obtain⟨y,rfl,h⟩:=h;rw[bq] at h;obtain⟨y,rfl,h⟩:=h;rw[fv] at h;obtain⟨y,rfl,h⟩:=h;simp only[D.aQ] at h;obtain⟨ce,ch,rfl,he,c,bA,rfl,hp,ci,b7,rfl,an,b,a,rfl,ap,rfl⟩:=h;obtain⟨eo,en,es,EA,em,ec,rfl⟩:=qa he;obtain⟨QA,qm,qc,rfl,_,_⟩:=dX.1 hp;obtain⟨IA,ic,i,rfl,b0,an⟩:=D.tE.1 an;obtain⟨KA,kc,k,rfl,aN,ap⟩:=D.tE.1 ap;exact⟨eo,en,es,EA,em,ec,QA,qm,qc,IA,i,ic,KA,k,kc,rfl,he,hp,an,b0,ap,aN⟩
theorem Eb(p:cM):(gi p).sz=5:=rfl
theorem uv{w:World}{p:cM}(h:(gi p).rep w P cs):∃A n c,cs=[.string p.name,.int .i64 p.ints,.int .i64 p.au,.int .i64 p.locals,.slice A n c]/\n<=c/\Sl w P A n (p.code.map ej):=by
 unfold gi at h;rw[bM,ct] at h;obtain⟨y,rfl,h⟩:=h;exact Hg
structure hA(w:World)(P:Nat->Prop)(u:ay)(GA:L3)(gn:Nat)(MA:L3)(mn:Nat)(PA:L3)(pn:Nat):Prop where
 g:Sl w P GA gn (u.globals.map .i)
 m:Sl w P MA mn (u.af.map eD)
 p:Sl w P PA pn (u.procs.map gi)
theorem l6{w:World}(h:(uw u).rep w P cs):∃GA gn gc MA mn mc PA pn pc,cs=[.slice GA gn gc,.slice MA mn mc,.slice PA pn pc,.int .i64 u.main]/\gn<=gc/\mn<=mc/\pn<=pc/\hA w P u GA gn MA mn PA pn:=by
 unfold uw at h;rw[bM] at h;obtain⟨A,n,c,y,rfl,hc,hs,h⟩:=aN.1 h;obtain⟨A2,n2,c2,ch,rfl,ca,bN,h⟩:=aN.1 h;obtain⟨cE,n3,c3,bA,rfl,U,cQ,h⟩:=aN.1 h;obtain⟨b7,rfl,bR⟩:=bq.1 h;rw[aP] at bR;subst bR;exact⟨A,n,c,A2,n2,c2,cE,n3,c3,rfl,hc,ca,U,hs,bN,cQ⟩
theorem hA.on{w ab:World}{u:ay}{GA:L3}{gn:Nat}{MA:L3}{mn:Nat}{PA:L3}{pn:Nat}(h:hA w (av w) u GA gn MA mn PA pn)(he:Ext w ab):hA ab (av ab) u GA gn MA mn PA pn:=
 ⟨h.g.on (Fr.ext he),h.m.on (Fr.ext he),h.p.on (Fr.ext he)⟩
theorem hA.proc{w:World}{GA:L3}{gn:Nat}{MA:L3}{mn:Nat}{PA:L3}{pn:Nat}(h:hA w P u GA gn MA mn PA pn){k:Nat}(ap:k<pn):
  ∃b o p bz n c,PA=some ⟨b,o,none⟩/\P b/\u.procs[k]?=some p/\w.cell? ⟨b,o+k*5,none⟩=some (.string p.name)/\w.cell? ⟨b,o+k*5+1,none⟩=some (.int .i64 p.ints)/\w.cell? ⟨b,o+k*5+2,none⟩=some (.int .i64 p.au)/\
   w.cell? ⟨b,o+k*5+3,none⟩=some (.int .i64 p.locals)/\w.cell? ⟨b,o+k*5+4,none⟩=some (.slice bz n c)/\n<=c/\Sl w P bz n (p.code.map ej):=by
 obtain⟨b,o,p,cs,aX,O,hp,ba,hl,hc⟩:=Sl.g6 (z:=5) h.p Eb ap;obtain⟨bz,n,c,rfl,ac,au⟩:=uv ba;exact⟨b,o,p,bz,n,c,aX,O,hp,hc 0 _ rfl,hc 1 _ rfl,hc 2 _ rfl,hc 3 _ rfl,hc 4 _ rfl,ac,au⟩
theorem Sl.Er{w:World}{A:L3}{n:Nat}{l:List az}(h:Sl w P A n (l.map ej)){k:Nat}(ap:k<n):
  ∃b o x cs eo en es EA em ec QA qm qc IA i ic KA m mc,A=some ⟨b,o,none⟩/\P b/\l[k]?=some x/\GD w P x cs eo en es EA em ec QA qm qc IA i ic KA m mc/\∀j v,cs[j]?=some v->w.cell? ⟨b,o+k*12+j,none⟩=some v:=by
 obtain⟨b,o,x,cs,aX,O,hx,ba,hl,hc⟩:=Sl.g6 (z:=12) h mJ ap;obtain⟨eo,en,es,EA,em,ec,QA,qm,qc,IA,i,ic,KA,m,mc,an⟩:=wq ba;exact⟨b,o,x,cs,eo,en,es,EA,em,ec,QA,qm,qc,IA,i,ic,KA,m,mc,aX,O,hx,an,hc⟩
theorem Sl.pq{w:World}{A:L3}{n:Nat}{l:List bN}(h:Sl w P A n (l.map dk)){k:Nat}(ap:k<n):
  ∃b o x QA m c,A=some ⟨b,o,none⟩/\P b/\l[k]?=some x/\w.cell? ⟨b,o+k*3,none⟩=some (.bool x.param)/\w.cell? ⟨b,o+k*3+1,none⟩=some (.int .i64 x.index)/\w.cell? ⟨b,o+k*3+2,none⟩=some (.slice QA m c)/\m<=c/\Sl w P QA m (x.at_.toList.map bp):=by
 obtain⟨b,o,x,cs,aX,O,hx,ba,hl,hc⟩:=Sl.g6 (z:=3) h (λ_=>rfl) ap;obtain⟨QA,m,c,rfl,ac,au⟩:=dX.1 ba;exact⟨b,o,x,QA,m,c,aX,O,hx,hc 0 _ rfl,hc 1 _ rfl,hc 2 _ rfl,ac,au⟩
def l8(u:ay)(i:hZ):Prop:=∃p,0<=i.proc/\u.procs[i.proc.toNat]?=some p/\(i.au.length:Int)=p.au
end Go.Proofs.YtkhnkojkplbioaaGreat

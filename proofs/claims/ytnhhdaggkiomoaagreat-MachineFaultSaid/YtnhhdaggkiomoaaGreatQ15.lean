/- Part 15 of the proof. No condition of its own. -/
import Derived.Test.YtnhhdaggkiomoaaGreatQ11
import Derived.Test.YtnhhdaggkiomoaaGreatQ14
namespace Go.Proofs.YtnhhdaggkiomoaaGreat
open Go.RowKit Go.Proofs.Tryz
set_option maxRecDepth 1000000
set_option maxHeartbeats 25600000
set_option linter.unusedVariables false
variable{cs:List Value}{P:Nat→Prop}{p:Prop}{u:ay}
def cz(s:List UInt8)(T:List Tok)(k:Nat):Bool:=match T[k]? with
 | some t=>(t.kind == 4 || t.kind == 3) && decide (strOf t.text=strOf s)
 | none=>false
def s9(q:Int)(T:List Tok)(k:Nat):Bool:=match T[k]? with
 | some t=>t.kind == q
 | none=>false
structure cj(w:World)(g:Nat)(A:Ls)(n c:Nat)(T:List Tok)(k deep:Nat):Prop where
 blk:aq w g 202 #[.slice A n c,.int .i64 k,.int .i64 0,.int .i64 0,.int .i64 0,.int .i64 deep]
 ta:cq (EF qW) 4 w g A n T
 lt:k<n
 jy:n≤4001
section
variable {w ab:World} {g:Nat} {A:Ls} {n c:Nat} {T:List Tok} {k deep:Nat}
theorem cj.on{M:Nat→Prop}(h:cj w g A n c T k deep)(O:Fr M w ab)(hM:∀b,M b→g<b):cj ab g A n c T k deep:=
 ⟨h.blk.on O fun hm=>by have:=hM g hm;omega,h.ta.ez (O.below (aD h.blk.lt) fun b O hm=>by have:=hM b hm;omega),h.lt,h.jy⟩
theorem cj.ai(h:cj w g A n c T k deep)(O:Ext w ab):cj ab g A n c T k deep:=h.on O fun _ h=>h.elim
theorem cj.tok(h:cj w g A n c T k deep):∃(b o:Nat) (t:Tok),A=some ⟨b,o,none⟩∧b<g∧T[k]?=some t∧w.cell? ⟨b,o+k*4,none⟩=some (.int .i64 t.kind)∧w.cell? ⟨b,o+k*4+1,none⟩=some (.string (strOf t.text))∧w.cell? ⟨b,o+k*4+2,none⟩=some (.int .i64 t.num)∧w.cell? ⟨b,o+k*4+3,none⟩=some (.int .i64 t.pos):=by
 have hl:=h.ta.1;obtain⟨b,o,bw,O,hc⟩:=h.ta.2 (aD h.lt);have ap:k<T.length:=by have:=h.lt;omega
 have ht:T[k]?=some T[k]:=List.getElem?_eq_getElem ap;obtain⟨cs,rfl,_,bi⟩:=hc k _ ht;have c0:=bi 0 _ rfl;simp only[KQ] at c0;exact⟨b,o,_,bw,O,ht,c0,bi 1 _ rfl,bi 2 _ rfl,bi 3 _ rfl⟩
end
theorem FO(a b:List UInt8):((strOf a).toList == (strOf b).toList)=decide (strOf a=strOf b):=by
 by_cases h:strOf a=strOf b
 ·rw[h];simp
 ·rw[s8 h];simp[h]
namespace Bm
theorem dC(h:p:=by
 generalize hX:World.drew _=X;have aw:=gF hX;have aR:=kp hX;have bq:=ae aw;have eN:=(aR.ai Lo)
 obtain⟨d0,aL,aM⟩:=aR.two;obtain⟨a0,ai,af⟩:=(show aq X g 202 _ from ck.ai aw).two;clear hX aw aR eN;have lU:(t.kind == 4 || t.kind == 3)=true→cz s T k=((strOf t.text).toList == (strOf s).toList):=fun h=>by rw[bm.o,h,FO,Bool.true_and]
 have d:(t.kind == 4 || t.kind == 3)=false→cz s T k=false:=fun h=>by rw[bm.o,h,Bool.false_and]
 have bV:=ag lU d;clear lU d;by_cases bz:t.kind=4
 ·have df:(t.kind == 4)=true:=by simpa using bz
  clear bz;go_wp2_with(fail);go_ret;exact⟨ret_bool (bV.1 (by simp[df])).symm,bq.o⟩
 ·have df:(t.kind == 4)=false:=by simpa using bz
  clear bz;by_cases aV:t.kind=3
  ·have dd:(t.kind == 3)=true:=by simpa using aV
   clear aV;go_wp2_with(fail);go_ret;exact⟨ret_bool (bV.1 (by simp[dd])).symm,bq.o⟩
  ·have dd:(t.kind == 3)=false:=by simpa using aV
   clear aV;go_wp2_with(fail);go_ret;exact⟨ret_bool (bV.2 (by simp[dd,df])).symm,bq.o⟩
 ):p:=h
end Bm
open Bm in
theorem lz(s:List UInt8)(g:Nat)(A:Ls)(n c:Nat)(T:List Tok)(k deep:Nat)(w:World)(h:cj w g A n c T k deep) :
  Calls prog 120 #[.pointer (some ⟨g,0,none⟩),.string (strOf s)] w fun e ab=>e=.returned (.bool (cz s T k))∧Ext w ab:=by
 obtain⟨b,o,t,rfl,O,ht,c0,c1,c2,c3⟩:=h.tok;have ak:=h.lt;have L:=h.jy;have ci:=h.blk.lt;have bo:(0:Int)≤(k:Int):=ad;have cf:(k:Int)<(n:Int):=ad;have bX:b<w.heap.size:=ad;have f:cz s T k=((t.kind == 4 || t.kind == 3) && decide (strOf t.text=strOf s)):=by unfold cz;rw[ht]
 have bm:=ae f;obtain⟨a0,ai,af⟩:=h.blk.two;have ck:=ae h.blk;clear h f ht;go_enter func120,ntmps120;go_upto_region 1 with(fail);refine eK (fun _=>False) [(0,3),(1,3),(2,3),(3,0),(4,3),(5,3),(6,3),(7,0),(8,3),(9,0),(10,1),(11,2)] ?_
 iterate 3 refine pf ?_
 refine ph ?_
 iterate 3 refine pf ?_
 refine ph ?_;refine pf ?_;refine ph ?_;refine q0 ?_;exact eP
theorem dx(s:List UInt8)(g:Nat)(A:Ls)(n c:Nat)(T:List Tok)(k deep:Nat)(w:World)(h:cj w g A n c T k deep)(q:Bool)(bK:cz s T k=q)(ap:q=true→k+1<n) :
  Calls prog 122 #[.pointer (some ⟨g,0,none⟩),.string (strOf s)] w fun e ab=>e=.returned (.bool q)∧cj ab g A n c T (if q=true then k+1 else k) deep∧Fr (fun b=>b=g) w ab:=by
 obtain⟨H,bY⟩:=aI h bK;have ak:=h.lt;have L:=h.jy;clear h bK
 cases q with
 | false=>
  go_enter func122,ntmps122;go_wp2_with(fail);refine(lz s g A n c T k deep w H.o).mono ?_;rintro e aS ⟨rfl,aw⟩;rw[bY.o];have H1:=ag (H.ai aw) aw;clear aw ap;go_wp2_with(fail);go_ret
  exact⟨rfl,by simpa using H1.1,H1.2.mono fun _ h=>h.elim⟩
 | true=>
  have bX:=ap rfl;clear ap;go_enter func122,ntmps122;go_wp2_with(fail);refine(lz s g A n c T k deep w H.o).mono ?_;rintro e aS ⟨rfl,aw⟩;rw[bY.o];have H1:=ag (H.ai aw) aw;obtain⟨a0,ai,af⟩:=H1.1.blk.two;clear aw;go_wp2_with(fail);go_ret;have J:Fr (fun b=>b=g) aS (aS.setCell ⟨g,1,none⟩ (.int .i64 ((k:Int)+1))):=(Fr.refl (fun b=>b=g) aS).setCell (.inl rfl) _;refine⟨rfl,⟨?_,H1.1.ta.ez (J.below (aD H1.1.blk.lt) fun b O hm=>ad),by simpa using bX,L⟩,(H1.2.mono fun _ h=>h.elim).trans J⟩;exact H1.1.blk.aM 1 (.int .i64 ((k:Int)+1))
theorem mL(s:List UInt8)(g:Nat)(A:Ls)(n c:Nat)(T:List Tok)(k deep:Nat)(w:World)(h:cj w g A n c T k deep)(bK:cz s T k=true)(ap:k+1<n) :
  Calls prog 150 #[.pointer (some ⟨g,0,none⟩),.string (strOf s)] w fun e ab=>e=.returned (.tuple #[])∧cj ab g A n c T (k+1) deep∧Fr (fun b=>b=g) w ab:=by
 obtain⟨H,bY⟩:=aI h bK;clear h bK;go_enter func150,ntmps150;go_wp2_with(fail);refine(dx s g A n c T k deep w H.o true bY.o (fun _=>ap)).mono ?_;rintro e aS ⟨rfl,aZ,hF⟩;have H1:=ag aZ hF;clear aZ hF;go_wp2_with(fail);refine bodyPost_end (v:=.tuple #[]) (by simp[results,Tryz.results150,go_sem]) rfl ?_;exact⟨rfl,by simpa using H1.1,H1.2⟩
theorem oR(q:Int)(g:Nat)(A:Ls)(n c:Nat)(T:List Tok)(k deep:Nat)(w:World)(h:cj w g A n c T k deep) :
  Calls prog 119 #[.pointer (some ⟨g,0,none⟩),.int .i64 q] w fun e ab=>e=.returned (.bool (s9 q T k))∧Ext w ab:=by
 obtain⟨b,o,t,rfl,O,ht,c0,c1,c2,c3⟩:=h.tok;have ak:=h.lt;have L:=h.jy;have ci:=h.blk.lt;have bo:(0:Int)≤(k:Int):=ad;have cf:(k:Int)<(n:Int):=ad;have bX:b<w.heap.size:=ad;have f:s9 q T k=(t.kind == q):=by unfold s9;rw[ht]
 have bm:=ae f;obtain⟨a0,ai,af⟩:=h.blk.two;clear h f ht;go_enter func119,ntmps119;go_upto_region 1 with(fail);refine eK (fun _=>False) [(0,3),(1,3),(2,3),(3,0),(4,3),(5,3),(6,3),(7,3),(8,3),(9,0),(10,3),(11,3),(12,3),(13,0),(14,3),(15,3),(16,0),(17,3),(18,3),(19,3),(20,3)] ?_
 iterate 3 refine pf ?_
 refine ph ?_
 iterate 5 refine pf ?_
 refine ph ?_
 iterate 3 refine pf ?_
 refine ph ?_
 iterate 2 refine pf ?_
 refine ph ?_
 iterate 4 refine pf ?_
 refine aE ?_;go_wp2_with(fail);go_ret;exact⟨ret_bool bm.symm,Lo.drew⟩
theorem oS(g:Nat)(A:Ls)(n c:Nat)(T:List Tok)(k deep:Nat)(w:World)(t:Tok)(h:cj w g A n c T k deep)(ht:T[k]?=some t)(bK:t.kind=1)(ap:k+1<n) :
  Calls prog 125 #[.pointer (some ⟨g,0,none⟩)] w fun e ab=>e=.returned (.string (strOf t.text))∧cj ab g A n c T (k+1) deep∧Fr (fun b=>b=g) w ab:=by
 have H:=ae h;have d:s9 1 T k=true:=by unfold s9;rw[ht];simp[bK]
 obtain⟨bY,aa⟩:=aI d ht;have L:=h.jy;clear h d bK ht;go_enter func125,ntmps125;go_wp2_with(fail);refine(oR 1 g A n c T k deep w H.o).mono ?_;rintro e aS ⟨rfl,aw⟩;rw[bY.o];have H1:=ag (H.ai aw) aw;obtain⟨a0,ai,af⟩:=H1.1.blk.two;clear aw;go_upto_region 5 with(fail);generalize hX:World.setCell _ _ _=X;have J:=cL hX;have aZ:cj X g A n c T (k+1) deep:=by
  rw[←hX];have J:Fr (fun b=>b=g) aS (aS.setCell ⟨g,1,none⟩ (.int .i64 ((k:Int)+1))):=(Fr.refl (fun b=>b=g) aS).setCell (.inl rfl) _;exact⟨H1.1.blk.aM 1 (.int .i64 ((k:Int)+1)),H1.1.ta.ez (J.below (aD H1.1.blk.lt) fun b O hm=>ad),ap,L⟩
 have aQ:=ag aZ ((H1.2.mono fun _ h=>h.elim).trans J);obtain⟨b,o,f,rfl,O,j,c0,c1,c2,c3⟩:=H1.1.tok;have G:f=t:=by
  have:=aa.o;rw[j] at this;injection this
 subst G;have ci:=aZ.blk.lt;have bX:b<X.heap.size:=ad;have I:¬b=g:=ad;have c1:X.cell? ⟨b,o+k*4+1,none⟩=some (.string (strOf f.text)):=(J.cell (aD H1.1.blk.lt) I).trans c1;clear a0 ai af c0 c2 c3 hX J;obtain⟨a0,ai,af⟩:=aZ.blk.two;have bo:(0:Int)≤(k:Int):=ad;have cf:(k:Int)<(n:Int):=ad;have i:(k:Int)≤4001:=ad;clear aZ j;refine eK (fun _=>False) [(0,3),(1,3),(2,3),(3,0),(4,3),(5,3),(6,3),(7,0),(8,3),(9,3),(10,3),(11,0),(12,3)] ?_
 iterate 3 refine pf ?_
 refine ph ?_
 iterate 3 refine pf ?_
 refine ph ?_;refine pf ?_;rw[show IntKind.i64.wrap ((k:Nat):Int)=(k:Int) from IntWalk.i64_in _ ad]
 iterate 2 refine pf ?_
 refine ph ?_;refine pf ?_;refine aE ?_;go_wp2_with(fail);go_ret;exact⟨rfl,aQ.1.ai Lo.drew,aQ.2.drew⟩
theorem Sl.tR{w:World}{A:Ls}{n:Nat}{l:List Int}(h:Sl w P A n (l.map .i)){k:Nat}(ap:k<n):
  ∃b o x,A=some ⟨b,o,none⟩∧P b∧l[k]?=some x∧w.cell? ⟨b,o+k,none⟩=some (.int .i64 x):=by
 obtain⟨b,o,x,cs,bw,O,hx,a5,hl,hc⟩:=Sl.gZ (z:=1) h (fun _=>rfl) ap;simp only[D.rep] at a5;subst a5;exact⟨b,o,x,bw,O,hx,by have:=hc 0 _ rfl;simpa using this⟩
namespace B8
theorem so(h:p:=by
 go_enter func46,ntmps46;exact r6
 ):p:=h
end B8
open B8 in
theorem h7(A A2:Ls)(n c n2 c2:Nat)(S T:List Int)(w:World)(hs:Sl w (au w) A n (S.map .i))(ht:Sl w (au w) A2 n2 (T.map .i))(hn:n≤140737488355328) :
  Calls prog 46 #[.slice A n c,.slice A2 n2 c2] w fun r ab=>r=.returned (.bool (decide (S=T)))∧Below w.heap.size w ab:=by
 have hl:S.length=n:=by have:=hs.1;simpa using this
 have cg:T.length=n2:=by have:=ht.1;simpa using this
 by_cases bf:n=n2
 case neg=>
  exact sn
 subst bf;obtain⟨ca,J⟩:=aI hl cg;clear hl cg;have bm:((n:Int) != (n:Int))=false:=by simp
 go_enter func46,ntmps46;go_wp2;go_loopw [5] (fun i wr=>∃k:Nat,k≤n∧i=.int .i64 k∧(∀j,j<k→S[j]?=T[j]?)∧Below w.heap.size w wr) (fun i _=>n - (intOf i).toNat)
 case atStart=>exact⟨0,Ld _,rfl,fun j bi=>absurd bi ad,Below.refl _ _⟩
 case round=>
  obtain⟨k,ap,rfl,bR,O⟩:=hrel;have aA:=ae bR;clear bR;by_cases ak:k<n
  ·obtain⟨b,o,x,rfl,U,hx,c0⟩:=(hs.on O).tR ak;obtain⟨K,R,d,rfl,l,g,d0⟩:=(ht.on O).tR ak;exact F9
  ·obtain rfl:k=n:=ad;exact xf
theorem yn(A:Ls)(n c:Nat)(S:List Int)(bs:Int)(w:World)(hs:Sl w (au w) A n (S.map .i))(hn:n≤140737488355328) :
  Calls prog 116 #[.slice A n c,.int .i64 bs] w fun r ab=>r=.returned (.bool (decide (bs∈S)))∧Below w.heap.size w ab:=by
 have hl:S.length=n:=by have:=hs.1;simpa using this
 have ca:=ae hl;clear hl;go_enter func116,ntmps116;go_wp2;go_loopw [5] (fun i wr=>∃k:Nat,k≤n∧i=.int .i64 k∧(∀j,j<k→S[j]?≠some bs)∧Below w.heap.size w wr) (fun i _=>n - (intOf i).toNat)
 case atStart=>exact⟨0,Ld _,rfl,fun j bi=>absurd bi ad,Below.refl _ _⟩
 case round=>
  obtain⟨k,ap,rfl,bR,O⟩:=hrel;have aA:=ae bR;clear bR;by_cases ak:k<n
  ·obtain⟨b,o,x,rfl,U,hx,c0⟩:=(hs.on O).tR ak;have bo:(0:Int)≤(k:Int):=ad;have cf:(k:Int)<(n:Int):=ad;by_cases hd:x=bs
   ·have aW:=ae (show decide (bs∈S)=true from decide_eq_true (hd▸KJ hx));have u:(x == bs)=true:=by simp[hd]
    clear hx hd;exact tv
   ·have aQ:=ae (show S[k]?≠some bs by rw[hx];intro h;injection h with h;exact hd h);have u:(x == bs)=false:=by simp[hd]
    clear hx hd;go_wp2;go_roundw
    case rel=>
     refine⟨k+1,ad,by go_num,fun j bi=>?_,O⟩;by_cases z:j<k
     ·exact aA.o j z
     ·obtain rfl:j=k:=ad;exact aQ.o
    case measure=>exact aH
  ·obtain rfl:k=n:=ad;have aW:=ae (show decide (bs∈S)=false from decide_eq_false (fun h=>by
    obtain⟨j,bi,he⟩:=List.mem_iff_getElem.1 h;exact aA.o j (aD ca.o) (by rw[List.getElem?_eq_getElem bi,he])))
   exact tv
theorem yz(cq:Int)(A:Ls)(n c:Nat)(L:List Int)(p:bR)(q:List Value)(sl:Value)(w:World)(hs:Sl w (au w) A n (L.map .i))(hn:n≤140737488355328)(hp:p.param=true→0≤p.index∧p.index<n) :
  Calls prog 115 #[.agg #[.int .i64 cq,.slice A n c],.agg #[.bool p.param,.int .i64 p.index,sl]] w fun r ab=>r=.returned (.int .i64 (if p.param then L.getD p.index.toNat 0 else p.index))∧Ext w ab:=by
 obtain⟨pm,i,a⟩:=p;simp only at hp ⊢;cases pm
 ·go_enter func115,ntmps115;go_wp2;go_ret;exact⟨rfl,(Lo.alloc _).alloc _⟩
 ·obtain⟨h0,ac⟩:=hp rfl;obtain⟨k,rfl⟩:=KL h0;have ap:k<n:=ad;obtain⟨b,o,x,rfl,U,hx,c0⟩:=hs.tR ap;have aQ:=ae (show L.getD (Int.toNat k) 0=x by rw[List.getD_eq_getElem?_getD,Lc,hx];rfl);clear hx;suffices ah:Calls prog 115 #[.agg #[.int .i64 cq,.slice (some ⟨b,o,none⟩) n c],.agg #[.bool true,.int .i64 (k:Int),sl]] w fun r ab=>r=.returned (.int .i64 x)∧Ext w ab from
   ah.mono fun e aS ac=>⟨ac.1.trans (by rw[←aQ.o];simp),ac.2⟩
  go_enter func115,ntmps115;go_wp2;go_ret;exact⟨rfl,(Lo.alloc _).alloc _⟩
structure hP where
 proc:Int
 av:List Int
def fA(i:hP):D:=.st [.i i.proc,.sl (i.av.map .i)]
theorem kx{w:World}{i:hP}:(fA i).rep w P cs↔∃A c n,cs=[.int .i64 i.proc,.slice A n c]∧n≤c∧Sl w P A n (i.av.map .i):=by
 unfold fA;simp only[D.rep];rw[bm];constructor
 ·rintro⟨f,rfl,h⟩;obtain⟨A,n,c,y,rfl,hc,hs,bb⟩:=aN.1 h;rw[aP] at bb;subst bb;exact⟨A,c,n,rfl,hc,hs⟩
 ·rintro⟨A,c,n,rfl,hc,hs⟩;exact vd
theorem Sl.vW{w:World}{A:Ls}{n:Nat}{l:List hP}(h:Sl w P A n (l.map fA)){k:Nat}(ap:k<n):
  ∃b o x cO cG cV,A=some ⟨b,o,none⟩∧P b∧l[k]?=some x∧w.cell? ⟨b,o+k*2,none⟩=some (.int .i64 x.proc)∧w.cell? ⟨b,o+k*2+1,none⟩=some (.slice cO cG cV)∧cG≤cV∧Sl w P cO cG (x.av.map .i):=by
 obtain⟨b,o,x,cs,bw,O,hx,a5,hl,hc⟩:=Sl.gZ (z:=2) h (fun _=>rfl) ap;obtain⟨cO,cV,cG,rfl,ac,av⟩:=kx.1 a5;exact⟨b,o,x,cO,cG,cV,bw,O,hx,hc 0 _ rfl,hc 1 _ rfl,ac,av⟩
namespace B9
theorem Av(h:p:=by
 refine ax rfl (fun K hK=>?_);go_simp;refine dO hK ?_;clear hK K;refine pf ?_;refine aE ?_;go_wp2_with(fail);go_roundw
 case rel=>exact⟨k+1,ad,by go_num,bu.drew⟩
 case measure=>exact aH
 ):p:=h
end B9
open B9 in
theorem pN(IA:Ls)(n ic:Nat)(bx:Ls)(bW bJ:Nat)(cc:Ls)(bF rc:Nat)(L:List hP)(x:hP)(cO:Ls)(cG cV:Nat)(w:World)
  (bS:Sl w (au w) IA n (L.map fA)) (hx:Sl w (au w) cO cG (x.av.map .i)) (hn:n≤1000000) (ap:∀i∈L,i.av.length≤1000000) :
  Calls prog 83 #[.agg #[.slice IA n ic,.slice bx bW bJ,.slice cc bF rc],.agg #[.int .i64 x.proc,.slice cO cG cV]] w fun e ab=>∃r:Int,e=.returned (.int .i64 r)∧-1≤r∧r<n∧Ext w ab:=by
 obtain⟨ca,aQ,c7⟩:=eh bS hx ap;obtain⟨eD,dp⟩:=x;simp only at aQ ⊢;clear bS hx ap;go_enter func83,ntmps83;go_wp2_with(fail);generalize ba:World.alloc _ _=W;have aw:=iO ba;have aR:=gB ba;have bs:=fZ ba;obtain⟨bq,b2,cb⟩:=eh aw aR bs;clear ba aw aR bs;go_loopw [5] (fun i wr=>∃k:Nat,k≤n∧i=.int .i64 k∧Ext W wr) (fun i _=>n - (intOf i).toNat)
 case atStart=>exact⟨0,Ld _,rfl,Lo⟩
 case round=>
  obtain⟨k,ap,rfl,he⟩:=hrel;have bu:=ae he;have bU:=b2.ai he;have bg:=cb.ai he;obtain⟨G,g⟩:=aI bU bg;obtain⟨a0,ai,af⟩:=bU.two;obtain⟨a8,am,aF⟩:=bg.two;clear he bU bg;by_cases ak:k<n
  ·obtain⟨b,o,y,da,c8,dc,rfl,U,bb,c0,c1,cH,c4⟩:=(ca.on (Fr.ext (bq.trans bu.o))).vW ak;obtain⟨f,j⟩:=y;simp only at c0 c4;have aJ:c8≤140737488355328:=by have:=c7.o _ (KJ bb);have:=c4.1;simp at this;simp at *;omega
   have bo:(0:Int)≤(k:Int):=ad;have cf:(k:Int)<(n:Int):=ad;have dd:=ae c4;have dg:=ae (aQ.on (Fr.ext (bq.trans bu.o)));have d:=ae aJ;clear bb c4 aJ cH;by_cases hp:f=eD
   ·have cM:(f == eD)=true:=by simp[hp]
    clear hp;go_upto_region 4 with(fail);refine eK (fun _=>False) [(0,3),(1,0),(2,3),(3,3),(4,3),(5,0),(6,3),(7,0),(8,3),(9,3),(10,3),(11,0),(12,3),(13,3),(14,3),(15,0),(16,3),(17,0),(18,2),(19,3)] ?_;refine pf ?_;refine ph ?_
    iterate 3 refine pf ?_
    refine ph ?_;refine pf ?_;refine ph ?_
    iterate 3 refine pf ?_
    refine ph ?_
    iterate 3 refine pf ?_
    refine ph ?_;refine pf ?_;refine ph ?_;refine ax rfl (fun K hK=>?_);go_simp;refine(h7 da cO c8 dc cG cV j dp wr.drew (dd.on (Fr.ext Lo.drew)) (dg.on (Fr.ext Lo.drew)) d.o).mono ?_;rintro e aS ⟨rfl,ar⟩;have a4:=ae (bu.trans (Fr.aF (Fr.of ar)));clear ar a0 ai af a8 am aF c0 c1;generalize decide (j=dp)=q;refine dO hK ?_;clear hK K;refine pf ?_;refine aE ?_;cases q
    ·go_wp2_with(fail);go_roundw
     case rel=>exact⟨k+1,ad,by go_num,a4.o⟩
     case measure=>exact aH
    ·go_wp2_with(fail);go_ret;exact⟨k,rfl,ad,ad,bq.trans a4.o⟩
   ·have cM:(f == eD)=false:=by simp[hp]
    clear hp;go_upto_region 4 with(fail);refine eK (fun _=>False) [(0,3),(1,0),(2,3),(3,3),(4,3),(5,0),(6,3),(7,0),(8,3),(9,3),(10,3),(11,0),(12,3),(13,3),(14,3),(15,0),(16,3),(17,0),(18,2),(19,3)] ?_;refine pf ?_;refine ph ?_
    iterate 3 refine pf ?_
    refine ph ?_;refine pf ?_;refine ph ?_
    iterate 2 refine pf ?_
    refine dm rfl (by rfl) ?_
    try simp only[PU]
    refine ih rfl (by rfl) ?_;exact Au
  ·obtain rfl:k=n:=ad;go_wp2_with(fail);go_ret;exact⟨-1,rfl,ad,ad,bq.trans bu.o⟩
structure FW(w:World)(P:Nat→Prop)(x:az)(cs:List Value)(eo en:Int)(es:ByteArray)(EA:Ls)(em ec:Nat)(QA:Ls)(qm qc:Nat)(IA:Ls)(i ic:Nat)(KA:Ls)(k kc:Nat):Prop where
 cells:cs=[.int .i64 x.op,.int .i64 x.target,.bool x.dg,.int .i64 eo,.int .i64 en,.string es,.slice EA em ec,.bool x.place.param,.int .i64 x.place.index,.slice QA qm qc,.slice IA i ic,.slice KA k kc]
 expr:(oq x.expr).rep w P [.int .i64 eo,.int .i64 en,.string es,.slice EA em ec]
 place:(di x.place).rep w P [.bool x.place.param,.int .i64 x.place.index,.slice QA qm qc]
 ints:Sl w P IA i (x.ints.map bk)
 Hl:i≤ic
 places:Sl w P KA k (x.places.map di)
 Hn:k≤kc
theorem vL{w:World}{x:az}(h:(eg x).rep w P cs):∃eo en es EA em ec QA qm qc IA i ic KA k kc,FW w P x cs eo en es EA em ec QA qm qc IA i ic KA k kc:=by
 unfold eg at h;rw[bK,bm] at h;obtain⟨y,rfl,h⟩:=h;rw[bm] at h;obtain⟨y,rfl,h⟩:=h;rw[fp] at h;obtain⟨y,rfl,h⟩:=h;simp only[D.aQ] at h;obtain⟨ce,cG,rfl,he,c,b5,rfl,hp,ci,cK,rfl,an,b,a,rfl,ap,rfl⟩:=h;obtain⟨eo,en,es,EA,em,ec,rfl⟩:=pJ he;obtain⟨QA,qm,qc,rfl,_,_⟩:=dT.1 hp;obtain⟨IA,ic,i,rfl,aN,an⟩:=D.s5.1 an;obtain⟨KA,kc,k,rfl,aO,ap⟩:=D.s5.1 ap;exact⟨eo,en,es,EA,em,ec,QA,qm,qc,IA,i,ic,KA,k,kc,rfl,he,hp,an,aN,ap,aO⟩
theorem Dy(p:cJ):(gb p).sz=5:=rfl
theorem tF{w:World}{p:cJ}(h:(gb p).rep w P cs):∃A n c,cs=[.string p.name,.int .i64 p.ints,.int .i64 p.av,.int .i64 p.locals,.slice A n c]∧n≤c∧Sl w P A n (p.code.map eg):=by
 unfold gb at h;rw[bK,cp] at h;obtain⟨y,rfl,h⟩:=h;exact Gx
structure hq(w:World)(P:Nat→Prop)(u:ay)(GA:Ls)(gn:Nat)(MA:Ls)(mn:Nat)(PA:Ls)(pn:Nat):Prop where
 g:Sl w P GA gn (u.globals.map .i)
 m:Sl w P MA mn (u.af.map ey)
 p:Sl w P PA pn (u.procs.map gb)
theorem lT{w:World}(h:(tG u).rep w P cs):∃GA gn gc MA mn mc PA pn pc,cs=[.slice GA gn gc,.slice MA mn mc,.slice PA pn pc,.int .i64 u.main]∧gn≤gc∧mn≤mc∧pn≤pc∧hq w P u GA gn MA mn PA pn:=by
 unfold tG at h;rw[bK] at h;obtain⟨A,n,c,y,rfl,hc,hs,h⟩:=aN.1 h;obtain⟨A2,n2,c2,cG,rfl,b9,bO,h⟩:=aN.1 h;obtain⟨cC,n3,c3,b5,rfl,U,cP,h⟩:=aN.1 h;obtain⟨cK,rfl,bz⟩:=bm.1 h;rw[aP] at bz;subst bz;exact⟨A,n,c,A2,n2,c2,cC,n3,c3,rfl,hc,b9,U,hs,bO,cP⟩
theorem hq.on{w ab:World}{u:ay}{GA:Ls}{gn:Nat}{MA:Ls}{mn:Nat}{PA:Ls}{pn:Nat}(h:hq w (au w) u GA gn MA mn PA pn)(he:Ext w ab):hq ab (au ab) u GA gn MA mn PA pn:=
 ⟨h.g.on (Fr.ext he),h.m.on (Fr.ext he),h.p.on (Fr.ext he)⟩
theorem hq.proc{w:World}{GA:Ls}{gn:Nat}{MA:Ls}{mn:Nat}{PA:Ls}{pn:Nat}(h:hq w P u GA gn MA mn PA pn){k:Nat}(ap:k<pn):
  ∃b o p bx n c,PA=some ⟨b,o,none⟩∧P b∧u.procs[k]?=some p∧w.cell? ⟨b,o+k*5,none⟩=some (.string p.name)∧w.cell? ⟨b,o+k*5+1,none⟩=some (.int .i64 p.ints)∧w.cell? ⟨b,o+k*5+2,none⟩=some (.int .i64 p.av)∧
   w.cell? ⟨b,o+k*5+3,none⟩=some (.int .i64 p.locals)∧w.cell? ⟨b,o+k*5+4,none⟩=some (.slice bx n c)∧n≤c∧Sl w P bx n (p.code.map eg):=by
 obtain⟨b,o,p,cs,bw,O,hp,a5,hl,hc⟩:=Sl.gZ (z:=5) h.p Dy ap;obtain⟨bx,n,c,rfl,ac,av⟩:=tF a5;exact⟨b,o,p,bx,n,c,bw,O,hp,hc 0 _ rfl,hc 1 _ rfl,hc 2 _ rfl,hc 3 _ rfl,hc 4 _ rfl,ac,av⟩
theorem Sl.DN{w:World}{A:Ls}{n:Nat}{l:List az}(h:Sl w P A n (l.map eg)){k:Nat}(ap:k<n):
  ∃b o x cs eo en es EA em ec QA qm qc IA i ic KA m mc,A=some ⟨b,o,none⟩∧P b∧l[k]?=some x∧FW w P x cs eo en es EA em ec QA qm qc IA i ic KA m mc∧∀j v,cs[j]?=some v→w.cell? ⟨b,o+k*12+j,none⟩=some v:=by
 obtain⟨b,o,x,cs,bw,O,hx,a5,hl,hc⟩:=Sl.gZ (z:=12) h mw ap;obtain⟨eo,en,es,EA,em,ec,QA,qm,qc,IA,i,ic,KA,m,mc,an⟩:=vL a5;exact⟨b,o,x,cs,eo,en,es,EA,em,ec,QA,qm,qc,IA,i,ic,KA,m,mc,bw,O,hx,an,hc⟩
theorem Sl.oQ{w:World}{A:Ls}{n:Nat}{l:List bR}(h:Sl w P A n (l.map di)){k:Nat}(ap:k<n):
  ∃b o x QA m c,A=some ⟨b,o,none⟩∧P b∧l[k]?=some x∧w.cell? ⟨b,o+k*3,none⟩=some (.bool x.param)∧w.cell? ⟨b,o+k*3+1,none⟩=some (.int .i64 x.index)∧w.cell? ⟨b,o+k*3+2,none⟩=some (.slice QA m c)∧m≤c∧Sl w P QA m (x.at_.toList.map bk):=by
 obtain⟨b,o,x,cs,bw,O,hx,a5,hl,hc⟩:=Sl.gZ (z:=3) h (fun _=>rfl) ap;obtain⟨QA,m,c,rfl,ac,av⟩:=dT.1 a5;exact⟨b,o,x,QA,m,c,bw,O,hx,hc 0 _ rfl,hc 1 _ rfl,hc 2 _ rfl,ac,av⟩
def lV(u:ay)(i:hP):Prop:=∃p,0≤i.proc∧u.procs[i.proc.toNat]?=some p∧(i.av.length:Int)=p.av
end Go.Proofs.YtnhhdaggkiomoaaGreat

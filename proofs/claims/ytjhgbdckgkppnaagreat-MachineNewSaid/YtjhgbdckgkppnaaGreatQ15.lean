/- Part 15 of the proof (PrsA CloA CloB Uni), without conditions of its own. -/
import Derived.Test.YtjhgbdckgkppnaaGreatQ11
import Derived.Test.YtjhgbdckgkppnaaGreatQ14
namespace Go.Proofs.YtjhgbdckgkppnaaGreat
open Go.RowKit Go.Proofs.Tryz
set_option maxRecDepth 1000000
set_option maxHeartbeats 25600000
set_option linter.unusedVariables false
variable{cs:List Value}{P:Nat→Prop}{p:Prop}{u:aF}
def cj(s:List UInt8)(T:List Tok)(k:Nat):Bool:=match T[k]? with
 | some t=>(t.kind == 4 || t.kind == 3) && decide (strOf t.text=strOf s)
 | none=>false
def qD(q:Int)(T:List Tok)(k:Nat):Bool:=match T[k]? with
 | some t=>t.kind == q
 | none=>false
structure b1(w:World)(g:Nat)(A:GR)(n c:Nat)(T:List Tok)(k deep:Nat):Prop where
 blk:ag w g 195 #[.slice A n c,.int .i64 k,.int .i64 0,.int .i64 0,.int .i64 0,.int .i64 deep]
 qE:cG (EF nK) 4 w g A n T
 lt:k<n
 ir:n≤4001
section
variable {w ab:World} {g:Nat} {A:GR} {n c:Nat} {T:List Tok} {k deep:Nat}
theorem b1.on{M:Nat→Prop}(h:b1 w g A n c T k deep)(O:Fr M w ab)(a5:∀b,M b→g<b):b1 ab g A n c T k deep:=
 ⟨h.blk.on O fun hm=>by have:=a5 g hm;omega,h.qE.d9 (O.below (aB h.blk.lt) fun b O hm=>by have:=a5 b hm;omega),h.lt,h.ir⟩
theorem b1.al(h:b1 w g A n c T k deep)(O:Ext w ab):b1 ab g A n c T k deep:=h.on O fun _ h=>h.elim
theorem b1.tok(h:b1 w g A n c T k deep):∃(b o:Nat) (t:Tok),A=some ⟨b,o,none⟩∧b<g∧T[k]?=some t∧w.cell? ⟨b,o+k*4,none⟩=some (.int .i64 t.kind)∧w.cell? ⟨b,o+k*4+1,none⟩=some (.string (strOf t.text))∧w.cell? ⟨b,o+k*4+2,none⟩=some (.int .i64 t.num)∧w.cell? ⟨b,o+k*4+3,none⟩=some (.int .i64 t.pos):=by
 have hl:=h.qE.1;obtain⟨b,o,bb,O,hc⟩:=h.qE.2 (aB h.lt);have ap:k<T.length:=by have:=h.lt;omega
 have ht:T[k]?=some T[k]:=List.getElem?_eq_getElem ap;obtain⟨cs,rfl,_,ba⟩:=hc k _ ht;have c0:=ba 0 _ rfl;simp only[Gl] at c0;exact⟨b,o,_,bb,O,ht,c0,ba 1 _ rfl,ba 2 _ rfl,ba 3 _ rfl⟩
end
theorem Cz(a b:List UInt8):((strOf a).toList == (strOf b).toList)=decide (strOf a=strOf b):=by
 by_cases h:strOf a=strOf b
 ·rw[h];simp
 ·rw[qC h];simp[h]
namespace yi
theorem di(h:p:=by
 generalize ah:World.drew _=X;have av:Ext w X:=ah▸(GN.alloc _).drew;have aT:ag X w.heap.size 203 #[.int .i64 t.kind,.string (strOf t.text),.int .i64 t.num,.int .i64 t.pos]:=ah▸GO;have bh:=ae av;have cd:=(aT.al GN)
 obtain⟨a6,aL,aP⟩:=aT.two;obtain⟨a0,al,af⟩:=(show ag X g 195 _ from b9.al av).two;clear ah av aT cd;have H:(t.kind == 4 || t.kind == 3)=true→cj s T k=((strOf t.text).toList == (strOf s).toList):=fun h=>by rw[a8.o,h,Cz,Bool.true_and]
 have d:(t.kind == 4 || t.kind == 3)=false→cj s T k=false:=fun h=>by rw[a8.o,h,Bool.false_and]
 have bW:=ai H d;clear H d;by_cases bo:t.kind=4
 ·have c7:(t.kind == 4)=true:=by simpa using bo
  clear bo;go_wp2_with (fail);go_ret;exact⟨ret_bool (bW.1 (by simp[c7])).symm,bh.o⟩
 ·have c7:(t.kind == 4)=false:=by simpa using bo
  clear bo;by_cases aS:t.kind=3
  ·have cT:(t.kind == 3)=true:=by simpa using aS
   clear aS;go_wp2_with (fail);go_ret;exact⟨ret_bool (bW.1 (by simp[cT])).symm,bh.o⟩
  ·have cT:(t.kind == 3)=false:=by simpa using aS
   clear aS;go_wp2_with (fail);go_ret;exact⟨ret_bool (bW.2 (by simp[cT,c7])).symm,bh.o⟩
 ):p:=h
end yi
open yi in
theorem kq(s:List UInt8)(g:Nat)(A:GR)(n c:Nat)(T:List Tok)(k deep:Nat)(w:World)(h:b1 w g A n c T k deep) :
  Calls prog 112 #[.pointer (some ⟨g,0,none⟩),.string (strOf s)] w fun e ab=>e=.returned (.bool (cj s T k))∧Ext w ab:=by
 obtain⟨b,o,t,rfl,O,ht,c0,c1,c2,c3⟩:=h.tok;have ao:=h.lt;have E:=h.ir;have cc:=h.blk.lt;have aG:(0:Int)≤(k:Int):=ad;have bF:(k:Int)<(n:Int):=ad;have cl:b<w.heap.size:=ad;have f:cj s T k=((t.kind == 4 || t.kind == 3) && decide (strOf t.text=strOf s)):=by unfold cj;rw[ht]
 have a8:=ae f;obtain⟨a0,al,af⟩:=h.blk.two;have b9:=ae h.blk;clear h f ht;go_enter func112,ntmps112;go_upto_region 1 with(fail);refine eh (fun _=>False) [(0,3),(1,3),(2,3),(3,0),(4,3),(5,3),(6,3),(7,0),(8,3),(9,0),(10,1),(11,2)] ?_
 iterate 3 refine pf ?_
 refine ph ?_
 iterate 3 refine pf ?_
 refine ph ?_;refine pf ?_;refine ph ?_;refine uQ ?_;exact dN
theorem df(s:List UInt8)(g:Nat)(A:GR)(n c:Nat)(T:List Tok)(k deep:Nat)(w:World)(h:b1 w g A n c T k deep)(q:Bool)(bu:cj s T k=q)(ap:q=true→k+1<n) :
  Calls prog 114 #[.pointer (some ⟨g,0,none⟩),.string (strOf s)] w fun e ab=>e=.returned (.bool q)∧b1 ab g A n c T (if q=true then k+1 else k) deep∧Fr (fun b=>b=g) w ab:=by
 have H:=ae h;have bT:=ae bu;have ao:=h.lt;have E:=h.ir;clear h bu
 cases q with
 | false=>
  go_enter func114,ntmps114;go_wp2_with (fail);refine(kq s g A n c T k deep w H.o).mono ?_;rintro e aH ⟨rfl,av⟩;rw[bT.o];have H1:=ai (H.al av) av;clear av ap;go_wp2_with (fail);go_ret
  exact⟨rfl,by simpa using H1.1,H1.2.mono fun _ h=>h.elim⟩
 | true=>
  have az:=ap rfl;clear ap;go_enter func114,ntmps114;go_wp2_with (fail);refine(kq s g A n c T k deep w H.o).mono ?_;rintro e aH ⟨rfl,av⟩;rw[bT.o];have H1:=ai (H.al av) av;obtain⟨a0,al,af⟩:=H1.1.blk.two;clear av;go_wp2_with (fail);go_ret;have aw:Fr (fun b=>b=g) aH (aH.setCell ⟨g,1,none⟩ (.int .i64 ((k:Int)+1))):=(Fr.refl (fun b=>b=g) aH).setCell (.inl rfl) _;refine⟨rfl,⟨?_,H1.1.qE.d9 (aw.below (aB H1.1.blk.lt) fun b O hm=>ad),by simpa using az,E⟩,(H1.2.mono fun _ h=>h.elim).trans aw⟩;exact H1.1.blk.aH 1 (.int .i64 ((k:Int)+1))
theorem ly(s:List UInt8)(g:Nat)(A:GR)(n c:Nat)(T:List Tok)(k deep:Nat)(w:World)(h:b1 w g A n c T k deep)(bu:cj s T k=true)(ap:k+1<n) :
  Calls prog 141 #[.pointer (some ⟨g,0,none⟩),.string (strOf s)] w fun e ab=>e=.returned (.tuple #[])∧b1 ab g A n c T (k+1) deep∧Fr (fun b=>b=g) w ab:=by
 have H:=ae h;have bT:=ae bu;clear h bu;go_enter func141,ntmps141;go_wp2_with (fail);refine(df s g A n c T k deep w H.o true bT.o (fun _=>ap)).mono ?_;rintro e aH ⟨rfl,U,hF⟩;have H1:=ai U hF;clear U hF;go_wp2_with (fail);refine bodyPost_end (v:=.tuple #[]) (by simp[results,Tryz.results141,go_sem]) rfl ?_;exact⟨rfl,by simpa using H1.1,H1.2⟩
theorem m9(q:Int)(g:Nat)(A:GR)(n c:Nat)(T:List Tok)(k deep:Nat)(w:World)(h:b1 w g A n c T k deep) :
  Calls prog 111 #[.pointer (some ⟨g,0,none⟩),.int .i64 q] w fun e ab=>e=.returned (.bool (qD q T k))∧Ext w ab:=by
 obtain⟨b,o,t,rfl,O,ht,c0,c1,c2,c3⟩:=h.tok;have ao:=h.lt;have E:=h.ir;have cc:=h.blk.lt;have aG:(0:Int)≤(k:Int):=ad;have bF:(k:Int)<(n:Int):=ad;have cl:b<w.heap.size:=ad;have f:qD q T k=(t.kind == q):=by unfold qD;rw[ht]
 have a8:=ae f;obtain⟨a0,al,af⟩:=h.blk.two;clear h f ht;go_enter func111,ntmps111;go_upto_region 1 with(fail);refine eh (fun _=>False) [(0,3),(1,3),(2,3),(3,0),(4,3),(5,3),(6,3),(7,3),(8,3),(9,0),(10,3),(11,3),(12,3),(13,0),(14,3),(15,3),(16,0),(17,3),(18,3),(19,3),(20,3)] ?_
 iterate 3 refine pf ?_
 refine ph ?_
 iterate 5 refine pf ?_
 refine ph ?_
 iterate 3 refine pf ?_
 refine ph ?_
 iterate 2 refine pf ?_
 refine ph ?_
 iterate 4 refine pf ?_
 refine aD ?_;go_wp2_with (fail);go_ret;exact⟨ret_bool a8.symm,GN.drew⟩
theorem na(g:Nat)(A:GR)(n c:Nat)(T:List Tok)(k deep:Nat)(w:World)(t:Tok)(h:b1 w g A n c T k deep)(ht:T[k]?=some t)(bu:t.kind=1)(ap:k+1<n) :
  Calls prog 117 #[.pointer (some ⟨g,0,none⟩)] w fun e ab=>e=.returned (.string (strOf t.text))∧b1 ab g A n c T (k+1) deep∧Fr (fun b=>b=g) w ab:=by
 have H:=ae h;have d:qD 1 T k=true:=by unfold qD;rw[ht];simp[bu]
 have bT:=ae d;have P:=ae ht;have E:=h.ir;clear h d bu ht;go_enter func117,ntmps117;go_wp2_with (fail);refine(m9 1 g A n c T k deep w H.o).mono ?_;rintro e aH ⟨rfl,av⟩;rw[bT.o];have H1:=ai (H.al av) av;obtain⟨a0,al,af⟩:=H1.1.blk.two;clear av;go_upto_region 5 with(fail);generalize ah:World.setCell _ _ _=X;have aw:Fr (fun b=>b=g) aH X:=ah▸(Fr.refl (fun b=>b=g) aH).setCell (.inl rfl) _;have U:b1 X g A n c T (k+1) deep:=by
  rw[←ah];have aw:Fr (fun b=>b=g) aH (aH.setCell ⟨g,1,none⟩ (.int .i64 ((k:Int)+1))):=(Fr.refl (fun b=>b=g) aH).setCell (.inl rfl) _;exact⟨H1.1.blk.aH 1 (.int .i64 ((k:Int)+1)),H1.1.qE.d9 (aw.below (aB H1.1.blk.lt) fun b O hm=>ad),ap,E⟩
 have aU:=ai U ((H1.2.mono fun _ h=>h.elim).trans aw);obtain⟨b,o,f,rfl,O,j,c0,c1,c2,c3⟩:=H1.1.tok;have y:f=t:=by
  have:=P.o;rw[j] at this;injection this
 subst y;have cc:=U.blk.lt;have cl:b<X.heap.size:=ad;have aC:¬b=g:=ad;have c1:X.cell? ⟨b,o+k*4+1,none⟩=some (.string (strOf f.text)):=(aw.cell (aB H1.1.blk.lt) aC).trans c1;clear a0 al af c0 c2 c3 ah aw;obtain⟨a0,al,af⟩:=U.blk.two;have aG:(0:Int)≤(k:Int):=ad;have bF:(k:Int)<(n:Int):=ad;have i:(k:Int)≤4001:=ad;clear U j;refine eh (fun _=>False) [(0,3),(1,3),(2,3),(3,0),(4,3),(5,3),(6,3),(7,0),(8,3),(9,3),(10,3),(11,0),(12,3)] ?_
 iterate 3 refine pf ?_
 refine ph ?_
 iterate 3 refine pf ?_
 refine ph ?_;refine pf ?_;rw[show IntKind.i64.wrap ((k:Nat):Int)=(k:Int) from IntWalk.i64_in _ ad]
 iterate 2 refine pf ?_
 refine ph ?_;refine pf ?_;refine aD ?_;go_wp2_with (fail);go_ret;exact⟨rfl,aU.1.al GN.drew,aU.2.drew⟩
theorem Sl.ri{w:World}{A:GR}{n:Nat}{l:List Int}(h:Sl w P A n (l.map .i)){k:Nat}(ap:k<n):
  ∃b o x,A=some ⟨b,o,none⟩∧P b∧l[k]?=some x∧w.cell? ⟨b,o+k,none⟩=some (.int .i64 x):=by
 obtain⟨b,o,x,cs,bb,O,hx,aX,hl,hc⟩:=Sl.fJ (z:=1) h (fun _=>rfl) ap;simp only[D.rep] at aX;subst aX;exact⟨b,o,x,bb,O,hx,by have:=hc 0 _ rfl;simpa using this⟩
namespace za
theorem pW(h:p:=by
 go_enter func30,ntmps30;exact uk
 ):p:=h
end za
open za in
theorem gX(A A2:GR)(n c bl c2:Nat)(S T:List Int)(w:World)(hs:Sl w (au w) A n (S.map .i))(ht:Sl w (au w) A2 bl (T.map .i))(hn:n≤140737488355328) :
  Calls prog 30 #[.slice A n c,.slice A2 bl c2] w fun r ab=>r=.returned (.bool (decide (S=T)))∧Below w.heap.size w ab:=by
 have hl:S.length=n:=by have:=hs.1;simpa using this
 have bR:T.length=bl:=by have:=ht.1;simpa using this
 by_cases a2:n=bl
 case neg=>
  exact pV
 subst a2;have b0:=ae hl;have ak:=ae bR;clear hl bR;have a8:((n:Int) != (n:Int))=false:=by simp
 go_enter func30,ntmps30;go_wp2;go_loopw [5] (fun i wr=>∃k:Nat,k≤n∧i=.int .i64 k∧(∀j,j<k→S[j]?=T[j]?)∧Below w.heap.size w wr) (fun i _=>n - (intOf i).toNat)
 case atStart=>exact⟨0,Gz _,rfl,fun j ba=>absurd ba ad,Below.refl _ _⟩
 case round=>
  obtain⟨k,ap,rfl,cr,O⟩:=hrel;have aO:=ae cr;clear cr;by_cases ao:k<n
  ·obtain⟨b,o,x,rfl,U,hx,c0⟩:=(hs.on O).ri ao;obtain⟨K,V,d,rfl,g,a,a6⟩:=(ht.on O).ri ao;exact C2
  ·obtain rfl:k=n:=ad;exact ud
theorem vl(A:GR)(n c:Nat)(S:List Int)(bD:Int)(w:World)(hs:Sl w (au w) A n (S.map .i))(hn:n≤140737488355328) :
  Calls prog 109 #[.slice A n c,.int .i64 bD] w fun r ab=>r=.returned (.bool (decide (bD∈S)))∧Below w.heap.size w ab:=by
 have hl:S.length=n:=by have:=hs.1;simpa using this
 have b0:=ae hl;clear hl;go_enter func109,ntmps109;go_wp2;go_loopw [5] (fun i wr=>∃k:Nat,k≤n∧i=.int .i64 k∧(∀j,j<k→S[j]?≠some bD)∧Below w.heap.size w wr) (fun i _=>n - (intOf i).toNat)
 case atStart=>exact⟨0,Gz _,rfl,fun j ba=>absurd ba ad,Below.refl _ _⟩
 case round=>
  obtain⟨k,ap,rfl,cr,O⟩:=hrel;have aO:=ae cr;clear cr;by_cases ao:k<n
  ·obtain⟨b,o,x,rfl,U,hx,c0⟩:=(hs.on O).ri ao;have aG:(0:Int)≤(k:Int):=ad;have bF:(k:Int)<(n:Int):=ad;by_cases hd:x=bD
   ·have aZ:=ae (show decide (bD∈S)=true from decide_eq_true (hd▸Ge hx));have C:(x == bD)=true:=by simp[hd]
    clear hx hd;exact qS
   ·have aU:=ae (show S[k]?≠some bD by rw[hx];intro h;injection h with h;exact hd h);have C:(x == bD)=false:=by simp[hd]
    clear hx hd;go_wp2;go_roundw
    case rel=>
     refine⟨k+1,ad,by go_num,fun j ba=>?_,O⟩;by_cases u:j<k
     ·exact aO.o j u
     ·obtain rfl:j=k:=ad;exact aU.o
    case measure=>simp[intOf];omega
  ·obtain rfl:k=n:=ad;have aZ:=ae (show decide (bD∈S)=false from decide_eq_false (fun h=>by
    obtain⟨j,ba,he⟩:=List.mem_iff_getElem.1 h;exact aO.o j (aB b0.o) (by rw[List.getElem?_eq_getElem ba,he])))
   exact qS
theorem vy(bh:Int)(A:GR)(n c:Nat)(L:List Int)(p:bK)(q:List Value)(sl:Value)(w:World)(hs:Sl w (au w) A n (L.map .i))(hn:n≤140737488355328)(hp:p.param=true→0≤p.index∧p.index<n) :
  Calls prog 108 #[.agg #[.int .i64 bh,.slice A n c],.agg #[.bool p.param,.int .i64 p.index,sl]] w fun r ab=>r=.returned (.int .i64 (if p.param then L.getD p.index.toNat 0 else p.index))∧Ext w ab:=by
 obtain⟨pm,i,a⟩:=p;simp only at hp ⊢;cases pm
 ·go_enter func108,ntmps108;go_wp2;go_ret;exact⟨rfl,(GN.alloc _).alloc _⟩
 ·obtain⟨h0,ac⟩:=hp rfl;obtain⟨k,rfl⟩:=Gg h0;have ap:k<n:=ad;obtain⟨b,o,x,rfl,U,hx,c0⟩:=hs.ri ap;have aU:=ae (show L.getD (Int.toNat k) 0=x by rw[List.getD_eq_getElem?_getD,Gy,hx];rfl);clear hx;suffices aj:Calls prog 108 #[.agg #[.int .i64 bh,.slice (some ⟨b,o,none⟩) n c],.agg #[.bool true,.int .i64 (k:Int),sl]] w fun r ab=>r=.returned (.int .i64 x)∧Ext w ab from
   aj.mono fun e aH ac=>⟨ac.1.trans (by rw[←aU.o];simp),ac.2⟩
  go_enter func108,ntmps108;go_wp2;go_ret;exact⟨rfl,(GN.alloc _).alloc _⟩
structure gJ where
 proc:Int
 av:List Int
def eM(i:gJ):D:=.st [.i i.proc,.sl (i.av.map .i)]
theorem jz{w:World}{i:gJ}:(eM i).rep w P cs↔∃A c n,cs=[.int .i64 i.proc,.slice A n c]∧n≤c∧Sl w P A n (i.av.map .i):=by
 unfold eM;simp only[D.rep];rw[a9];constructor
 ·rintro⟨f,rfl,h⟩;obtain⟨A,n,c,y,rfl,hc,hs,a3⟩:=aJ.1 h;rw[aM] at a3;subst a3;exact⟨A,c,n,rfl,hc,hs⟩
 ·rintro⟨A,c,n,rfl,hc,hs⟩;exact r9
theorem Sl.s4{w:World}{A:GR}{n:Nat}{l:List gJ}(h:Sl w P A n (l.map eM)){k:Nat}(ap:k<n):
  ∃b o x b4 b2 cu,A=some ⟨b,o,none⟩∧P b∧l[k]?=some x∧w.cell? ⟨b,o+k*2,none⟩=some (.int .i64 x.proc)∧w.cell? ⟨b,o+k*2+1,none⟩=some (.slice b4 b2 cu)∧b2≤cu∧Sl w P b4 b2 (x.av.map .i):=by
 obtain⟨b,o,x,cs,bb,O,hx,aX,hl,hc⟩:=Sl.fJ (z:=2) h (fun _=>rfl) ap;obtain⟨b4,cu,b2,rfl,ac,J⟩:=jz.1 aX;exact⟨b,o,x,b4,b2,cu,bb,O,hx,hc 0 _ rfl,hc 1 _ rfl,ac,J⟩
namespace zb
theorem h6(h:p:=by
 refine pf ?_;refine aD ?_;go_wp2_with (fail);go_roundw
 case rel=>exact⟨k+1,ad,by go_num,bp.drew⟩
 case measure=>simp[intOf];omega
 ):p:=h
theorem xt(h:p:=by
 exact h5
 ):p:=h
end zb
open zb in
theorem nY(IA:GR)(n ic:Nat)(aV:GR)(ct bX:Nat)(bH:GR)(cm rc:Nat)(L:List gJ)(x:gJ)(b4:GR)(b2 cu:Nat)(w:World)
  (ca:Sl w (au w) IA n (L.map eM)) (hx:Sl w (au w) b4 b2 (x.av.map .i)) (hn:n≤1000000) (ap:∀i∈L,i.av.length≤1000000) :
  Calls prog 80 #[.agg #[.slice IA n ic,.slice aV ct bX,.slice bH cm rc],.agg #[.int .i64 x.proc,.slice b4 b2 cu]] w fun e ab=>∃r:Int,e=.returned (.int .i64 r)∧-1≤r∧r<n∧Ext w ab:=by
 have b0:=ae ca;have aU:=ae hx;have cI:=ae ap;obtain⟨ek,c8⟩:=x;simp only at aU ⊢;clear ca hx ap;go_enter func80,ntmps80;go_wp2_with (fail);generalize bg:World.alloc _ _=W;have av:Ext w W:=bg▸(GN.alloc _).alloc _;have aT:ag W w.heap.size 34 #[.slice IA n ic,.slice aV ct bX,.slice bH cm rc]:=bg▸(GO).alloc _;have bD:ag W (w.heap.size+1) 155 #[.int .i64 ek,.slice b4 b2 cu]:=bg▸ag.bR _ _ _ (by simp);have bh:=ae av;have a4:=ae aT;have bk:=ae bD;clear bg av aT bD;go_loopw [5] (fun i wr=>∃k:Nat,k≤n∧i=.int .i64 k∧Ext W wr) (fun i _=>n - (intOf i).toNat)
 case atStart=>exact⟨0,Gz _,rfl,GN⟩
 case round=>
  obtain⟨k,ap,rfl,he⟩:=hrel;have bp:=ae he;have bQ:=a4.al he;have bt:=bk.al he;have G:=ae bQ;have d:=ae bt;obtain⟨a0,al,af⟩:=bQ.two;obtain⟨a7,am,aE⟩:=bt.two;clear he bQ bt;by_cases ao:k<n
  ·obtain⟨b,o,y,aS,cM,cE,rfl,U,a3,c0,c1,cQ,cF⟩:=(b0.on (Fr.ext (bh.trans bp.o))).s4 ao;obtain⟨c,f⟩:=y;simp only at c0 cF;have aZ:cM≤140737488355328:=by have:=cI.o _ (Ge a3);have:=cF.1;simp at this;simp at *;omega
   have aG:(0:Int)≤(k:Int):=ad;have bF:(k:Int)<(n:Int):=ad;have cT:=ae cF;have cX:=ae (aU.on (Fr.ext (bh.trans bp.o)));have a:=ae aZ;clear a3 cF aZ cQ;by_cases hp:c=ek
   ·have cf:(c == ek)=true:=by simp[hp]
    clear hp;go_upto_region 4 with(fail);refine eh (fun _=>False) [(0,3),(1,0),(2,3),(3,3),(4,3),(5,0),(6,3),(7,0),(8,3),(9,3),(10,3),(11,0),(12,3),(13,3),(14,3),(15,0),(16,3),(17,0),(18,2),(19,3)] ?_;refine pf ?_;refine ph ?_
    iterate 3 refine pf ?_
    refine ph ?_;refine pf ?_;refine ph ?_
    iterate 3 refine pf ?_
    refine ph ?_
    iterate 3 refine pf ?_
    refine ph ?_;refine pf ?_;refine ph ?_;refine ax rfl (fun K hK=>?_);go_simp;refine(gX aS b4 cM cE b2 cu f c8 wr.drew (cT.on (Fr.ext GN.drew)) (cX.on (Fr.ext GN.drew)) a.o).mono ?_;rintro e aH ⟨rfl,ar⟩;have aW:=ae (bp.trans (Fr.aE (Fr.of ar)));clear ar a0 al af a7 am aE c0 c1;generalize decide (f=c8)=q;refine hK _ _ ?_;clear hK K
    try simp only[PU]
    refine pf ?_;refine aD ?_;cases q
    ·go_wp2_with (fail);go_roundw
     case rel=>exact⟨k+1,ad,by go_num,aW.o⟩
     case measure=>simp[intOf];omega
    ·go_wp2_with (fail);go_ret;exact⟨k,rfl,ad,ad,bh.trans aW.o⟩
   ·have cf:(c == ek)=false:=by simp[hp]
    clear hp;go_upto_region 4 with(fail);refine eh (fun _=>False) [(0,3),(1,0),(2,3),(3,3),(4,3),(5,0),(6,3),(7,0),(8,3),(9,3),(10,3),(11,0),(12,3),(13,3),(14,3),(15,0),(16,3),(17,0),(18,2),(19,3)] ?_;refine pf ?_;refine ph ?_
    iterate 3 refine pf ?_
    refine ph ?_;refine pf ?_;refine ph ?_
    iterate 2 refine pf ?_
    refine cY rfl (by rfl) ?_
    try simp only[PU]
    refine g7 rfl (by rfl) ?_;exact xr
  ·obtain rfl:k=n:=ad;go_wp2_with (fail);go_ret;exact⟨-1,rfl,ad,ad,bh.trans bp.o⟩
structure CN(w:World)(P:Nat→Prop)(x:aC)(cs:List Value)(eo en:Int)(es:ByteArray)(EA:GR)(em ec:Nat)(QA:GR)(qm qc:Nat)(IA:GR)(i ic:Nat)(KA:GR)(k kc:Nat):Prop where
 cells:cs=[.int .i64 x.op,.int .i64 x.target,.bool x.da,.int .i64 eo,.int .i64 en,.string es,.slice EA em ec,.bool x.place.param,.int .i64 x.place.index,.slice QA qm qc,.slice IA i ic,.slice KA k kc]
 expr:(mR x.expr).rep w P [.int .i64 eo,.int .i64 en,.string es,.slice EA em ec]
 place:(cV x.place).rep w P [.bool x.place.param,.int .i64 x.place.index,.slice QA qm qc]
 ints:Sl w P IA i (x.ints.map a4)
 D8:i≤ic
 places:Sl w P KA k (x.places.map cV)
 Eb:k≤kc
theorem sU{w:World}{x:aC}(h:(dK x).rep w P cs):∃eo en es EA em ec QA qm qc IA i ic KA k kc,CN w P x cs eo en es EA em ec QA qm qc IA i ic KA k kc:=by
 unfold dK at h;rw[bw,a9] at h;obtain⟨y,rfl,h⟩:=h;rw[a9] at h;obtain⟨y,rfl,h⟩:=h;rw[eE] at h;obtain⟨y,rfl,h⟩:=h;simp only[D.aL] at h;obtain⟨ce,bu,rfl,he,c,bA,rfl,hp,ci,I,rfl,aJ,b,a,rfl,ap,rfl⟩:=h;obtain⟨eo,en,es,EA,em,ec,rfl⟩:=nU he;obtain⟨QA,qm,qc,rfl,_,_⟩:=dY.1 hp;obtain⟨IA,ic,i,rfl,Z,aJ⟩:=D.qz.1 aJ;obtain⟨KA,kc,k,rfl,aX,ap⟩:=D.qz.1 ap;exact⟨eo,en,es,EA,em,ec,QA,qm,qc,IA,i,ic,KA,k,kc,rfl,he,hp,aJ,Z,ap,aX⟩
theorem Ao(p:c5):(fm p).sz=5:=rfl
theorem q4{w:World}{p:c5}(h:(fm p).rep w P cs):∃A n c,cs=[.string p.name,.int .i64 p.ints,.int .i64 p.av,.int .i64 p.locals,.slice A n c]∧n≤c∧Sl w P A n (p.code.map dK):=by
 unfold fm at h;rw[bw,ca] at h;obtain⟨y,rfl,h⟩:=h;exact Dk
structure gv(w:World)(P:Nat→Prop)(u:aF)(GA:GR)(gn:Nat)(MA:GR)(mn:Nat)(PA:GR)(pn:Nat):Prop where
 g:Sl w P GA gn (u.globals.map .i)
 m:Sl w P MA mn (u.af.map d4)
 p:Sl w P PA pn (u.procs.map fm)
theorem kE{w:World}(h:(q5 u).rep w P cs):∃GA gn gc MA mn mc PA pn pc,cs=[.slice GA gn gc,.slice MA mn mc,.slice PA pn pc,.int .i64 u.main]∧gn≤gc∧mn≤mc∧pn≤pc∧gv w P u GA gn MA mn PA pn:=by
 unfold q5 at h;rw[bw] at h;obtain⟨A,n,c,y,rfl,hc,hs,h⟩:=aJ.1 h;obtain⟨A2,bl,c2,bu,rfl,ce,bK,h⟩:=aJ.1 h;obtain⟨cl,cn,c3,bA,rfl,aW,cB,h⟩:=aJ.1 h;obtain⟨I,rfl,bo⟩:=a9.1 h;rw[aM] at bo;subst bo;exact⟨A,n,c,A2,bl,c2,cl,cn,c3,rfl,hc,ce,aW,hs,bK,cB⟩
theorem gv.on{w ab:World}{u:aF}{GA:GR}{gn:Nat}{MA:GR}{mn:Nat}{PA:GR}{pn:Nat}(h:gv w (au w) u GA gn MA mn PA pn)(he:Ext w ab):gv ab (au ab) u GA gn MA mn PA pn:=
 ⟨h.g.on (Fr.ext he),h.m.on (Fr.ext he),h.p.on (Fr.ext he)⟩
theorem gv.proc{w:World}{GA:GR}{gn:Nat}{MA:GR}{mn:Nat}{PA:GR}{pn:Nat}(h:gv w P u GA gn MA mn PA pn){k:Nat}(ap:k<pn):
  ∃b o p aV n c,PA=some ⟨b,o,none⟩∧P b∧u.procs[k]?=some p∧w.cell? ⟨b,o+k*5,none⟩=some (.string p.name)∧w.cell? ⟨b,o+k*5+1,none⟩=some (.int .i64 p.ints)∧w.cell? ⟨b,o+k*5+2,none⟩=some (.int .i64 p.av)∧
   w.cell? ⟨b,o+k*5+3,none⟩=some (.int .i64 p.locals)∧w.cell? ⟨b,o+k*5+4,none⟩=some (.slice aV n c)∧n≤c∧Sl w P aV n (p.code.map dK):=by
 obtain⟨b,o,p,cs,bb,O,hp,aX,hl,hc⟩:=Sl.fJ (z:=5) h.p Ao ap;obtain⟨aV,n,c,rfl,ac,J⟩:=q4 aX;exact⟨b,o,p,aV,n,c,bb,O,hp,hc 0 _ rfl,hc 1 _ rfl,hc 2 _ rfl,hc 3 _ rfl,hc 4 _ rfl,ac,J⟩
theorem Sl.AE{w:World}{A:GR}{n:Nat}{l:List aC}(h:Sl w P A n (l.map dK)){k:Nat}(ap:k<n):
  ∃b o x cs eo en es EA em ec QA qm qc IA i ic KA m mc,A=some ⟨b,o,none⟩∧P b∧l[k]?=some x∧CN w P x cs eo en es EA em ec QA qm qc IA i ic KA m mc∧∀j v,cs[j]?=some v→w.cell? ⟨b,o+k*12+j,none⟩=some v:=by
 obtain⟨b,o,x,cs,bb,O,hx,aX,hl,hc⟩:=Sl.fJ (z:=12) h k6 ap;obtain⟨eo,en,es,EA,em,ec,QA,qm,qc,IA,i,ic,KA,m,mc,aJ⟩:=sU aX;exact⟨b,o,x,cs,eo,en,es,EA,em,ec,QA,qm,qc,IA,i,ic,KA,m,mc,bb,O,hx,aJ,hc⟩
theorem Sl.qu{w:World}{A:GR}{n:Nat}{l:List bK}(h:Sl w P A n (l.map cV)){k:Nat}(ap:k<n):
  ∃b o x QA m c,A=some ⟨b,o,none⟩∧P b∧l[k]?=some x∧w.cell? ⟨b,o+k*3,none⟩=some (.bool x.param)∧w.cell? ⟨b,o+k*3+1,none⟩=some (.int .i64 x.index)∧w.cell? ⟨b,o+k*3+2,none⟩=some (.slice QA m c)∧m≤c∧Sl w P QA m (x.at_.toList.map a4):=by
 obtain⟨b,o,x,cs,bb,O,hx,aX,hl,hc⟩:=Sl.fJ (z:=3) h (fun _=>rfl) ap;obtain⟨QA,m,c,rfl,ac,J⟩:=dY.1 aX;exact⟨b,o,x,QA,m,c,bb,O,hx,hc 0 _ rfl,hc 1 _ rfl,hc 2 _ rfl,ac,J⟩
def kG(u:aF)(i:gJ):Prop:=∃p,0≤i.proc∧u.procs[i.proc.toNat]?=some p∧(i.av.length:Int)=p.av
end Go.Proofs.YtjhgbdckgkppnaaGreat

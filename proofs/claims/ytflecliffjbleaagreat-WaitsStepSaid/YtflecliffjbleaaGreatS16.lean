/- Part 16 of the proof. No condition of its own. -/
import Derived.Test.YtflecliffjbleaaGreatS12
import Derived.Test.YtflecliffjbleaaGreatS15
namespace Go.Proofs.YtflecliffjbleaaGreat
open Go.RowKit Go.Proofs.Tryz
set_option maxRecDepth 1000000
set_option maxHeartbeats 25600000
set_option linter.unusedVariables false
variable{cs:List Value}{P:Nat->Prop}{p:Prop}{u:aw}
def b3(s:List UInt8)(T:List Tok)(k:Nat):Bool:=match T[k]? with
 | some t=>(t.kind == 4 || t.kind == 3) && decide (strOf t.text=strOf s)
 | none=>false
def tE(q:Int)(T:List Tok)(k:Nat):Bool:=match T[k]? with
 | some t=>t.kind == q
 | none=>false
structure bG(w:World)(g:Nat)(A:Mk)(n c:Nat)(T:List Tok)(k deep:Nat):Prop where
 blk:ao w g 123 #[.slice A n c,.int .i64 k,.int .i64 0,.int .i64 0,.int .i64 0,.int .i64 deep]
 tF:cA (EF rp) 4 w g A n T
 lt:k<n
 jf:n<=4001
section
variable {w ab:World} {g:Nat} {A:Mk} {n c:Nat} {T:List Tok} {k deep:Nat}
theorem bG.on{M:Nat->Prop}(h:bG w g A n c T k deep)(O:Fr M w ab)(hM:∀b,M b->g<b):bG ab g A n c T k deep:=
 ⟨h.blk.on O λhm=>by have:=hM g hm;omega,h.tF.fH (O.below (aB h.blk.lt) λb O hm=>by have:=hM b hm;omega),h.lt,h.jf⟩
theorem bG.aj(h:bG w g A n c T k deep)(O:Ext w ab):bG ab g A n c T k deep:=h.on O λ_ h=>h.elim
theorem bG.tok(h:bG w g A n c T k deep):∃(b o:Nat) (t:Tok),A=some ⟨b,o,none⟩/\b<g/\T[k]?=some t/\w.cell? ⟨b,o+k*4,none⟩=some (.int .i64 t.kind)/\w.cell? ⟨b,o+k*4+1,none⟩=some (.string (strOf t.text))/\w.cell? ⟨b,o+k*4+2,none⟩=some (.int .i64 t.num)/\w.cell? ⟨b,o+k*4+3,none⟩=some (.int .i64 t.pos):=by
 have hl:=h.tF.1;obtain⟨b,o,bO,O,hc⟩:=h.tF.2 (aB h.lt);have aj:k<T.length:=by have:=h.lt;omega
 have ht:T[k]?=some T[k]:=List.getElem?_eq_getElem aj;obtain⟨cs,rfl,_,bi⟩:=hc k _ ht;have c0:=bi 0 _ rfl;simp only[LM] at c0;exact⟨b,o,_,bO,O,ht,c0,bi 1 _ rfl,bi 2 _ rfl,bi 3 _ rfl⟩
end
theorem GC(a b:List UInt8):((strOf a).toList == (strOf b).toList)=decide (strOf a=strOf b):=by
 by_cases h:strOf a=strOf b
 .rw[h];simp
 .rw[tD h];simp[h]
namespace CM
theorem dd(h:p:=by
 generalize hX:World.drew _=X;have aF:=hh hX;have aS:=lP hX;have bj:=ae aF;have bO:=(aS.aj Mg)
 obtain⟨d0,aK,aO⟩:=aS.two;obtain⟨a0,ak,af⟩:=(show ao X g 123 _ from cj.aj aF).two;clear hX aF aS bO;have ia:(t.kind == 4 || t.kind == 3)=true->b3 s T k=((strOf t.text).toList == (strOf s).toList):=λh=>by rw[bM.o,h,GC,Bool.true_and]
 have d:(t.kind == 4 || t.kind == 3)=false->b3 s T k=false:=λh=>by rw[bM.o,h,Bool.false_and]
 have bT:=ah ia d;clear ia d;by_cases aU:t.kind=4
 .have db:(t.kind == 4)=true:=by simpa using aU
  clear aU;go_wp2_with(fail);go_ret;exact⟨ret_bool (bT.1 (by simp[db])).symm,bj.o⟩
 .have db:(t.kind == 4)=false:=by simpa using aU
  clear aU;by_cases a1:t.kind=3
  .have da:(t.kind == 3)=true:=by simpa using a1
   clear a1;go_wp2_with(fail);go_ret;exact⟨ret_bool (bT.1 (by simp[da])).symm,bj.o⟩
  .have da:(t.kind == 3)=false:=by simpa using a1
   clear a1;go_wp2_with(fail);go_ret;exact⟨ret_bool (bT.2 (by simp[da,db])).symm,bj.o⟩
 ):p:=h
end CM
open CM in
theorem lV(s:List UInt8)(g:Nat)(A:Mk)(n c:Nat)(T:List Tok)(k deep:Nat)(w:World)(h:bG w g A n c T k deep) :
  Calls prog 60 #[.pointer (some ⟨g,0,none⟩),.string (strOf s)] w λe ab=>e=.returned (.bool (b3 s T k))/\Ext w ab:=by
 obtain⟨b,o,t,rfl,O,ht,c0,c1,c2,c3⟩:=h.tok;have ap:=h.lt;have L:=h.jf;have cu:=h.blk.lt;have bm:(0:Int)<=(k:Int):=ad;have b7:(k:Int)<(n:Int):=ad;have cO:b<w.heap.size:=ad;have f:b3 s T k=((t.kind == 4 || t.kind == 3) && decide (strOf t.text=strOf s)):=by unfold b3;rw[ht]
 have bM:=ae f;obtain⟨a0,ak,af⟩:=h.blk.two;have cj:=ae h.blk;clear h f ht;go_enter func60,ntmps60;go_upto_region 1 with(fail);refine eK (λ_=>False) [(0,3),(1,3),(2,3),(3,0),(4,3),(5,3),(6,3),(7,0),(8,3),(9,0),(10,1),(11,2)] ?_
 iterate 3 refine pf ?_
 refine ph ?_
 iterate 3 refine pf ?_
 refine ph ?_;refine pf ?_;refine ph ?_;refine ry ?_;exact eM
theorem cG(s:List UInt8)(g:Nat)(A:Mk)(n c:Nat)(T:List Tok)(k deep:Nat)(w:World)(h:bG w g A n c T k deep)(q:Bool)(bv:b3 s T k=q)(aj:q=true->k+1<n) :
  Calls prog 62 #[.pointer (some ⟨g,0,none⟩),.string (strOf s)] w λe ab=>e=.returned (.bool q)/\bG ab g A n c T (if q=true then k+1 else k) deep/\Fr (λb=>b=g) w ab:=by
 obtain⟨H,bS⟩:=aH h bv;have ap:=h.lt;have L:=h.jf;clear h bv
 cases q with
 | false=>
  go_enter func62,ntmps62;go_wp2_with(fail);refine(lV s g A n c T k deep w H.o).mono ?_;rintro e aP ⟨rfl,aF⟩;rw[bS.o];have H1:=ah (H.aj aF) aF;clear aF aj;go_wp2_with(fail);go_ret
  exact⟨rfl,by simpa using H1.1,H1.2.mono λ_ h=>h.elim⟩
 | true=>
  have cK:=aj rfl;clear aj;go_enter func62,ntmps62;go_wp2_with(fail);refine(lV s g A n c T k deep w H.o).mono ?_;rintro e aP ⟨rfl,aF⟩;rw[bS.o];have H1:=ah (H.aj aF) aF;obtain⟨a0,ak,af⟩:=H1.1.blk.two;clear aF;go_wp2_with(fail);go_ret;have J:Fr (λb=>b=g) aP (aP.setCell ⟨g,1,none⟩ (.int .i64 ((k:Int)+1))):=(Fr.refl (λb=>b=g) aP).setCell (.inl rfl) _;refine⟨rfl,⟨?_,H1.1.tF.fH (J.below (aB H1.1.blk.lt) λb O hm=>ad),by simpa using cK,L⟩,(H1.2.mono λ_ h=>h.elim).trans J⟩;exact H1.1.blk.aJ 1 (.int .i64 ((k:Int)+1))
theorem kd(s:List UInt8)(g:Nat)(A:Mk)(n c:Nat)(T:List Tok)(k deep:Nat)(w:World)(h:bG w g A n c T k deep)(bv:b3 s T k=true)(aj:k+1<n) :
  Calls prog 106 #[.pointer (some ⟨g,0,none⟩),.string (strOf s)] w λe ab=>e=.returned (.tuple #[])/\bG ab g A n c T (k+1) deep/\Fr (λb=>b=g) w ab:=by
 obtain⟨H,bS⟩:=aH h bv;clear h bv;go_enter func106,ntmps106;go_wp2_with(fail);refine(cG s g A n c T k deep w H.o true bS.o (λ_=>aj)).mono ?_;rintro e aP ⟨rfl,be,hF⟩;have H1:=ah be hF;clear be hF;go_wp2_with(fail);refine bodyPost_end (v:=.tuple #[]) (by simp[results,Tryz.results106,go_sem]) rfl ?_;exact⟨rfl,by simpa using H1.1,H1.2⟩
theorem pw(q:Int)(g:Nat)(A:Mk)(n c:Nat)(T:List Tok)(k deep:Nat)(w:World)(h:bG w g A n c T k deep) :
  Calls prog 59 #[.pointer (some ⟨g,0,none⟩),.int .i64 q] w λe ab=>e=.returned (.bool (tE q T k))/\Ext w ab:=by
 obtain⟨b,o,t,rfl,O,ht,c0,c1,c2,c3⟩:=h.tok;have ap:=h.lt;have L:=h.jf;have cu:=h.blk.lt;have bm:(0:Int)<=(k:Int):=ad;have b7:(k:Int)<(n:Int):=ad;have cO:b<w.heap.size:=ad;have f:tE q T k=(t.kind == q):=by unfold tE;rw[ht]
 have bM:=ae f;obtain⟨a0,ak,af⟩:=h.blk.two;clear h f ht;go_enter func59,ntmps59;go_upto_region 1 with(fail);refine eK (λ_=>False) [(0,3),(1,3),(2,3),(3,0),(4,3),(5,3),(6,3),(7,3),(8,3),(9,0),(10,3),(11,3),(12,3),(13,0),(14,3),(15,3),(16,0),(17,3),(18,3),(19,3),(20,3)] ?_
 iterate 3 refine pf ?_
 refine ph ?_
 iterate 5 refine pf ?_
 refine ph ?_
 iterate 3 refine pf ?_
 refine ph ?_
 iterate 2 refine pf ?_
 refine ph ?_
 iterate 4 refine pf ?_
 refine aC ?_;go_wp2_with(fail);go_ret;exact⟨ret_bool bM.symm,Mg.drew⟩
theorem m4(g:Nat)(A:Mk)(n c:Nat)(T:List Tok)(k deep:Nat)(w:World)(t:Tok)(h:bG w g A n c T k deep)(ht:T[k]?=some t)(bv:t.kind=1)(aj:k+1<n) :
  Calls prog 65 #[.pointer (some ⟨g,0,none⟩)] w λe ab=>e=.returned (.string (strOf t.text))/\bG ab g A n c T (k+1) deep/\Fr (λb=>b=g) w ab:=by
 have H:=ae h;have d:tE 1 T k=true:=by unfold tE;rw[ht];simp[bv]
 obtain⟨bS,Q⟩:=aH d ht;have L:=h.jf;clear h d bv ht;go_enter func65,ntmps65;go_wp2_with(fail);refine(pw 1 g A n c T k deep w H.o).mono ?_;rintro e aP ⟨rfl,aF⟩;rw[bS.o];have H1:=ah (H.aj aF) aF;obtain⟨a0,ak,af⟩:=H1.1.blk.two;clear aF;go_upto_region 5 with(fail);generalize hX:World.setCell _ _ _=X;have J:=cJ hX;have be:bG X g A n c T (k+1) deep:=by
  rw[<-hX];have J:Fr (λb=>b=g) aP (aP.setCell ⟨g,1,none⟩ (.int .i64 ((k:Int)+1))):=(Fr.refl (λb=>b=g) aP).setCell (.inl rfl) _;exact⟨H1.1.blk.aJ 1 (.int .i64 ((k:Int)+1)),H1.1.tF.fH (J.below (aB H1.1.blk.lt) λb O hm=>ad),aj,L⟩
 have aR:=ah be ((H1.2.mono λ_ h=>h.elim).trans J);obtain⟨b,o,m,rfl,O,i,c0,c1,c2,c3⟩:=H1.1.tok;have P:m=t:=by
  have:=Q.o;rw[i] at this;injection this
 subst P;have cu:=be.blk.lt;have cO:b<X.heap.size:=ad;have eh:¬b=g:=ad;have c1:X.cell? ⟨b,o+k*4+1,none⟩=some (.string (strOf m.text)):=(J.cell (aB H1.1.blk.lt) eh).trans c1;clear a0 ak af c0 c2 c3 hX J;obtain⟨a0,ak,af⟩:=be.blk.two;have bm:(0:Int)<=(k:Int):=ad;have b7:(k:Int)<(n:Int):=ad;have f:(k:Int)<=4001:=ad;clear be i;refine eK (λ_=>False) [(0,3),(1,3),(2,3),(3,0),(4,3),(5,3),(6,3),(7,0),(8,3),(9,3),(10,3),(11,0),(12,3)] ?_
 iterate 3 refine pf ?_
 refine ph ?_
 iterate 3 refine pf ?_
 refine ph ?_;refine pf ?_;rw[show IntKind.i64.wrap ((k:Nat):Int)=(k:Int) from IntWalk.i64_in _ ad]
 iterate 2 refine pf ?_
 refine ph ?_;refine pf ?_;refine aC ?_;go_wp2_with(fail);go_ret;exact⟨rfl,aR.1.aj Mg.drew,aR.2.drew⟩
structure h7 where
 proc:Int
 ax:List Int
def fM(i:h7):D:=.st [.i i.proc,.sl (i.ax.map .i)]
theorem kK{w:World}{i:h7}:(fM i).rep w P cs↔∃A c n,cs=[.int .i64 i.proc,.slice A n c]/\n<=c/\Sl w P A n (i.ax.map .i):=by
 unfold fM;simp only[D.rep];rw[bf];constructor
 .rintro⟨f,rfl,h⟩;obtain⟨A,n,c,y,rfl,hc,hs,bb⟩:=aL.1 h;rw[aQ] at bb;subst bb;exact⟨A,c,n,rfl,hc,hs⟩
 .rintro⟨A,c,n,rfl,hc,hs⟩;exact vH
theorem Sl.wD{w:World}{A:Mk}{n:Nat}{l:List h7}(h:Sl w P A n (l.map fM)){k:Nat}(aj:k<n):
  ∃b o x cr cd cC,A=some ⟨b,o,none⟩/\P b/\l[k]?=some x/\w.cell? ⟨b,o+k*2,none⟩=some (.int .i64 x.proc)/\w.cell? ⟨b,o+k*2+1,none⟩=some (.slice cr cd cC)/\cd<=cC/\Sl w P cr cd (x.ax.map .i):=by
 obtain⟨b,o,x,cs,bO,O,hx,a9,hl,hc⟩:=Sl.g9 (z:=2) h (λ_=>rfl) aj;obtain⟨cr,cC,cd,rfl,ac,ax⟩:=kK.1 a9;exact⟨b,o,x,cr,cd,cC,bO,O,hx,hc 0 _ rfl,hc 1 _ rfl,ac,ax⟩
namespace B7
theorem Bi(h:p:=by
 refine au rfl (λK hK=>?_);go_simp;refine dU hK ?_;clear hK K;refine pf ?_;refine aC ?_;go_wp2_with(fail);go_roundw
 case rel=>exact⟨k+1,ad,by go_num,bu.drew⟩
 case measure=>exact aE
 ):p:=h
end B7
open B7 in
theorem qh(IA:Mk)(n ic:Nat)(S:Mk)(cx br:Nat)(cc:Mk)(bZ rc:Nat)(L:List h7)(x:h7)(cr:Mk)(cd cC:Nat)(w:World)
  (bw:Sl w (av w) IA n (L.map fM)) (hx:Sl w (av w) cr cd (x.ax.map .i)) (hn:n<=1000000) (aj:∀i∈L,i.ax.length<=1000000) :
  Calls prog 98 #[.agg #[.slice IA n ic,.slice S cx br,.slice cc bZ rc],.agg #[.int .i64 x.proc,.slice cr cd cC]] w λe ab=>∃r:Int,e=.returned (.int .i64 r)∧-1<=r/\r<n/\Ext w ab:=by
 obtain⟨b2,aR,cK⟩:=eS bw hx aj;obtain⟨eB,dl⟩:=x;simp only at aR ⊢;clear bw hx aj;go_enter func98,ntmps98;go_wp2_with(fail);generalize bd:World.alloc _ _=W;have aF:=hi bd;have aS:=fx bd;have bV:=eX bd;obtain⟨bj,bH,b9⟩:=eS aF aS bV;clear bd aF aS bV;go_loopw [5] (λi wr=>∃k:Nat,k<=n/\i=.int .i64 k/\Ext W wr) (λi _=>n - (intOf i).toNat)
 case atStart=>exact⟨0,L3 _,rfl,Mg⟩
 case round=>
  obtain⟨k,aj,rfl,he⟩:=hrel;have bu:=ae he;have bX:=bH.aj he;have bg:=b9.aj he;obtain⟨G,j⟩:=aH bX bg;obtain⟨a0,ak,af⟩:=bX.two;obtain⟨a8,am,aJ⟩:=bg.two;clear he bX bg;by_cases ap:k<n
  .obtain⟨b,o,y,cY,c5,c6,rfl,an,bb,c0,c1,bO,bl⟩:=(b2.on (Fr.ext (bj.trans bu.o))).wD ap;obtain⟨g,l⟩:=y;simp only at c0 bl;have d:c5<=140737488355328:=by have:=cK.o _ (LF bb);have:=bl.1;simp at this;simp at *;omega
   have bm:(0:Int)<=(k:Int):=ad;have b7:(k:Int)<(n:Int):=ad;have da:=ae bl;have dh:=ae (aR.on (Fr.ext (bj.trans bu.o)));have f:=ae d;clear bb bl d bO;by_cases hp:g=eB
   .have ci:(g == eB)=true:=by simp[hp]
    clear hp;go_upto_region 4 with(fail);refine eK (λ_=>False) [(0,3),(1,0),(2,3),(3,3),(4,3),(5,0),(6,3),(7,0),(8,3),(9,3),(10,3),(11,0),(12,3),(13,3),(14,3),(15,0),(16,3),(17,0),(18,2),(19,3)] ?_;refine pf ?_;refine ph ?_
    iterate 3 refine pf ?_
    refine ph ?_;refine pf ?_;refine ph ?_
    iterate 3 refine pf ?_
    refine ph ?_
    iterate 3 refine pf ?_
    refine ph ?_;refine pf ?_;refine ph ?_;refine au rfl (λK hK=>?_);go_simp;refine(kf cY cr c5 c6 cd cC l dl wr.drew (da.on (Fr.ext Mg.drew)) (dh.on (Fr.ext Mg.drew)) f.o).mono ?_;rintro e aP ⟨rfl,ar⟩;have a7:=ae (bu.trans (Fr.aF (Fr.of ar)));clear ar a0 ak af a8 am aJ c0 c1;generalize decide (l=dl)=q;refine dU hK ?_;clear hK K;refine pf ?_;refine aC ?_;cases q
    .go_wp2_with(fail);go_roundw
     case rel=>exact⟨k+1,ad,by go_num,a7.o⟩
     case measure=>exact aE
    .go_wp2_with(fail);go_ret;exact⟨k,rfl,ad,ad,bj.trans a7.o⟩
   .have ci:(g == eB)=false:=by simp[hp]
    clear hp;go_upto_region 4 with(fail);refine eK (λ_=>False) [(0,3),(1,0),(2,3),(3,3),(4,3),(5,0),(6,3),(7,0),(8,3),(9,3),(10,3),(11,0),(12,3),(13,3),(14,3),(15,0),(16,3),(17,0),(18,2),(19,3)] ?_;refine pf ?_;refine ph ?_
    iterate 3 refine pf ?_
    refine ph ?_;refine pf ?_;refine ph ?_
    iterate 2 refine pf ?_
    refine dv rfl (by rfl) ?_
    try simp only[PU]
    refine iw rfl (by rfl) ?_;exact Bh
  .obtain rfl:k=n:=ad;go_wp2_with(fail);go_ret;exact⟨-1,rfl,ad,ad,bj.trans bu.o⟩
structure GM(w:World)(P:Nat->Prop)(x:ay)(cs:List Value)(eo en:Int)(es:ByteArray)(EA:Mk)(em ec:Nat)(QA:Mk)(qm qc:Nat)(IA:Mk)(i ic:Nat)(KA:Mk)(k kc:Nat):Prop where
 cells:cs=[.int .i64 x.op,.int .i64 x.target,.bool x.du,.int .i64 eo,.int .i64 en,.string es,.slice EA em ec,.bool x.place.param,.int .i64 x.place.index,.slice QA qm qc,.slice IA i ic,.slice KA k kc]
 expr:(oS x.expr).rep w P [.int .i64 eo,.int .i64 en,.string es,.slice EA em ec]
 place:(ds x.place).rep w P [.bool x.place.param,.int .i64 x.place.index,.slice QA qm qc]
 ints:Sl w P IA i (x.ints.map bk)
 Ic:i<=ic
 places:Sl w P KA k (x.places.map ds)
 Ih:k<=kc
theorem wq{w:World}{x:ay}(h:(ep x).rep w P cs):∃eo en es EA em ec QA qm qc IA i ic KA k kc,GM w P x cs eo en es EA em ec QA qm qc IA i ic KA k kc:=by
 unfold ep at h;rw[bJ,bf] at h;obtain⟨y,rfl,h⟩:=h;rw[bf] at h;obtain⟨y,rfl,h⟩:=h;rw[fB] at h;obtain⟨y,rfl,h⟩:=h;simp only[D.aO] at h;obtain⟨ce,cm,rfl,he,c,bv,rfl,hp,ci,cJ,rfl,al,b,a,rfl,aj,rfl⟩:=h;obtain⟨eo,en,es,EA,em,ec,rfl⟩:=qd he;obtain⟨QA,qm,qc,rfl,_,_⟩:=dZ.1 hp;obtain⟨IA,ic,i,rfl,aL,al⟩:=D.tA.1 al;obtain⟨KA,kc,k,rfl,aA,aj⟩:=D.tA.1 aj;exact⟨eo,en,es,EA,em,ec,QA,qm,qc,IA,i,ic,KA,k,kc,rfl,he,hp,al,aL,aj,aA⟩
theorem D8(p:cM):(gv p).sz=5:=rfl
theorem ui{w:World}{p:cM}(h:(gv p).rep w P cs):∃A n c,cs=[.string p.name,.int .i64 p.ints,.int .i64 p.ax,.int .i64 p.locals,.slice A n c]/\n<=c/\Sl w P A n (p.code.map ep):=by
 unfold gv at h;rw[bJ,ct] at h;obtain⟨y,rfl,h⟩:=h;exact Hh
structure hY(w:World)(P:Nat->Prop)(u:aw)(GA:Mk)(gn:Nat)(MA:Mk)(mn:Nat)(PA:Mk)(pn:Nat):Prop where
 g:Sl w P GA gn (u.globals.map .i)
 m:Sl w P MA mn (u.af.map eC)
 p:Sl w P PA pn (u.procs.map gv)
theorem mg{w:World}(h:(uj u).rep w P cs):∃GA gn gc MA mn mc PA pn pc,cs=[.slice GA gn gc,.slice MA mn mc,.slice PA pn pc,.int .i64 u.main]/\gn<=gc/\mn<=mc/\pn<=pc/\hY w P u GA gn MA mn PA pn:=by
 unfold uj at h;rw[bJ] at h;obtain⟨A,n,c,y,rfl,hc,hs,h⟩:=aL.1 h;obtain⟨A2,n2,c2,cm,rfl,cf,bP,h⟩:=aL.1 h;obtain⟨cD,n3,c3,bv,rfl,aX,cF,h⟩:=aL.1 h;obtain⟨cJ,rfl,aU⟩:=bf.1 h;rw[aQ] at aU;subst aU;exact⟨A,n,c,A2,n2,c2,cD,n3,c3,rfl,hc,cf,aX,hs,bP,cF⟩
theorem hY.on{w ab:World}{u:aw}{GA:Mk}{gn:Nat}{MA:Mk}{mn:Nat}{PA:Mk}{pn:Nat}(h:hY w (av w) u GA gn MA mn PA pn)(he:Ext w ab):hY ab (av ab) u GA gn MA mn PA pn:=
 ⟨h.g.on (Fr.ext he),h.m.on (Fr.ext he),h.p.on (Fr.ext he)⟩
theorem hY.proc{w:World}{GA:Mk}{gn:Nat}{MA:Mk}{mn:Nat}{PA:Mk}{pn:Nat}(h:hY w P u GA gn MA mn PA pn){k:Nat}(aj:k<pn):
  ∃b o p S n c,PA=some ⟨b,o,none⟩/\P b/\u.procs[k]?=some p/\w.cell? ⟨b,o+k*5,none⟩=some (.string p.name)/\w.cell? ⟨b,o+k*5+1,none⟩=some (.int .i64 p.ints)/\w.cell? ⟨b,o+k*5+2,none⟩=some (.int .i64 p.ax)/\
   w.cell? ⟨b,o+k*5+3,none⟩=some (.int .i64 p.locals)/\w.cell? ⟨b,o+k*5+4,none⟩=some (.slice S n c)/\n<=c/\Sl w P S n (p.code.map ep):=by
 obtain⟨b,o,p,cs,bO,O,hp,a9,hl,hc⟩:=Sl.g9 (z:=5) h.p D8 aj;obtain⟨S,n,c,rfl,ac,ax⟩:=ui a9;exact⟨b,o,p,S,n,c,bO,O,hp,hc 0 _ rfl,hc 1 _ rfl,hc 2 _ rfl,hc 3 _ rfl,hc 4 _ rfl,ac,ax⟩
theorem Sl.El{w:World}{A:Mk}{n:Nat}{l:List ay}(h:Sl w P A n (l.map ep)){k:Nat}(aj:k<n):
  ∃b o x cs eo en es EA em ec QA qm qc IA i ic KA m mc,A=some ⟨b,o,none⟩/\P b/\l[k]?=some x/\GM w P x cs eo en es EA em ec QA qm qc IA i ic KA m mc/\∀j v,cs[j]?=some v->w.cell? ⟨b,o+k*12+j,none⟩=some v:=by
 obtain⟨b,o,x,cs,bO,O,hx,a9,hl,hc⟩:=Sl.g9 (z:=12) h mR aj;obtain⟨eo,en,es,EA,em,ec,QA,qm,qc,IA,i,ic,KA,m,mc,al⟩:=wq a9;exact⟨b,o,x,cs,eo,en,es,EA,em,ec,QA,qm,qc,IA,i,ic,KA,m,mc,bO,O,hx,al,hc⟩
theorem Sl.pv{w:World}{A:Mk}{n:Nat}{l:List bP}(h:Sl w P A n (l.map ds)){k:Nat}(aj:k<n):
  ∃b o x QA m c,A=some ⟨b,o,none⟩/\P b/\l[k]?=some x/\w.cell? ⟨b,o+k*3,none⟩=some (.bool x.param)/\w.cell? ⟨b,o+k*3+1,none⟩=some (.int .i64 x.index)/\w.cell? ⟨b,o+k*3+2,none⟩=some (.slice QA m c)/\m<=c/\Sl w P QA m (x.at_.toList.map bk):=by
 obtain⟨b,o,x,cs,bO,O,hx,a9,hl,hc⟩:=Sl.g9 (z:=3) h (λ_=>rfl) aj;obtain⟨QA,m,c,rfl,ac,ax⟩:=dZ.1 a9;exact⟨b,o,x,QA,m,c,bO,O,hx,hc 0 _ rfl,hc 1 _ rfl,hc 2 _ rfl,ac,ax⟩
def mh(u:aw)(i:h7):Prop:=∃p,0<=i.proc/\u.procs[i.proc.toNat]?=some p/\(i.ax.length:Int)=p.ax
end Go.Proofs.YtflecliffjbleaaGreat

/- Part 37 of the proof. No condition of its own. -/
import Derived.Test.YtnigabjngpnbiaaGreatQ36
namespace Go.Proofs.YtnigabjngpnbiaaGreat
open Go.RowKit Go.Proofs.Tryz
set_option maxRecDepth 1000000
set_option maxHeartbeats 25600000
set_option linter.unusedVariables false
variable{L a:Nat}{M P:Nat->Prop}{p:Prop}{r:World}
def aN(s:List UInt8)(T:List Tok)(k:Nat):Bool:=match T[k]? with
 | some t=>(t.kind == 4 || t.kind == 3) && decide (strOf t.text=strOf s)
 | none=>false
def jS(q:Int)(T:List Tok)(k:Nat):Bool:=match T[k]? with
 | some t=>t.kind == q
 | none=>false
structure aH(w:World)(g:Nat)(A:Kj)(n c:Nat)(T:List Tok)(k deep:Nat):Prop where
 blk:au w g 110 #[.slice A n c,.int .i64 k,.int .i64 0,.int .i64 0,.int .i64 0,.int .i64 deep]
 kH:cB (EF pF) 4 w g A n T
 lt:k<n
 iN:n<=4001
section
variable {w J:World} {g:Nat} {A:Kj} {n c:Nat} {T:List Tok} {k deep:Nat}
theorem aH.on{M:Nat->Prop}(h:aH w g A n c T k deep)(O:Fr M w J)(hM:∀b,M b->g<b):aH J g A n c T k deep:=
 ⟨h.blk.on O λhm=>by have:=hM g hm;omega,h.kH.ep (O.below (aC h.blk.lt) λb O hm=>by have:=hM b hm;omega),h.lt,h.iN⟩
theorem aH.aj(h:aH w g A n c T k deep)(O:Ext w J):aH J g A n c T k deep:=h.on O λ_ h=>h.elim
theorem aH.tok(h:aH w g A n c T k deep):∃(b o:Nat) (t:Tok),A=some ⟨b,o,none⟩/\b<g/\T[k]?=some t/\w.cell? ⟨b,o+k*4,none⟩=some (.int .i64 t.kind)/\w.cell? ⟨b,o+k*4+1,none⟩=some (.string (strOf t.text))/\w.cell? ⟨b,o+k*4+2,none⟩=some (.int .i64 t.num)/\w.cell? ⟨b,o+k*4+3,none⟩=some (.int .i64 t.pos):=by
 have hl:=h.kH.1;obtain⟨b,o,bu,O,hc⟩:=h.kH.2 (aC h.lt);have aj:k<T.length:=by have:=h.lt;omega
 have ht:T[k]?=some T[k]:=List.getElem?_eq_getElem aj;obtain⟨cs,rfl,_,be⟩:=hc k _ ht;have c0:=be 0 _ rfl;simp only[JS] at c0;exact⟨b,o,_,bu,O,ht,c0,be 1 _ rfl,be 2 _ rfl,be 3 _ rfl⟩
end
theorem EZ(a b:List UInt8):((strOf a).toList == (strOf b).toList)=decide (strOf a=strOf b):=by
 by_cases h:strOf a=strOf b
 .rw[h];simp
 .rw[rK h];simp[h]
namespace AE
theorem eI(h:p:=by
 generalize hX:World.drew _=X;have ar:=jW hX;have aK:=vF hX;have bd:=ae ar;have bm:=(aK.aj Kf)
 obtain⟨d0,aQ,aR⟩:=aK.two;obtain⟨a0,al,af⟩:=(show au X g 110 _ from cw.aj ar).two;clear hX ar aK bm;have jP:(t.kind == 4 || t.kind == 3)=true->aN s T k=((strOf t.text).toList == (strOf s).toList):=λh=>by rw[bF.o,h,EZ,Bool.true_and]
 have d:(t.kind == 4 || t.kind == 3)=false->aN s T k=false:=λh=>by rw[bF.o,h,Bool.false_and]
 have b6:=ak jP d;clear jP d;by_cases bt:t.kind=4
 .have c8:(t.kind == 4)=true:=by simpa using bt
  clear bt;go_wp2_with(fail);go_ret;exact⟨ret_bool (b6.1 (by simp[c8])).symm,bd.o⟩
 .have c8:(t.kind == 4)=false:=by simpa using bt
  clear bt;by_cases aD:t.kind=3
  .have c7:(t.kind == 3)=true:=by simpa using aD
   clear aD;go_wp2_with(fail);go_ret;exact⟨ret_bool (b6.1 (by simp[c7])).symm,bd.o⟩
  .have c7:(t.kind == 3)=false:=by simpa using aD
   clear aD;go_wp2_with(fail);go_ret;exact⟨ret_bool (b6.2 (by simp[c7,c8])).symm,bd.o⟩
 ):p:=h
end AE
open AE in
theorem iX(s:List UInt8)(g:Nat)(A:Kj)(n c:Nat)(T:List Tok)(k deep:Nat)(w:World)(h:aH w g A n c T k deep) :
  Calls prog 48 #[.pointer (some ⟨g,0,none⟩),.string (strOf s)] w λe J=>e=.returned (.bool (aN s T k))/\Ext w J:=by
 obtain⟨b,o,t,rfl,O,ht,c0,c1,c2,c3⟩:=h.tok;have aq:=h.lt;have L:=h.iN;have bC:=h.blk.lt;have F:(0:Int)<=(k:Int):=ad;have bI:(k:Int)<(n:Int):=ad;have bz:b<w.heap.size:=ad;have f:aN s T k=((t.kind == 4 || t.kind == 3) && decide (strOf t.text=strOf s)):=by unfold aN;rw[ht]
 have bF:=ae f;obtain⟨a0,al,af⟩:=h.blk.two;have cw:=ae h.blk;clear h f ht;go_enter func48,ntmps48;go_upto_region 1 with(fail);refine fj (λ_=>False) [(0,3),(1,3),(2,3),(3,0),(4,3),(5,3),(6,3),(7,0),(8,3),(9,0),(10,1),(11,2)] ?_
 iterate 3 refine pf ?_
 refine ph ?_
 iterate 3 refine pf ?_
 refine ph ?_;refine pf ?_;refine ph ?_;refine sG ?_;exact gM
theorem aW(s:List UInt8)(g:Nat)(A:Kj)(n c:Nat)(T:List Tok)(k deep:Nat)(w:World)(h:aH w g A n c T k deep)(q:Bool)(bx:aN s T k=q)(aj:q=true->k+1<n) :
  Calls prog 50 #[.pointer (some ⟨g,0,none⟩),.string (strOf s)] w λe J=>e=.returned (.bool q)/\aH J g A n c T (if q=true then k+1 else k) deep/\Fr (λb=>b=g) w J:=by
 obtain⟨H,br⟩:=aI h bx;have aq:=h.lt;have L:=h.iN;clear h bx
 cases q with
 | false=>
  go_enter func50,ntmps50;go_wp2_with(fail);refine(iX s g A n c T k deep w H.o).mono ?_;rintro e aL ⟨rfl,ar⟩;rw[br.o];have H1:=ak (H.aj ar) ar;clear ar aj;go_wp2_with(fail);go_ret
  exact⟨rfl,by simpa using H1.1,H1.2.mono λ_ h=>h.elim⟩
 | true=>
  have b4:=aj rfl;clear aj;go_enter func50,ntmps50;go_wp2_with(fail);refine(iX s g A n c T k deep w H.o).mono ?_;rintro e aL ⟨rfl,ar⟩;rw[br.o];have H1:=ak (H.aj ar) ar;obtain⟨a0,al,af⟩:=H1.1.blk.two;clear ar;go_wp2_with(fail);go_ret;have aA:Fr (λb=>b=g) aL (aL.setCell ⟨g,1,none⟩ (.int .i64 ((k:Int)+1))):=(Fr.refl (λb=>b=g) aL).setCell (.inl rfl) _;refine⟨rfl,⟨?_,H1.1.kH.ep (aA.below (aC H1.1.blk.lt) λb O hm=>ad),by simpa using b4,L⟩,(H1.2.mono λ_ h=>h.elim).trans aA⟩;exact H1.1.blk.bH 1 (.int .i64 ((k:Int)+1))
theorem eZ(s:List UInt8)(g:Nat)(A:Kj)(n c:Nat)(T:List Tok)(k deep:Nat)(w:World)(h:aH w g A n c T k deep)(bx:aN s T k=true)(aj:k+1<n) :
  Calls prog 103 #[.pointer (some ⟨g,0,none⟩),.string (strOf s)] w λe J=>e=.returned (.tuple #[])/\aH J g A n c T (k+1) deep/\Fr (λb=>b=g) w J:=by
 obtain⟨H,br⟩:=aI h bx;clear h bx;go_enter func103,ntmps103;go_wp2_with(fail);refine(aW s g A n c T k deep w H.o true br.o (λ_=>aj)).mono ?_;rintro e aL ⟨rfl,S,hF⟩;have H1:=ak S hF;clear S hF;go_wp2_with(fail);refine bodyPost_end (v:=.tuple #[]) (by simp[results,Tryz.results103,go_sem]) rfl ?_;exact⟨rfl,by simpa using H1.1,H1.2⟩
theorem ky(q:Int)(g:Nat)(A:Kj)(n c:Nat)(T:List Tok)(k deep:Nat)(w:World)(h:aH w g A n c T k deep) :
  Calls prog 47 #[.pointer (some ⟨g,0,none⟩),.int .i64 q] w λe J=>e=.returned (.bool (jS q T k))/\Ext w J:=by
 obtain⟨b,o,t,rfl,O,ht,c0,c1,c2,c3⟩:=h.tok;have aq:=h.lt;have L:=h.iN;have bC:=h.blk.lt;have F:(0:Int)<=(k:Int):=ad;have bI:(k:Int)<(n:Int):=ad;have bz:b<w.heap.size:=ad;have f:jS q T k=(t.kind == q):=by unfold jS;rw[ht]
 have bF:=ae f;obtain⟨a0,al,af⟩:=h.blk.two;clear h f ht;go_enter func47,ntmps47;go_upto_region 1 with(fail);refine fj (λ_=>False) [(0,3),(1,3),(2,3),(3,0),(4,3),(5,3),(6,3),(7,3),(8,3),(9,0),(10,3),(11,3),(12,3),(13,0),(14,3),(15,3),(16,0),(17,3),(18,3),(19,3),(20,3)] ?_
 iterate 3 refine pf ?_
 refine ph ?_
 iterate 5 refine pf ?_
 refine ph ?_
 iterate 3 refine pf ?_
 refine ph ?_
 iterate 2 refine pf ?_
 refine ph ?_
 iterate 4 refine pf ?_
 refine aG ?_;go_wp2_with(fail);go_ret;exact⟨ret_bool bF.symm,Kf.drew⟩
theorem g7(g:Nat)(A:Kj)(n c:Nat)(T:List Tok)(k deep:Nat)(w:World)(t:Tok)(h:aH w g A n c T k deep)(ht:T[k]?=some t)(bx:t.kind=1)(aj:k+1<n) :
  Calls prog 53 #[.pointer (some ⟨g,0,none⟩)] w λe J=>e=.returned (.string (strOf t.text))/\aH J g A n c T (k+1) deep/\Fr (λb=>b=g) w J:=by
 have H:=ae h;have d:jS 1 T k=true:=by unfold jS;rw[ht];simp[bx]
 obtain⟨br,b1⟩:=aI d ht;have L:=h.iN;clear h d bx ht;go_enter func53,ntmps53;go_wp2_with(fail);refine(ky 1 g A n c T k deep w H.o).mono ?_;rintro e aL ⟨rfl,ar⟩;rw[br.o];have H1:=ak (H.aj ar) ar;obtain⟨a0,al,af⟩:=H1.1.blk.two;clear ar;go_upto_region 5 with(fail);generalize hX:World.setCell _ _ _=X;have aA:=da hX;have S:aH X g A n c T (k+1) deep:=by
  rw[<-hX];have aA:Fr (λb=>b=g) aL (aL.setCell ⟨g,1,none⟩ (.int .i64 ((k:Int)+1))):=(Fr.refl (λb=>b=g) aL).setCell (.inl rfl) _;exact⟨H1.1.blk.bH 1 (.int .i64 ((k:Int)+1)),H1.1.kH.ep (aA.below (aC H1.1.blk.lt) λb O hm=>ad),aj,L⟩
 have aJ:=ak S ((H1.2.mono λ_ h=>h.elim).trans aA);obtain⟨b,o,u,rfl,O,i,c0,c1,c2,c3⟩:=H1.1.tok;have m:u=t:=by
  have:=b1.o;rw[i] at this;injection this
 subst m;have bC:=S.blk.lt;have bz:b<X.heap.size:=ad;have z:¬b=g:=ad;have c1:X.cell? ⟨b,o+k*4+1,none⟩=some (.string (strOf u.text)):=(aA.cell (aC H1.1.blk.lt) z).trans c1;clear a0 al af c0 c2 c3 hX aA;obtain⟨a0,al,af⟩:=S.blk.two;have F:(0:Int)<=(k:Int):=ad;have bI:(k:Int)<(n:Int):=ad;have f:(k:Int)<=4001:=ad;clear S i;refine fj (λ_=>False) [(0,3),(1,3),(2,3),(3,0),(4,3),(5,3),(6,3),(7,0),(8,3),(9,3),(10,3),(11,0),(12,3)] ?_
 iterate 3 refine pf ?_
 refine ph ?_
 iterate 3 refine pf ?_
 refine ph ?_;refine pf ?_;rw[show IntKind.i64.wrap ((k:Nat):Int)=(k:Int) from IntWalk.i64_in _ ad]
 iterate 2 refine pf ?_
 refine ph ?_;refine pf ?_;refine aG ?_;go_wp2_with(fail);go_ret;exact⟨rfl,aJ.1.aj Kf.drew,aJ.2.drew⟩
namespace AN
theorem tx(h:p:=by
 refine(show Calls prog 50 #[.pointer (some ⟨g,0,none⟩),.string ⟨#[91]⟩] X _ from aW [91] g A n c T (k+1) deep X aJ.1 false br.2.2 (λh=>by cases h)).mono ?_;rintro e aV ⟨rfl,S,hF⟩;have bp:=aJ.2.2.1.on hF ad;have cA:=aJ.2.2.2.on hF ad;have bO:=av (show aH aV g A n c T (k+1) deep from by simpa using S) (aJ.2.1.trans hF) bp;clear S hF aJ;obtain⟨d0,aQ,aR⟩:=cA.two;obtain⟨bh,an,aM⟩:=bp.two;clear cA bp;go_wp2_with(fail);generalize cm:World.setCell _ _ _=Y;obtain⟨bA,ce,bu⟩:=hO (M:=λb=>b=g) (w:=w) [.string (strOf t.text),.slice none 0 0] (by rfl) bO.2.2 bO.2.1 (JI _) cm;have bw:=ak (bO.1.on bu λb O=>ad) ce;clear cm ce bu bh an aM;obtain⟨bh,an,aM⟩:=bA.two;refine Ke (v:=.agg #[.string (strOf t.text),.slice none 0 0]) (by simp[results,Tryz.results129,go_sem,bh]) rfl ?_;exact⟨rfl,bw.1,bw.2⟩
 ):p:=h
theorem tK(h:p:=by
 refine(g7 g A n c T k deep W t ab.1 br.1 br.2.1 aj).mono ?_;exact yX
 ):p:=h
end AN
open AN in
theorem uP(g:Nat)(A:Kj)(n c:Nat)(T:List Tok)(k deep:Nat)(w:World)(t:Tok)(h:aH w g A n c T k deep)(ht:T[k]?=some t)(bx:t.kind=1)(bK:aN [91] T (k+1)=false)(aj:k+1<n) :
  Calls prog 129 #[.pointer (some ⟨g,0,none⟩)] w λe J=>e=.returned (.agg #[.string (strOf t.text),.slice none 0 0])/\aH J g A n c T (k+1) deep/\Fr (λb=>b=g) w J:=by
 have H:=ae h;have br:=av ht bx bK;have bC:=h.blk.lt;clear h bx ht bK;go_enter func129,ntmps129;exact tJ
theorem EI(g:Nat)(A:Kj)(n c:Nat)(T:List Tok)(k deep:Nat)(w:World)(h:aH w g A n c T k deep)(ac:aN [40] T k=true)(ap:aN [41] T (k+1)=true)(aj:k+2<n) :
  Calls prog 128 #[.pointer (some ⟨g,0,none⟩)] w λe J=>e=.returned (.slice none 0 0)/\aH J g A n c T (k+2) deep/\Fr (λb=>b=g) w J:=by
 have H:=ae h;have br:=ak ac ap;clear h ac ap;go_enter func128,ntmps128;exact Fy
theorem xt(g:Nat)(A:Kj)(n c:Nat)(T:List Tok)(k deep:Nat)(w:World)(h:aH w g A n c T k deep)(ac:aN [40] T k=true)(ap:aN [41] T (k+1)=true)(aj:k+2<n) :
  Calls prog 54 #[.pointer (some ⟨g,0,none⟩)] w λe J=>e=.returned (.slice none 0 0)/\aH J g A n c T (k+2) deep/\Fr (λb=>b=g) w J:=by
 have H:=ae h;have br:=ak ac ap;clear h ac ap;go_enter func54,ntmps54;exact Fy
namespace AO
theorem y5(h:p:=by
 obtain⟨bA,ce,bu⟩:=hO (M:=λb=>b=g) (w:=w) [.string (strOf t.text),.bool false,.int .i64 0] (by rfl) cb.2.2 cb.2.1 (JI _) cm;have bw:=ak (cb.1.on bu λb O=>ad) ce;clear cm ce bu bh an aM;obtain⟨bh,an,aM⟩:=bA.two;refine Ke (v:=.agg #[.string (strOf t.text),.bool false,.int .i64 0]) (by simp[results,Tryz.results52,go_sem,bh]) rfl ?_;exact⟨rfl,bw.1,bw.2⟩
 ):p:=h
theorem tx(h:p:=by
 refine(show Calls prog 50 #[.pointer (some ⟨g,0,none⟩),.string ⟨#[91]⟩] X _ from aW [91] g A n c T (k+1) deep X aJ.1 false br.2.2.1 (λh=>by cases h)).mono ?_;exact y4
 ):p:=h
theorem tK(h:p:=by
 exact Ay
 ):p:=h
end AO
open AO in
theorem Du(g:Nat)(A:Kj)(n c:Nat)(T:List Tok)(k deep:Nat)(w:World)(t:Tok)(h:aH w g A n c T k deep)(ht:T[k]?=some t)(bx:t.kind=1)(bK:aN [91] T (k+1)=false)(ap:aN [59] T (k+1)=true)(aj:k+2<n) :
  Calls prog 52 #[.pointer (some ⟨g,0,none⟩),.bool false] w λe J=>e=.returned (.agg #[.string (strOf t.text),.bool false,.int .i64 0])/\aH J g A n c T (k+2) deep/\Fr (λb=>b=g) w J:=by
 have H:=ae h;have br:=b9 ht bx bK ap;have bC:=h.blk.lt;clear h bx ht bK ap;go_enter func52,ntmps52;exact tJ
def te.env(p:te)(ps:List (ByteArray×Bool)):Env:=⟨p.M,ps,p.F.map λf=>(f.name,f.params)⟩
structure xI(p:te)(r w:World)(L:Nat):Prop where
 src:fm w p.s p.A p.n p.c p.l
 blk:au w p.wb 162 #[.pointer (some ⟨p.s,0,none⟩),.slice p.GA p.gn p.gc,.slice p.MA p.mn p.mc,.slice p.FA p.fn p.fc,.int .i64 L,.bool p.ar]
 fr:Fr p.MW r w
 le:L<=24
theorem xI.wr{p:te}{w:World}(h0:pB r p a)(h:xI p r w L):pB w p L:=
 ⟨h.src,h.blk,h0.ne,Sl.eQ h0.ms h.fr,Sl.eQ h0.fs h.fr,h0.nm,h0.nf,h0.gE,h0.iN,h.le⟩
theorem xI.next{p:te}{w J:World}(h:xI p r w L)(aH:p.s<p.wb)(hs:fm J p.s p.A p.n p.c p.l)(O:Fr (λb=>b=p.s) w J):xI p r J L:=
 ⟨hs,h.blk.on O ad,h.fr.trans (O.mono λ_ h=>.inl h),h.le⟩
theorem xI.aj{p:te}{w J:World}(h:xI p r w L)(aH:p.s<p.wb)(O:Ext w J):xI p r J L:=h.next aH (h.src.gW O λ_ _ h=>h) (O.mono λ_ h=>h.elim)
theorem xI.fresh{p:te}{w J:World}(h:xI p r w L)(h0:pB r p a)(O:Fr M w J)(hM:∀b,M b->r.heap.size<=b):xI p r J L:=by
 have ac:=h0.src.lt;have ap:=h0.blk.lt;exact⟨h.src.gW O λb bY hm=>by have:=hM b hm;omega,h.blk.on O λhm=>by have:=hM _ hm;omega,h.fr.mY (O.below h.fr.size λk aj hm=>by have:=hM k hm;omega),h.le⟩
theorem D4:cA prog 121 185 (.agg #[.int .i64 0,.string ⟨#[]⟩,.int .i64 0,.int .i64 0,.string ⟨#[]⟩,.slice none 0 0,.string ⟨#[]⟩,.slice none 0 0,.slice none 0 0,.slice none 0 0,.slice none 0 0]) 11 192:=cA.mk' Tryz.underlying121 (by kernel_rfl) rfl ad
structure D2(p:te)(r wr:World)(L:Nat)(cs:Array Value)(V:World):Prop where
 c:xI p r V L
 s:au V r.heap.size 185 cs
 f:Fr (λb=>b=p.s\/b=r.heap.size) wr V
theorem D2.aj{p:te}{r wr V bc:World}{L:Nat}{cs:Array Value}(h:D2 p r wr L cs V)(aH:p.s<p.wb)(O:Ext V bc):D2 p r wr L cs bc:=⟨h.c.aj aH O,h.s.aj O,h.f.trans (O.mono λ_ h=>h.elim)⟩
theorem D2.call{p:te}{wr V bc:World}{cs:Array Value}(h:D2 p r wr L cs V)(aH:p.s<p.wb)(aC:p.s<r.heap.size)(hs:fm bc p.s p.A p.n p.c p.l)(O:Fr (λb=>b=p.s) V bc):D2 p r wr L cs bc:=⟨h.c.next aH hs O,h.s.on O ad,h.f.trans (O.mono λ_ h=>.inl h)⟩
theorem D2.bH{p:te}{r wr V:World}{L a:Nat}{cs:Array Value}(h:D2 p r wr L cs V)(h0:pB r p a)(i:Nat)(v:Value):D2 p r wr L (cs.setIfInBounds i v) (V.setCell ⟨r.heap.size,i,none⟩ v):=
 ⟨h.c.fresh (M:=λb=>b=r.heap.size) h0 ((Fr.refl (λb=>b=r.heap.size) V).setCell (.inl rfl) _) (λb O=>ad),h.s.bH i v,h.f.setCell (.inl (.inr rfl)) _⟩
theorem uS{w:World}:jM.rep w P [.int .i64 0,.int .i64 0,.string ⟨#[]⟩,.slice none 0 0]:=eF.2 ⟨none,0,rfl⟩
theorem rG{w:World}:fM.rep w P [.string ⟨#[]⟩,.slice none 0 0]:=by
 exact x8
theorem j6{w:World}{k:Int}{nm:ByteArray}{e r:D}{aH th el:List D}{e0 e1 e2 e3 bh r1:Value}{bz bg bU:Kj}{n1 n2 n3 c1 c2 c3:Nat}(he:e.rep w P [e0,e1,e2,e3])(aZ:r.rep w P [bh,r1])(ac:Sl w P bz n1 aH)(b7:n1<=c1)(ap:Sl w P bg n2 th)(dp:n2<=c2)(aD:Sl w P bU n3 el)(aP:n3<=c3):
  (gG k nm e r aH th el).rep w P [.int .i64 k,.string nm,e0,e1,e2,e3,bh,r1,.slice bz n1 c1,.slice bg n2 c2,.slice bU n3 c3]:=by
 unfold gG;rw[bK];exact bm.2 ⟨_,rfl,dj.2 ⟨_,rfl,jt.2 ⟨[e0,e1,e2,e3],_,rfl,he,jt.2 ⟨[bh,r1],_,rfl,aZ,aO.2 ⟨bz,n1,c1,_,rfl,b7,ac,aO.2 ⟨bg,n2,c2,_,rfl,dp,ap,aO.2 ⟨bU,n3,c3,[],rfl,aP,aD,aS.2 rfl⟩⟩⟩⟩⟩⟩⟩
theorem lu.names{B:Nat}{w:World}{d:Kj}{cg e:Nat}{a:Kk}{Q:Kj}{on P:Nat}{l:List D}{e1 e2:TypeId}{bt:Nat}(h:lu B e1 1 e2 bt w d cg e (a.map D.s) Q on P l)(hM:∀b,M b->b<B):Sl w (off M w) d cg (a.map D.s):=
 h.one.sl (λb O hp=>⟨O,λhm=>by have:=hM b hm;have:=hp.1;omega⟩) (λb O hp=>⟨O,λhm=>by have:=hM b hm;omega⟩)
namespace A2
theorem eI(h:p:=by
 generalize de:World.setCell _ _ _=cZ;clear b0 am aw dS dT dU dV;obtain⟨dN,dy⟩:=dm.o cZ (by rw[<-de];simp);have cC:=br.gW gf dy;have dn:=(cO.trans dy).trans (Mv.gB (Fr.refl _ cZ).drew);have eP:=(fR.trans dy).trans (Mv.gB (Fr.refl _ cZ).drew);have gS:=cC.2;have eL:=dN.aj (Fr.refl (λ_=>False) cZ).drew;have cL:=cC.1.aj (Fr.refl (λ_=>False) cZ).drew;have ci:(fw (J++[dL 0]) u.length ((J.length+1:Nat):Int)).length=J.length+1:=by rw[cm,JK];rfl
 have fo:=Sl.gW (l:=dw el) cy.el eP;have e5:=bn.2.2.1.2.2.1;obtain⟨gw,gE,gq,fz⟩:=jF dn eP eL cL;clear dN dy cC dn eP de eL;generalize cZ.drew=fN at *;obtain⟨a0,al,af⟩:=cL.two;clear cL;have fI:=dz (U:=U) (nk:=nk) el cX aM bc cT eG (fw (J++[dL 0]) u.length ((J.length+1:Nat):Int)) e5 (bn.2.2.2.1.mono bh);go_wp2_with(fail);refine((show kP U nk F el from fA.2) G cX aM bc cT eG (Y+1+th.num) (fw (J++[dL 0]) u.length ((J.length+1:Nat):Int)) (a1++[(Y:Int)]) g B a4 aZ bi (some ⟨ef,0,none⟩) eB eA eH bU n3 c3 fN e5 (bn.2.2.2.1.mono bh) bn.2.2.2.2.1 dl.o gq.o (by rw[cm];exact fo) (by rw[ci];omega) (by rw[ci];simp only[JK,JT];omega) ad ad ad).mono ?_;rintro e ii ⟨rfl,g3,fV,fT,gn,ey,eF,dO,ei⟩;rw[cm] at ei;generalize ds el aM eG (fw (J++[dL 0]) u.length ((J.length+1:Nat):Int))=q at *;obtain⟨q1,gC⟩:=q;obtain⟨⟨ih,fM,gm,_⟩,fs,fr⟩:=fI;simp only[] at eF dO ei fM fs fr dB;have dH:J.length+1<=q1.length/\q1.length<=J.length+1+2*el.num:=by rw[fM];simp only[JK,ci];omega
 obtain⟨gT,gU⟩:=dH;have fB:=ae (gw.trans ei);clear fM gm ei a0 al af fo;have fp:=dO;obtain⟨fU,f3,f9,ga,⟨hb,gb⟩,e0⟩:=fp.target (b:=J.length) ad ((q1.length:Int));subst f3;obtain⟨g6,gK,gJ,g8,gZ,gY,g4,gI,gH,eN,_⟩:=dO.blk
 try simp only[JK,JT,cm] at eN
 have gc:((J.length:Nat):Int)<(q1.length:Int):=ad;obtain⟨fE,gF⟩:=aI e0 dO;clear e0 fp;obtain⟨b0,am,aw⟩:=eN.two;clear eN;go_wp2;refine fj (λ_=>False) [(0,3),(1,3),(2,3),(3,0),(4,3),(5,3),(6,3),(7,3),(8,0),(9,3),(10,3),(11,3),(12,2)] ?_
 iterate 3 refine pf ?_
 refine ph ?_
 iterate 4 refine pf ?_
 refine ph ?_
 iterate 3 refine pf ?_
 refine az rfl (λK hK=>?_);go_simp;refine eC hK ?_;clear hK K;refine aG ?_;generalize fq:World.setCell _ _ _=fF;clear b0 am aw f9 ga gb gc;obtain⟨f0,fb⟩:=fE.o fF fq;have dn:=(fB.trans fb).trans (Mv.gB (Fr.refl _ fF).drew);have cw:=ak (f0.aj Kf.drew) (show Mv g (.slice S code.length bx) (.slice bP sites.length bQ) w (.slice (some ⟨fU,0,none⟩) (fw q1 J.length (q1.length:Int)).length fV) (.slice fT ey.length gn) fF.drew by rw[cm];exact dn);clear f0 fb dn fq;go_wp2;refine⟨?_,by simp[iD,intOf];omega⟩;unfold h7
 iterate 240 apply Exists.intro
 refine⟨?_,rfl⟩;unfold m4;obtain⟨_,ar,ba,hS,aX,a8,cj,ck,aW⟩:=bn.o;exact⟨k+1,rest,aM,bc,cT,gC,Y+1+th.num+el.num,fw q1 J.length (q1.length:Int),ey,a4,aZ,bi,some ⟨fU,0,none⟩,fV,fT,gn,by go_num,ad,bZ.symm,dB,ad,ba.2.2.2,hS.mono ad,aX,by simp only[cm];omega,by simp only[cm];omega,ad,ad,cw.1,cw.2⟩
 ):p:=h
theorem gO(h:p:=by
 refine tf ?_;refine cY ?_;generalize fJ:World.setCell _ _ _=gG;obtain⟨_,eO,_⟩:=oj b8 a9 bm fJ;have ez:=ae eO;clear fJ c0 bT bw b8 a9 bm c7;have eh:=cP.aj eO;obtain⟨a0,al,af⟩:=eh.two;clear eO eh;go_wp2_with(fail);refine(fD aM ex ay g (Y:Int) _ _ _ _ _ _ _ (z.aj ez.o).L (D.on aJ.1 (Fr.ext ez.o))).mono ?_;rintro e aL ⟨o1,q1,s1,e8,cQ,ct,rfl,aD,L⟩;have bs:=ae (ez.trans L);have fC:=ae aD;clear a0 al af L aD;go_upto_region 13 with(fail);generalize hV:World.alloc _ _=ea;have T:=aY hV;have dj:=aF hV;have a7:=z.aj (bs.trans T);obtain⟨h3,hz,hs,h8,hL,hE,hW,hn,hf,bA,_⟩:=a7.blk;have db:=ae (bs.trans T);have a2:(bB (bG aM ex)).rep ea (fresh X ea) [.int .i64 o1,.int .i64 q1,.string s1,.slice e8 cQ ct]:=
  D.aA (λb O=>⟨JZ ez.size O.1,JJ O.2 T.size⟩) _ _ (D.aD (λb O=>T.block b O.2 λh=>h) _ _ fC.o)
 have gy:=ae a2;clear hV a2 a7;obtain⟨a0,al,af⟩:=dj.two;obtain⟨b0,am,aw⟩:=bA.two;clear dj bA;go_wp2;refine fj (λ_=>False) [(0,3),(1,3),(2,3),(3,3),(4,0),(5,0),(6,3),(7,3),(8,2)] ?_
 iterate 4 refine pf ?_
 iterate 2 refine ph ?_
 iterate 2 refine pf ?_
 refine az rfl (λK hK=>?_);go_simp;have a7:=z.aj db.drew;refine(gv a7 (kG aQ false (bG aM ex)) (Y:Int) (ki (hh z.o (C0 gy.o Kf.drew))) ad ad).mono ?_;rintro e c8 ⟨rfl,cg,cN,cz,cG,di,dF⟩;refine eC hK ?_;clear hK K;refine aG ?_;clear a0 al af b0 am aw a7;have e9:=ae di;have cM:Mv g (.slice ah u.length ai) (.slice aR y.length aT) ea.drew (.slice cg (u++[kG aQ false (bG aM ex)]).length cN) (.slice cz (y++[(Y:Int)]).length cG) c8:=by rw[JK,JK];exact dF
 have gQ:aZ<=100000:=by have ac:=bn.2.2.2.2.2.2.2.2;rw[<-eu,JM];omega
 have cO:=ae (ed.trans ((Mv.gB db.drew).trans cM));clear cM;have bJ:=(cP.aj db.drew).on dF.fr (by
  intro hm;rcases hm with hm|hm|hm
  .have:=HA.lt;omega
  .have:=(HA.rows.one.lt hm).2;omega
  .have:=(HA.rows.two.lt hm).2;omega)
 obtain⟨a0,al,af⟩:=bJ.two;obtain⟨h4,hA,ht,h9,hN,hF,hY,ho,hg,bq,_⟩:=di.blk;obtain⟨b0,am,aw⟩:=bq.two;have dq:=di.names.2.mono (λb (O:off _ c8 b)=>(show ao c8 b from O.1));obtain⟨df,ej⟩:∃N,N=c8.heap.size:=⟨_,rfl⟩
 have gA:¬df<=g:=ad;have gB:¬df<=wr.heap.size:=ad;clear di dF bJ bq;go_wp2;refine uU (λb=>df<=b) [15,18] (.free 0 (.free 2 (.free 3 (.free 4 (.held 5 (.free 7 (.held 8 (.free 9 (.free 10 (.free 11 (.held 12 (.free 13 (.pick [1,14] (λi=>bif i == 1 then .pick [6,14] (λi=>bif i == 6 then .pick [14] (λ_=>.pick [15] (λ_=>.free 16 (.free 17 (.pick [18] (λ_=>.stop))))) else .pick [6] (λ_=>.pick [15] (λ_=>.free 16 (.free 17 (.pick [18] (λ_=>.stop)))))) else .pick [1] (λ_=>.pick [6] (λ_=>.pick [15] (λ_=>.free 16 (.free 17 (.pick [18] (λ_=>.stop)))))))))))))))))))) ?_
 iterate 4 refine tf ?_
 refine pO ?_;refine tf ?_;refine pO ?_
 iterate 3 refine tf ?_
 refine pO ?_;refine tf ?_;clear a0 al af;refine lh (P:=?rZ) (ops:=?HZ) (Q:=?H3) (R:=?H4) (tails:=?H6) (rest:=.pick [15] (λ_=>.free 16 (.free 17 (.pick [18] (λ_=>.stop))))) (aa:=?HW)
  (C:=λ(_:Nat) dM bg bE V=>Ext c8 V/\Gr (λ_=>False) df 133 3 V bg aZ bE (aM.map bR)/\au V dM 133 #[.string nm,.int .i64 4,.int .i64 aQ]) (λkey=>?Ev) ?Es
 case Ev=>
  refine b1 ?_ ?_
  ·
   refine gX ?_;generalize hV:World.drew (World.alloc _ _)=cK;have e1:=jW hV;have co:Gr (λ_=>False) df 133 3 cK (some ⟨c8.heap.size,0,none⟩) 0 0 []:=by rw[<-hV,ej];exact(Gr.lit (w:=c8) (n:=0) (l:=[]) rfl (by rfl) ad (by simp only[D.aR])).aj Kf.drew
   have eq:=j1 (dq.on (Fr.ext e1));clear hV;refine b1 ?_ ?_
   ·
    refine bD rfl (λK hK=>?_) rfl;rw[if_pos (by rfl)];refine lr ir (.tmp 77) (.tmp 81) (by rfl) co (kj aM) eu eq (λh=>by subst h;exact Sl.none_ dq) (by rfl) (by rfl) ad ad (by rw[ej];exact e1.size) ?_;intro bg bE cJ bX f1 o1 c1;refine gu hK (f1.mono λb O=>ad) ?_;clear hK K;refine aB ?_;refine gX ?_;have e2:Ext c8 cJ:=Fr.low (M:=λb=>c8.heap.size<=b) ((e1.mono λ_ h=>h.elim).trans (f1.mono λb O=>ad)) λ_ h=>h;have F:Ext c8 (cJ.alloc (.cells #[.string nm,.int .i64 4,.int .i64 aQ] 133))/\Gr (λ_=>False) df 133 3 (cJ.alloc (.cells #[.string nm,.int .i64 4,.int .i64 aQ] 133)) bg aZ bE (aM.map bR)/\
      au (cJ.alloc (.cells #[.string nm,.int .i64 4,.int .i64 aQ] 133)) cJ.heap.size 133 #[.string nm,.int .i64 4,.int .i64 aQ]:=⟨e2.alloc _,bX.aj (Kf.alloc _),Kg⟩
    clear bX co f1 o1 e1 e2 eq;revert F;generalize cJ.heap.size=dM;generalize c8.heap.size=dD;intro F;exact key dD dM bg bE _ F
   ·
    refine gX ?_;generalize hV:World.alloc _ _=ff;have e2:=aY hV;have bS:au ff cK.heap.size 133 #[.string nm,.int .i64 4,.int .i64 aQ]:=hV▸Kg;have dr:=j1 (dq.on (Fr.ext (e1.trans e2)));clear hV eq;have eD:c8.heap.size<cK.heap.size:=(co.lt (g:=c8.heap.size) rfl).2;refine aB ?_;refine bD rfl (λK hK=>?_) rfl;rw[if_pos (by rfl)];refine lr ir (.tmp 77) (.tmp 81) (by rfl) (co.aj e2) (kj aM) eu dr (λh=>by subst h;exact Sl.none_ dq) (by rfl) (by rfl) ad ad (by rw[ej];exact(e1.trans e2).size) ?_;intro bg bE cJ bX f1 o1 c1;refine gu hK (f1.mono λb O=>ad) ?_;clear hK K;have e3:Ext c8 cJ:=Fr.low (M:=λb=>c8.heap.size<=b) (((e1.trans e2).mono λ_ h=>h.elim).trans (f1.mono λb O=>ad)) λ_ h=>h;have F:Ext c8 cJ/\Gr (λ_=>False) df 133 3 cJ bg aZ bE (aM.map bR)/\au cJ cK.heap.size 133 #[.string nm,.int .i64 4,.int .i64 aQ]:=⟨e3,bX,bS.on f1 ad⟩
    clear bX co f1 o1 e1 e2 e3 dr bS eD;revert F;generalize cK.heap.size=dM;generalize c8.heap.size=dD;intro F;exact key dD dM bg bE _ F
  ·
   refine gX ?_;generalize hV:World.drew (World.alloc _ _)=cK;have e1:=jW hV;have bS:au cK c8.heap.size 133 #[.string nm,.int .i64 4,.int .i64 aQ]:=hV▸Kg;clear hV;refine aB ?_;refine gX ?_;generalize hV:World.alloc _ _=ff;have e2:=aY hV;have co:Gr (λ_=>False) cK.heap.size 133 3 ff (some ⟨cK.heap.size,0,none⟩) 0 0 []:=hV▸Gr.lit (w:=cK) (n:=0) (l:=[]) rfl (by rfl) ad (by simp only[D.aR]);have dP:=bS.aj e2;have dr:=j1 (dq.on (Fr.ext (e1.trans e2)));have eD:c8.heap.size<cK.heap.size:=bS.lt;clear hV bS;refine aB ?_;refine bD rfl (λK hK=>?_) rfl;rw[if_pos (by rfl)];refine lr ir (.tmp 77) (.tmp 81) (by rfl) co (kj aM) eu dr (λh=>by subst h;exact Sl.none_ dq) (by rfl) (by rfl) ad ad e2.size ?_;intro bg bE cJ bX f1 o1 c1;refine gu hK (f1.mono λb O=>ad) ?_;clear hK K;have e3:Ext c8 cJ:=Fr.low (M:=λb=>c8.heap.size<=b) (((e1.trans e2).mono λ_ h=>h.elim).trans (f1.mono λb O=>ad)) λ_ h=>h;have F:Ext c8 cJ/\Gr (λ_=>False) df 133 3 cJ bg aZ bE (aM.map bR)/\au cJ c8.heap.size 133 #[.string nm,.int .i64 4,.int .i64 aQ]:=⟨e3,bX.base ad,dP.on f1 ad⟩
   clear bX co f1 o1 e1 e2 e3 dr dP;revert F;generalize cK.heap.size=dD;generalize c8.heap.size=dM;intro F;exact key dD dM bg bE _ F
 case Es=>
  rintro dD dM bg bE ib ⟨cn,cR,bS⟩;have ew:=cn.size;have fZ:=e9.aj cn;obtain⟨g7,hB,hu,g9,hO,hG,g5,hp,hi,bq,_⟩:=fZ.blk;clear b0 am aw fZ;refine aB ?_;refine ca rfl (λK hK=>?_) rfl;rw[if_pos (by rfl)];refine kb ir (.tmp 82) (.tmp 90) (by rfl) cR bS (jh ⟨nm,4,aQ⟩) (by rfl) (by rfl) (by rfl) ad ad ad ?_;intro gp cB fN fY f5 hQ ie;have ci:Ext c8 fN:=Fr.low (M:=λb=>c8.heap.size<=b) ((cn.mono λ_ h=>h.elim).trans (f5.mono λb O=>by have:=(cR.lt O).1;omega)) λ_ h=>h;have cL:=bq.on f5 (λO=>by have:=(cR.lt O).1;omega);have fa:=ak fY ci;clear fY f5 hQ cR bS bq cn ci ew;obtain⟨b0,am,aw⟩:=cL.two;refine eC hK ?_;clear hK K
  iterate 2 refine tf ?_
  refine aB ?_;refine ca rfl (λK hK=>?_) rfl;go_simp;refine eC hK ?_;clear hK K;refine cY ?_;generalize f7:World.setCell _ _ _=gz;have eL:=e9.aj fa.2;have gW:=fa.2.size;obtain⟨dO,ei⟩:=eL.Di (aM:=aM++[⟨nm,4,aQ⟩]) ad (by
   rw[JP];refine fa.1.sl (λb _ h=>h.elim) λb ac ap=>⟨ac,λhm=>?_⟩
   rcases hm with hm|hm|hm
   .omega
   .have:=(e9.rows.one.lt hm).2;omega
   .have:=(e9.rows.two.lt hm).2;omega) f7
  have gs:=ae dO;have fB:=ae (cO.trans ((Mv.gB fa.2).trans ei));obtain⟨h1,hC,hv,MW,hP,hH,hT,hq,hj,cd,_⟩:=dO.blk;clear b0 am aw cL f7 eL dO ei dq;obtain⟨b0,am,aw⟩:=cd.two;clear cd;go_upto_region 3 with(fail);generalize eR:World.setCell _ _ _=ha;have hw:wrap64 (aQ+1)=aQ+1:=IntWalk.wrap64_in _ (by have h0:=bn.2.2.2.1.n0;have ac:=bn.2.2.2.2.2.2.2.1;omega);rw[hw] at eR;obtain⟨fm,fn⟩:=gs.locals eR;have cw:=ak fm (fB.trans fn);clear eR fm fn b0 am aw;go_wp2;refine⟨?_,by simp[iD,intOf];omega⟩;unfold h7
  iterate 240 apply Exists.intro
  refine⟨?_,rfl⟩;unfold m4;obtain⟨aO,ar,ba,hS,aX,a8,cj,ck,aW⟩:=bn.o;have wf:=(show gr G d (bc++[nm]) (cT++[nm]) rest by cases d<;>exact ba.2.2.2)
  exact⟨k+1,rest,aM++[⟨nm,4,aQ⟩],bc++[nm],cT++[nm],aQ+1,Y+1,u++[kG aQ false (bG aM ex)],y++[(Y:Int)],gp,(aZ+1),cB,cg,cN,cz,cG,by go_num,ad,bZ.symm,(show ds rest (aM++[⟨nm,4,aQ⟩]) (aQ+1) (u++[kG aQ false (bG aM ex)])=ds b l n code from aO),by simp only[an.num] at ar;omega,wf,hS.add dY.1,aX.app _,by simp only[an.num] at a8;simp only[JK,JT];omega,by simp only[JK,JT];omega,by simp only[an.num] at ck;omega,by simp only[an.num] at aW;simp only[JK,JT];omega,cw.1,cw.2⟩
 ):p:=h
theorem tM(h:p:=by
 refine(dC a4 aZ bi aM nm V.drew (c7.on (Fr.ext a9.drew)) dt).mono ?_;rintro e aL ⟨rfl,L⟩;rw[ab];simp only[ia];refine eC hK ?_;clear hK K
 iterate 3 refine tf ?_
 have cA:=aK.aj (Fr.aL L);have ag:=a9.trans (Fr.aL L);clear aK a9 L;exact key X.heap.size aL ⟨ag,cA,JI _⟩
 ):p:=h
theorem zA(h:p:=by
 refine kB (P:=?IJ) (ops:=?IW) (Q:=?IX) (R:=?IY) (tails:=?IZ) (rest:=.pick [11] (λ_=>.free 12 (.stop))) (aa:=?IK) (C:=λcS V=>Ext X V/\au V cS 133 #[.string ⟨#[]⟩,.int .i64 0,.int .i64 0]/\X.heap.size<=cS) (λkey=>?Hz) ?Ht
 case Hz=>
  refine b1 ?_ ?_
  ·
   refine ca rfl (λK hK=>?_) rfl;go_simp;refine(dC a4 aZ bi aM nm X.drew (c7.on (Fr.ext Kf.drew)) dt).mono ?_;rintro e aL ⟨rfl,L⟩;rw[ab];simp only[ia];refine eC hK ?_;clear hK K
   iterate 3 refine tf ?_
   refine aB ?_;refine gX ?_;generalize hV:World.alloc _ _=V;have aK:=aF hV;have a9:Ext X V:=hV▸(Fr.aL L).alloc _;exact Cp
  ·
   exact tL
 case Ht=>
  rintro cS V ⟨a9,b8,bm⟩;obtain⟨c0,bT,bw⟩:=b8.two;clear a0 al af b0 am aw;exact gN
 ):p:=h
theorem tA(h:p:=by
 have gk:g0<wr.heap.size:=gj.1;have bK:=JL ch;have bd:bl.list=s::b.list.drop (k+1):=bk▸(List.drop_eq_getElem?_toList_append▸(by rw[ch];rfl));obtain⟨b0,am,aw⟩:=aK.two;obtain⟨HA,cF,cy⟩:=eS bu hM f6;have fA:=ae (b2.o s bK);clear aK bu hM dI gl Z gj f6 eT;have cH:¬g0=wr.heap.size:=ad;have bj:¬g=wr.heap.size:=ad;go_wp2;refine fj (λb=>b=wr.heap.size) [(0,3),(1,3),(2,3),(3,0),(4,3),(5,3),(6,3),(7,0),(8,1),(9,1),(10,3)] ?_
 iterate 3 refine pf ?_
 refine pK ?_
 iterate 3 refine pf ?_
 refine pK ?_;refine sG ?_;refine aP rfl (λK hK=>?_);go_simp;generalize hV:World.drew (World.alloc _ _)=V;have T:=jW hV;have f2:au V wr.heap.size 185 #[.int .i64 s.kind,.string s.name,.int .i64 eo,.int .i64 en,.string es,.slice EA em ec,.string rs,.slice cq b5 rc,.slice bz n1 c1,.slice bg n2 c2,.slice bU n3 c3]:=hV▸(Kg).drew;refine gu hK (GC (Kf.alloc _).drew T (by simp) (by rw[<-hV];simp)) ?_;clear hK K;refine pf ?_;refine aG ?_;have fQ:=ae f2;have fG:=HA.aj T;have f4:=cF.trans (Mv.gB T);obtain⟨hZ,cW,cx,h5,e7,e6,hR,hk,hc,b8,_⟩:=fG.blk;obtain⟨b9,gt,gx⟩:=eS T fG f4;clear hV T b0 am aw d0 d1 d2 d3 d4 d5 d6 d7 d8 d9 d10 cH bj gk fG f4 f2;obtain⟨b0,am,aw⟩:=b8.two;clear b8;go_upto_region 6 with(fail);generalize hX:World.setCell _ _ _=X;obtain⟨eM,dG⟩:=gt.stmt (X:=X) (by rw[<-hX,Int.natCast_add];rfl);have bM:=da hX;have a6:=fQ.on bM (aC HA.lt);have bf:Ext wr V:=b9.o;have z:=ae eM;have ed:=ae (gx.trans dG);have dx:=ae ((Mv.gB bf).trans dG);have gL:u.length<=100000:=ad;have gV:=cj;have bn:=yq aO ar ba hS aX a8 cj ck aW;obtain⟨h2,hy,hr,h6,hJ,hD,hU,hl,he,cU,_⟩:=eM.blk;have dA:=cU.lt;clear hX bM b0 am aw eM dG bf aO ar ba hS aX fQ;obtain⟨b0,am,aw⟩:=cU.two;clear cU
 cases bl with
 | nil=>simp[an.list] at bd
 | set bv nm ex rest=>
  cases bv
  ·
   simp only[an.list,List.cons.injEq] at bd;obtain⟨rfl,bZ⟩:=bd;have ax:au X wr.heap.size 185 #[.int .i64 2,.string nm,.int .i64 eo,.int .i64 en,.string es,.slice EA em ec,.string rs,.slice cq b5 rc,.slice bz n1 c1,.slice bg n2 c2,.slice bU n3 c3]:=a6;clear a6;have cP:=ae ax;obtain⟨a0,al,af⟩:=ax.two;clear ax;have dY:=(show nm∈bc/\ex.src bc 2 by have:=bn.2.2.1;cases d<;>exact⟨this.1,this.2.1⟩)
   obtain⟨v,aA,bI⟩:=bn.2.2.2.1.vars nm dY.1;have b4:v.kind=1\/v.kind=4:=bI.imp (λh=>h.1) (λh=>h.1);have ay:=bn.2.2.2.1.fq 2 ex dY.2;have ek:ix aM nm=v.n:=by simp[ix,aA]
   have fK:sc aM nm=v.kind:=by simp[sc,aA]
   have bY:(bB ex).rep X (ao X) [.int .i64 eo,.int .i64 en,.string es,.slice EA em ec]:=D.aA (λ_ h=>h.1) _ _ (D.gW (d:=bB ex) cy.expr dx.o);have aJ:=ak bY ay;clear bY bI;go_wp2_with(fail);refine(l2 g aM nm v aA b4 (Y:Int) X z.L).mono ?_;rintro e aL ⟨rfl,L⟩;simp only[pH];go_upto_region 18 with(fail);generalize hV:World.alloc _ _=ea;have T:Ext X ea:=hV▸L.alloc _;have dj:=aF hV;have bp:=cP.aj T;have db:=ae T;clear hV a0 al af b0 am aw L T;obtain⟨a0,al,af⟩:=bp.two;obtain⟨b0,am,aw⟩:=dj.two;clear dj bp;go_wp2;refine fj (λ_=>False) [(0,3),(1,3),(2,0),(3,3),(4,0),(5,3),(6,3),(7,3),(8,0),(9,3),(12,3),(10,1),(11,3),(13,2)] ?_
   iterate 2 refine pf ?_
   refine ph ?_;refine pf ?_;refine ph ?_
   iterate 3 refine pf ?_
   refine ph ?_
   iterate 2 refine pf ?_
   refine aP rfl (λK hK=>?_);go_simp;refine(fD aM ex ay g (Y:Int) _ _ _ _ _ _ _ (z.aj db.drew).L (D.on aJ.1 (Fr.ext db.drew))).mono ?_;rintro e bV ⟨o1,q1,s1,e8,cQ,ct,rfl,aD,b6⟩;refine gu hK (b6) ?_;clear hK K;refine pf ?_;refine az rfl (λK hK=>?_);go_simp;have dk:Ext X bV:=db.trans (Fr.aL b6);have cI:=z.aj dk;refine(gv cI (kG v.n (v.kind == 1) (bG aM ex)) (Y:Int) (ki (hh z.o (ud aD db.size))) ad ad).mono ?_;rintro e aV ⟨rfl,cg,cN,cz,cG,a7,bO⟩;refine eC hK ?_;clear hK K;refine aG ?_;have cw:=ak a7 ((ed.trans (Mv.gB dk)).trans bO);clear a7 bO a0 al af b0 am aw cI aD b6 dk;go_wp2;refine⟨?_,by simp[iD,intOf];omega⟩;unfold h7
   iterate 240 apply Exists.intro
   refine⟨?_,rfl⟩;unfold m4;obtain⟨aO,ar,ba,hS,aX,a8,cj,ck,aW⟩:=bn.o;have wf:=(show gr G d bc cT rest by cases d<;>exact ba.2.2)
   exact⟨k+1,rest,aM,bc,cT,aQ,Y+1,u++[kG v.n (v.kind == 1) (bG aM ex)],y++[(Y:Int)],a4,aZ,bi,cg,cN,cz,cG,by go_num,ad,bZ.symm,(by rw[<-ek,<-fK];exact aO),by simp only[an.num] at ar;omega,wf,hS,aX,by simp only[an.num] at a8;simp only[JK,JT];omega,by simp only[JK,JT];omega,by simp only[an.num] at ck;omega,by simp only[an.num] at aW;omega,cw.1,by rw[JK,JK];exact cw.2⟩
  ·
   simp only[an.list,List.cons.injEq] at bd;obtain⟨rfl,bZ⟩:=bd;have ax:au X wr.heap.size 185 #[.int .i64 1,.string nm,.int .i64 eo,.int .i64 en,.string es,.slice EA em ec,.string rs,.slice cq b5 rc,.slice bz n1 c1,.slice bg n2 c2,.slice bU n3 c3]:=a6;clear a6;have cP:=ae ax;obtain⟨a0,al,af⟩:=ax.two;clear ax;have dY:=(show nm∉cT/\ex.src bc 2 by have:=bn.2.2.1;cases d<;>exact⟨this.2.1,this.2.2.1⟩)
   have ab:dg aM nm=none:=ji λj x be hx=>dY.1 (hx▸bn.2.2.2.1.taken x (JL be));have ay:=bn.2.2.2.1.fq 2 ex dY.2;have bY:(bB ex).rep X (ao X) [.int .i64 eo,.int .i64 en,.string es,.slice EA em ec]:=D.aA (λ_ h=>h.1) _ _ (D.gW (d:=bB ex) cy.expr dx.o);obtain⟨dt,dW⟩:=z.names;have c7:=dW.mono (λb (O:off _ X b)=>(show ao X b from O.1));have aJ:=av bY c7 ay;have eu:(aM.map bR).length=aZ:=c7.1;clear bY dW;go_upto_region 9 with(fail)
   exact zz
 | call bb nm aH rest=>
  cases bb
  case' false=>let bb:=false
  case' true=>let bb:=true
  all_goals
   simp only[an.list,List.cons.injEq] at bd;obtain⟨rfl,bZ⟩:=bd;have ax:au X wr.heap.size 185 #[.int .i64 _,.string nm,.int .i64 eo,.int .i64 en,.string es,.slice EA em ec,.string rs,.slice cq b5 rc,.slice bz n1 c1,.slice bg n2 c2,.slice bU n3 c3]:=a6;clear a6;have cP:=ae ax;obtain⟨a0,al,af⟩:=ax.two;clear ax;have dY:=(show ∃ps,(nm,ps)∈G.funcs/\lp G bc ps aH by have:=bn.2.2.1;cases d<;>exact this.1)
   obtain⟨ps,b3,aS⟩:=dY;obtain⟨v,f,aA,eE,h0,fH,rfl⟩:=bn.2.2.2.2.1 nm ps b3;have f8:=bn.2.2.2.1.iu _ _ aS;have ek:ix aM nm=v.n:=by simp[ix,aA]
   have cD:=dl.o f (JL fH);have dp:Sl X (ao X) bz n1 (aH.map eg):=(Sl.gW (l:=aH.map eg) cy.args dx.o).mono (λ_ h=>h.1);go_wp2_with(fail);refine(CH c9 g aM U.af F bb nm aH v f aA eE h0 fH f8 cD eo en es EA em ec rs cq b5 rc bz n1 c1 bg n2 c2 bU n3 c3 (Y:Int) _ z.L z.M_ z.F_ dp).mono ?_;rintro e aL ⟨IA,i,ic,KA,j,kc,rfl,aD,L⟩;have c5:=z.aj L;have a2:=hh z.o aD;clear dp f8 aD;go_wp2_with(fail);refine(gv c5 (kK bb v.n (bL aM aH) (cr aM aH)) (Y:Int) (a2) ad ad).mono ?_;rintro e aV ⟨rfl,cg,cN,cz,cG,a7,bO⟩;have cw:=ak a7 ((ed.trans (Mv.gB L)).trans bO);clear a7 bO a0 al af b0 am aw c5 a2 L b3 aS aA eE h0 fH cD;go_wp2;refine⟨?_,by simp[iD,intOf];omega⟩;unfold h7
   iterate 240 apply Exists.intro
   refine⟨?_,rfl⟩;unfold m4;obtain⟨aO,ar,ba,hS,aX,a8,cj,ck,aW⟩:=bn.o;have wf:=(show gr G d bc cT rest by cases d<;>exact ba.2)
   exact⟨k+1,rest,aM,bc,cT,aQ,Y+1,u++[kK bb v.n (bL aM aH) (cr aM aH)],y++[(Y:Int)],a4,aZ,bi,cg,cN,cz,cG,by go_num,ad,bZ.symm,(by rw[<-ek];exact aO),by simp only[an.num] at ar;omega,wf,hS,aX,by simp only[an.num] at a8;simp only[JK,JT];omega,by simp only[JK,JT];omega,by simp only[an.num] at ck;omega,by simp only[an.num] at aW;omega,cw.1,by rw[JK,JK];exact cw.2⟩
 | lock bb r rest=>
  cases bb
  case' false=>let bb:=false
  case' true=>let bb:=true
  all_goals
   simp only[an.list,List.cons.injEq] at bd;obtain⟨rfl,bZ⟩:=bd;have ax:au X wr.heap.size 185 #[.int .i64 _,.string ⟨#[]⟩,.int .i64 eo,.int .i64 en,.string es,.slice EA em ec,.string rs,.slice cq b5 rc,.slice bz n1 c1,.slice bg n2 c2,.slice bU n3 c3]:=a6;clear a6;have cP:=ae ax;obtain⟨a0,al,af⟩:=ax.two;clear ax;have ev:=(show wL G bc r by have:=bn.2.2.1;cases d<;>exact this.1)
   have gi:=bn.2.2.2.1.oU r ev;have bY:(kF r).rep X (ao X) [.string rs,.slice cq b5 rc]:=D.aA (λ_ h=>h.1) _ _ (D.gW (d:=kF r) cy.ref dx.o);go_wp2_with(fail);refine(c9 g aM U.af r gi (Y:Int) rs cq b5 rc _ z.L z.M_ bY).mono ?_;rintro e aL ⟨g1,g2,fg,fd,fx,rfl,aD,L⟩;have c5:=z.aj L;have a2:=hh z.o aD;clear bY gi aD;go_wp2_with(fail);refine(gv c5 (ou bb (la aM r)) (Y:Int) (tZ a2) ad ad).mono ?_;rintro e aV ⟨rfl,cg,cN,cz,cG,a7,bO⟩;have cw:=ak a7 ((ed.trans (Mv.gB L)).trans bO);clear a7 bO a0 al af b0 am aw c5 a2 L ev;go_wp2;refine⟨?_,by simp[iD,intOf];omega⟩;unfold h7
   iterate 240 apply Exists.intro
   refine⟨?_,rfl⟩;unfold m4;obtain⟨aO,ar,ba,hS,aX,a8,cj,ck,aW⟩:=bn.o;have wf:=(show gr G d bc cT rest by cases d<;>exact ba.2)
   exact⟨k+1,rest,aM,bc,cT,aQ,Y+1,u++[ou bb (la aM r)],y++[(Y:Int)],a4,aZ,bi,cg,cN,cz,cG,by go_num,ad,bZ.symm,aO,by simp only[an.num] at ar;omega,wf,hS,aX,by simp only[an.num] at a8;simp only[JK,JT];omega,by simp only[JK,JT];omega,by simp only[an.num] at ck;omega,by simp only[an.num] at aW;omega,cw.1,by rw[JK,JK];exact cw.2⟩
 | ite ex th el rest=>
  simp only[an.list,List.cons.injEq] at bd;obtain⟨rfl,bZ⟩:=bd;have ax:au X wr.heap.size 185 #[.int .i64 7,.string ⟨#[]⟩,.int .i64 eo,.int .i64 en,.string es,.slice EA em ec,.string rs,.slice cq b5 rc,.slice bz n1 c1,.slice bg n2 c2,.slice bU n3 c3]:=a6;clear a6;have cP:=ae ax;obtain⟨a0,al,af⟩:=ax.two;clear ax;have hd:∃cX,d=cX+1:=by
   exact yp
  obtain⟨cX,hd⟩:=hd;subst hd;have er:=bn.2.2.1;have ay:=bn.2.2.2.1.fq 2 ex er.1;have a5:=er.2.1;have dd:=dz (U:=U) (nk:=nk) th cX aM bc cT aQ (u++[jQ (bG aM ex) 0]) a5 bn.2.2.2.1;have eU:=bn.2.2.2.2.2.1;have eW:=bn.2.2.2.2.2.2.2.1;have eV:=bn.2.2.2.2.2.2.2.2;have e4:=bn.2.1;simp only[an.num] at eU eW eV e4;have bY:(bB ex).rep X (ao X) [.int .i64 eo,.int .i64 en,.string es,.slice EA em ec]:=D.aA (λ_ h=>h.1) _ _ (D.gW (d:=bB ex) cy.expr dx.o);go_wp2_with(fail);refine(fD aM ex ay g (Y:Int) _ _ _ _ _ _ _ z.L bY).mono ?_;rintro e aL ⟨o1,q1,s1,e8,cQ,ct,rfl,aD,L⟩;have c5:=z.aj L;have a2:=hh z.o aD;clear bY aD;go_wp2_with(fail);refine(gv c5 (jQ (bG aM ex) 0) (Y:Int) (ki a2) ad ad).mono ?_;rintro e aV ⟨rfl,cg,cN,cz,cG,a7,bO⟩;have dR:Mv g (.slice ah u.length ai) (.slice aR y.length aT) aL (.slice cg (u++[jQ (bG aM ex) 0]).length cN) (.slice cz (y++[(Y:Int)]).length cG) aV:=by rw[JK,JK];exact bO
  have bW:=(Mv.gB (g:=g) (cv:=.slice ah u.length ai) (sv:=.slice aR y.length aT) L).trans dR;have eX:¬Ms g (.slice ah u.length ai) (.slice aR y.length aT) wr.heap.size:=by
   exact x4
  obtain⟨bp,eY⟩:=cP.gW eX bW;have eQ:=Sl.gW (l:=dw th) cy.th (dx.trans bW);have eJ:=ae (ed.trans bW);have eK:=ae (dx.trans bW);obtain⟨cf,bt⟩:=aI a7 bp;clear bO dR bW a0 al af b0 am aw c5 a2 L a7;obtain⟨a0,al,af⟩:=bp.two;clear bp;go_wp2_with(fail);refine((show kP U nk F th from fA.1) G cX aM bc cT aQ (Y+1) (u++[jQ (bG aM ex) 0]) (y++[(Y:Int)]) g B a4 aZ bi cg cN cz cG bg n2 c2 aV a5 bn.2.2.2.1 bn.2.2.2.2.1 dl.o cf.o eQ (by simp only[JK,JT];omega) (by simp only[JK,JT];omega) ad ad ad).mono ?_;rintro e bV ⟨rfl,dv,dh,dE,dJ,a1,cu,cI,c4⟩;have dB:=bn.1;rw[ds] at dB;generalize ds th aM aQ (u++[jQ (bG aM ex) 0])=p at *;obtain⟨J,eG⟩:=p;obtain⟨⟨gD,cV,dX,_⟩,bh,c6⟩:=dd;simp only[] at cu cI c4 cV bh c6 dB;have eZ:u.length+1<=J.length/\J.length<=u.length+1+2*th.num:=by rw[cV];simp only[JK,JT];omega
  obtain⟨gg,gh⟩:=eZ;clear cV dX;have dZ:=ae (eJ.trans c4);have fc:=ae (eK.trans c4);obtain⟨bH,ft⟩:=bt.gW eY c4;obtain⟨cb,dK⟩:=aI bH cI;clear c4 cI a0 al af;obtain⟨a0,al,af⟩:=bH.two;clear bH;cases ce:el.isNil
  ·
   rw[if_neg (by rw[ce];simp)] at dB;have ge:0<n3:=by have:=cy.el.1;rw[r8,show aE.el (.ite ex th el)=el from rfl] at this;rw[ox] at ce;simp at ce;rw[<-this];exact Nat.pos_of_ne_zero (by simpa using ce)
   have gR:decide ((n3:Int) > 0)=true:=by simpa using ge
   go_wp2_with(fail);refine(gv dK.o (dL 0) (Y:Int) (iL (is:=[]) (ps:=[]) (Sl.c7 _) (Sl.c7 _) (JI _) (JI _)) ad ad).mono ?_;rintro e cE ⟨rfl,fy,eB,eA,eH,di,dF⟩;have cM:Mv g (.slice dv J.length dh) (.slice dE a1.length dJ) bV (.slice fy (J++[dL 0]).length eB) (.slice eA (a1++[(Y:Int)]).length eH) cE:=by rw[JK,JK];exact dF
   have cO:=ae (dZ.trans cM);have fR:=ae (fc.trans cM);obtain⟨bJ,gf⟩:=cb.gW ft cM;have br:=ae bJ;clear dF cM a0 al af bJ;have dc:=di;obtain⟨ef,dQ,dS,dT,⟨fW,dU⟩,cl⟩:=dc.target (b:=u.length) (by simp only[JK,JT];omega) (((J.length+1:Nat):Int));subst dQ;obtain⟨fP,fl,fk,fS,fv,fu,fO,fi,fh,bN,_⟩:=di.blk
   try simp only[JK,JT] at bN
   have dV:((u.length:Nat):Int)<(J.length:Int)+1:=ad;obtain⟨dm,fe⟩:=aI cl di;clear cl dc;obtain⟨b0,am,aw⟩:=bN.two;clear bN;go_wp2;refine fj (λ_=>False) [(0,3),(1,3),(2,3),(3,0),(4,3),(5,3),(6,3),(7,3),(8,0),(9,3),(10,3),(11,3),(12,2)] ?_
   iterate 3 refine pf ?_
   refine ph ?_
   iterate 4 refine pf ?_
   refine ph ?_
   iterate 3 refine pf ?_
   exact gM
  ·
   rw[if_pos ce] at dB;have gd:n3=0:=by have:=cy.el.1;rw[r8,show aE.el (.ite ex th el)=el from rfl] at this;rw[ox] at ce;simp at ce;rw[<-this,ce];rfl
   subst gd;have dc:=dK.o;obtain⟨ef,dQ,dS,dT,⟨fW,dU⟩,cl⟩:=dc.target (b:=u.length) ad ((J.length:Int));subst dQ;obtain⟨fP,fl,fk,fS,fv,fu,fO,fi,fh,bN,_⟩:=dK.blk
   try simp only[JK,JT,cm] at bN
   have dV:((u.length:Nat):Int)<(J.length:Int):=ad;obtain⟨dm,fe⟩:=aI cl dK.o;clear cl dc;obtain⟨b0,am,aw⟩:=bN.two;clear bN;go_wp2;refine fj (λ_=>False) [(0,3),(1,3),(2,3),(3,0),(4,3),(5,3),(6,3),(7,3),(8,0),(9,3),(10,3),(11,3),(12,2)] ?_
   iterate 3 refine pf ?_
   refine ph ?_
   iterate 4 refine pf ?_
   refine ph ?_
   iterate 3 refine pf ?_
   refine az rfl (λK hK=>?_);go_simp;refine eC hK ?_;clear hK K;refine aG ?_;generalize de:World.setCell _ _ _=cZ;clear b0 am aw dS dT dU dV;obtain⟨dN,dy⟩:=dm.o cZ de;have dn:=(dZ.trans dy).trans (Mv.gB (Fr.refl _ cZ).drew);have cw:=ak (dN.aj Kf.drew) (show Mv g (.slice S code.length bx) (.slice bP sites.length bQ) w (.slice (some ⟨ef,0,none⟩) (fw J u.length (J.length:Int)).length dh) (.slice dE a1.length dJ) cZ.drew by rw[cm];exact dn);clear dN dy dn de;have gP:el.num=0:=by cases el<;>simp_all [an.isNil,an.num]
   go_wp2;refine⟨?_,by simp[iD,intOf];omega⟩;unfold h7
   iterate 240 apply Exists.intro
   refine⟨?_,rfl⟩;unfold m4;obtain⟨_,ar,ba,hS,aX,a8,cj,ck,aW⟩:=bn.o
   exact⟨k+1,rest,aM,bc,cT,eG,Y+1+th.num,fw J u.length (J.length:Int),a1,a4,aZ,bi,some ⟨ef,0,none⟩,dh,dE,dJ,by go_num,ad,bZ.symm,dB,ad,ba.2.2.2,hS.mono bh,aX,by simp only[cm];omega,by simp only[cm];omega,ad,ad,cw.1,cw.2⟩
 | fL ex th rest=>
  simp only[an.list,List.cons.injEq] at bd;obtain⟨rfl,bZ⟩:=bd;have ax:au X wr.heap.size 185 #[.int .i64 8,.string ⟨#[]⟩,.int .i64 eo,.int .i64 en,.string es,.slice EA em ec,.string rs,.slice cq b5 rc,.slice bz n1 c1,.slice bg n2 c2,.slice bU n3 c3]:=a6;clear a6;have cP:=ae ax;obtain⟨a0,al,af⟩:=ax.two;clear ax;have hd:∃cX,d=cX+1:=by
   exact yp
  obtain⟨cX,hd⟩:=hd;subst hd;have er:=bn.2.2.1;have ay:=bn.2.2.2.1.fq 2 ex er.1;have a5:=er.2.1;have dd:=dz (U:=U) (nk:=nk) th cX aM bc cT aQ (u++[jQ (bG aM ex) 0]) a5 bn.2.2.2.1;have eU:=bn.2.2.2.2.2.1;have eW:=bn.2.2.2.2.2.2.2.1;have eV:=bn.2.2.2.2.2.2.2.2;have e4:=bn.2.1;simp only[an.num] at eU eW eV e4;have bY:(bB ex).rep X (ao X) [.int .i64 eo,.int .i64 en,.string es,.slice EA em ec]:=D.aA (λ_ h=>h.1) _ _ (D.gW (d:=bB ex) cy.expr dx.o);go_wp2_with(fail);refine(fD aM ex ay g (Y:Int) _ _ _ _ _ _ _ z.L bY).mono ?_;rintro e aL ⟨o1,q1,s1,e8,cQ,ct,rfl,aD,L⟩;have c5:=z.aj L;have a2:=hh z.o aD;clear bY aD;go_wp2_with(fail);refine(gv c5 (jQ (bG aM ex) 0) (Y:Int) (ki a2) ad ad).mono ?_;rintro e aV ⟨rfl,cg,cN,cz,cG,a7,bO⟩;have dR:Mv g (.slice ah u.length ai) (.slice aR y.length aT) aL (.slice cg (u++[jQ (bG aM ex) 0]).length cN) (.slice cz (y++[(Y:Int)]).length cG) aV:=by rw[JK,JK];exact bO
  have bW:=(Mv.gB (g:=g) (cv:=.slice ah u.length ai) (sv:=.slice aR y.length aT) L).trans dR;have eX:¬Ms g (.slice ah u.length ai) (.slice aR y.length aT) wr.heap.size:=by
   exact x4
  obtain⟨bp,eY⟩:=cP.gW eX bW;have eQ:=Sl.gW (l:=dw th) cy.th (dx.trans bW);have eJ:=ae (ed.trans bW);have eK:=ae (dx.trans bW);obtain⟨cf,bt⟩:=aI a7 bp;clear bO dR bW a0 al af b0 am aw c5 a2 L a7;obtain⟨a0,al,af⟩:=bp.two;clear bp;go_wp2_with(fail);refine((show kP U nk F th from fA.1) G cX aM bc cT aQ (Y+1) (u++[jQ (bG aM ex) 0]) (y++[(Y:Int)]) g B a4 aZ bi cg cN cz cG bg n2 c2 aV a5 bn.2.2.2.1 bn.2.2.2.2.1 dl.o cf.o eQ (by simp only[JK,JT];omega) (by simp only[JK,JT];omega) ad ad ad).mono ?_;rintro e bV ⟨rfl,dv,dh,dE,dJ,a1,cu,cI,c4⟩;have dB:ds rest aM (ds th aM aQ (u++[jQ (bG aM ex) 0])).2 (fw ((ds th aM aQ (u++[jQ (bG aM ex) 0])).1++[dL (u.length:Int)]) u.length (((ds th aM aQ (u++[jQ (bG aM ex) 0])).1.length+1:Nat):Int))=ds b l n code:=bn.1;generalize ds th aM aQ (u++[jQ (bG aM ex) 0])=p at *;obtain⟨J,eG⟩:=p;obtain⟨⟨gD,cV,dX,_⟩,bh,c6⟩:=dd;simp only[] at cu cI c4 cV bh c6 dB;have eZ:u.length+1<=J.length/\J.length<=u.length+1+2*th.num:=by rw[cV];simp only[JK,JT];omega
  obtain⟨gg,gh⟩:=eZ;clear cV dX;have dZ:=ae (eJ.trans c4);have fc:=ae (eK.trans c4);obtain⟨bH,ft⟩:=bt.gW eY c4;obtain⟨cb,dK⟩:=aI bH cI;clear c4 cI a0 al af;obtain⟨a0,al,af⟩:=bH.two;clear bH;go_wp2_with(fail);refine(gv dK.o (dL (u.length:Int)) (Y:Int) (iL (is:=[]) (ps:=[]) (Sl.c7 _) (Sl.c7 _) (JI _) (JI _)) ad ad).mono ?_;rintro e cE ⟨rfl,fy,eB,eA,eH,di,dF⟩;have cM:Mv g (.slice dv J.length dh) (.slice dE a1.length dJ) bV (.slice fy (J++[dL (u.length:Int)]).length eB) (.slice eA (a1++[(Y:Int)]).length eH) cE:=by rw[JK,JK];exact dF
  have cO:=ae (dZ.trans cM);clear dF cM a0 al af;have dc:=di;obtain⟨ef,dQ,dS,dT,⟨fW,dU⟩,cl⟩:=dc.target (b:=u.length) (by simp only[JK,JT];omega) (((J.length+1:Nat):Int));subst dQ;obtain⟨fP,fl,fk,fS,fv,fu,fO,fi,fh,bN,_⟩:=di.blk
  try simp only[JK,JT] at bN
  have dV:((u.length:Nat):Int)<(J.length:Int)+1:=ad;obtain⟨dm,fe⟩:=aI cl di;clear cl dc;obtain⟨b0,am,aw⟩:=bN.two;clear bN;go_wp2;refine fj (λ_=>False) [(0,3),(1,3),(2,3),(3,0),(4,3),(5,3),(6,3),(7,3),(8,0),(9,3),(10,3),(11,3),(12,2)] ?_
  iterate 3 refine pf ?_
  refine ph ?_
  iterate 4 refine pf ?_
  refine ph ?_
  iterate 3 refine pf ?_
  refine az rfl (λK hK=>?_);go_simp;refine eC hK ?_;clear hK K;refine aG ?_;generalize de:World.setCell _ _ _=cZ;clear b0 am aw dS dT dU dV;obtain⟨dN,dy⟩:=dm.o cZ (by rw[<-de];simp);have dn:=(cO.trans dy).trans (Mv.gB (Fr.refl _ cZ).drew);have cw:=ak (dN.aj Kf.drew) (show Mv g (.slice S code.length bx) (.slice bP sites.length bQ) w (.slice (some ⟨ef,0,none⟩) (fw (J++[dL (u.length:Int)]) u.length ((J.length+1:Nat):Int)).length eB) (.slice eA (a1++[(Y:Int)]).length eH) cZ.drew by rw[cm];exact dn);clear dN dy dn de;go_wp2;refine⟨?_,by simp[iD,intOf];omega⟩;unfold h7
  iterate 240 apply Exists.intro
  refine⟨?_,rfl⟩;unfold m4;obtain⟨_,ar,ba,hS,aX,a8,cj,ck,aW⟩:=bn.o
  exact⟨k+1,rest,aM,bc,cT,eG,Y+1+th.num,fw (J++[dL (u.length:Int)]) u.length ((J.length+1:Nat):Int),a1++[(Y:Int)],a4,aZ,bi,some ⟨ef,0,none⟩,eB,eA,eH,by go_num,ad,bZ.symm,dB,ad,ba.2.2,hS.mono bh,aX,by simp only[cm,JK,JT];omega,by simp only[cm,JK,JT];omega,ad,ad,cw.1,cw.2⟩
 | ret rest=>
  simp only[an.list,List.cons.injEq] at bd;obtain⟨rfl,bZ⟩:=bd;have ax:au X wr.heap.size 185 #[.int .i64 9,.string ⟨#[]⟩,.int .i64 eo,.int .i64 en,.string es,.slice EA em ec,.string rs,.slice cq b5 rc,.slice bz n1 c1,.slice bg n2 c2,.slice bU n3 c3]:=a6;clear a6;have cP:=ae ax;obtain⟨a0,al,af⟩:=ax.two;clear ax;go_wp2_with(fail);refine(gv z.o (m9) (Y:Int) (iL (is:=[]) (ps:=[]) (Sl.c7 _) (Sl.c7 _) (JI _) (JI _)) ad ad).mono ?_;rintro e aL ⟨rfl,cg,cN,cz,cG,a7,bO⟩;have cw:=ak a7 (ed.trans bO);clear a7 bO a0 al af b0 am aw;go_wp2;refine⟨?_,by simp[iD,intOf];omega⟩;unfold h7
  iterate 240 apply Exists.intro
  refine⟨?_,rfl⟩;unfold m4;obtain⟨aO,ar,ba,hS,aX,a8,cj,ck,aW⟩:=bn.o;have wf:=(show gr G d bc cT rest by cases d<;>exact ba)
  exact⟨k+1,rest,aM,bc,cT,aQ,Y+1,u++[m9],y++[(Y:Int)],a4,aZ,bi,cg,cN,cz,cG,by go_num,ad,bZ.symm,aO,by simp only[an.num] at ar;omega,wf,hS,aX,by simp only[an.num] at a8;simp only[JK,JT];omega,by simp only[JK,JT];omega,by simp only[an.num] at ck;omega,by simp only[an.num] at aW;omega,cw.1,by rw[JK,JK];exact cw.2⟩
 ):p:=h
end A2
open A2 in
theorem Gz(bl:an):BK bl:=by
 intro c9 U nk F b G d l n st code sites g B bo ln lc S bx bP bQ A m c w bF b2 dl bC ep du k aM bc cT aQ Y u y a4 aZ bi ah ai aR aT wr aq bk aO ar ba hS aX a8 cj ck aW bu hM eb hQ0;intros
 conv=>arg 2;whnf
 have aj:k<=m:=ad;obtain⟨aN,aU,a3,ee,go,et,cp,fX,b7,aK,_⟩:=bu.blk;obtain⟨g0,ig,s,cs,rfl,gj,ch,dI,eT,Z⟩:=(bF.gW hM).iG mh aq;have gl:(cc s).rep wr (ao wr) cs:=D.aA (λ_ h=>h.1) _ _ dI;obtain⟨eo,en,es,EA,em,ec,rs,cq,b5,rc,bz,n1,c1,bg,n2,c2,bU,n3,c3,rfl,f6⟩:=mC dI;exact tz
def ju(u:ay):ah->List Int->ah
 | s,[]=>s
 | s,t::l=>ju u (bM u s t).1 l
def iC(u:ay):ah->List Int->List Int
 | _,[]=>[]
 | s,t::l=>(if (bM u s t).2 then [t] else [])++iC u (bM u s t).1 l
section
variable {u:ay} {D:Nat}
theorem o9:∀(l m:List Int) (s:ah),ju u s (l++m)=ju u (ju u s l) m
 | [],_,_=>rfl
 | t::l,m,s=>o9 l m _
theorem s7:∀(l m:List Int) (s:ah),iC u s (l++m)=iC u s l++iC u (ju u s l) m
 | [],_,_=>rfl
 | t::l,m,s=>by
  rw[JX,iC,iC,ju,s7 l m,JW]
theorem GX(l:List Int):∀s:ah,(iC u s l).length<=l.length:=by
 induction l with
 | nil=>intro s;exact JI _
 | cons t l ab=>
  intro s;have:=ab (bM u s t).1;rw[iC,JK,JV];split<;>simp<;>omega
theorem uX(hU:de u):∀(l:List Int) (D:Nat) (s:ah),aV u D s->aV u (D+l.length) (ju u s l)
 | [],_,_,h=>h
 | t::l,D,s,h=>by
  have:=uX hU l (D+1) _ (s3 (t:=t) hU h);rw[JV,show D+(l.length+1)=D+1+l.length by omega];exact this
end
end Go.Proofs.YtnigabjngpnbiaaGreat

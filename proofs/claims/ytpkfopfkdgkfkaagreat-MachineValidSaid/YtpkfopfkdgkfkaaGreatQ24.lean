/- Part 24 of the proof. No condition of its own. -/
import Derived.Test.YtpkfopfkdgkfkaaGreatQ20
namespace Go.Proofs.YtpkfopfkdgkfkaaGreat
open Go.RowKit Go.Proofs.Tryz
set_option maxRecDepth 1000000
set_option maxHeartbeats 25600000
set_option linter.unusedVariables false
variable{V:Mu}{l:List Int}{cs:List Value}{left s:Nat}{M P:Nat->Prop}{N:Mt}{p:Prop}{t:TypeId}
def ca(s:List UInt8)(T:List Tok)(k:Nat):Bool:=match T[k]? with
 | some t=>(t.kind == 4 || t.kind == 3) && decide (strOf t.text=strOf s)
 | none=>false
def tu(q:Int)(T:List Tok)(k:Nat):Bool:=match T[k]? with
 | some t=>t.kind == q
 | none=>false
structure bI(w:World)(g:Nat)(A:Mt)(n c:Nat)(T:List Tok)(k deep:Nat):Prop where
 blk:au w g 180 #[.slice A n c,.int .i64 k,.int .i64 0,.int .i64 0,.int .i64 0,.int .i64 deep]
 tv:cw (EF q6) 4 w g A n T
 lt:k<n
 ja:n<=4001
section
variable {w ab:World} {g:Nat} {A:Mt} {n c:Nat} {T:List Tok} {k deep:Nat}
theorem bI.on{M:Nat->Prop}(h:bI w g A n c T k deep)(O:Fr M w ab)(hM:∀b,M b->g<b):bI ab g A n c T k deep:=
 ⟨h.blk.on O λhm=>by have:=hM g hm;omega,h.tv.eB (O.below (ay h.blk.lt) λb O hm=>by have:=hM b hm;omega),h.lt,h.ja⟩
theorem bI.aj(h:bI w g A n c T k deep)(O:Ext w ab):bI ab g A n c T k deep:=h.on O λ_ h=>h.elim
theorem bI.tok(h:bI w g A n c T k deep):∃(b o:Nat) (t:Tok),A=some ⟨b,o,none⟩/\b<g/\T[k]?=some t/\w.cell? ⟨b,o+k*4,none⟩=some (.int .i64 t.kind)/\w.cell? ⟨b,o+k*4+1,none⟩=some (.string (strOf t.text))/\w.cell? ⟨b,o+k*4+2,none⟩=some (.int .i64 t.num)/\w.cell? ⟨b,o+k*4+3,none⟩=some (.int .i64 t.pos):=by
 have hl:=h.tv.1;obtain⟨b,o,bG,O,hc⟩:=h.tv.2 (ay h.lt);have aj:k<T.length:=by have:=h.lt;omega
 have ht:T[k]?=some T[k]:=List.getElem?_eq_getElem aj;obtain⟨cs,rfl,_,bd⟩:=hc k _ ht;have c0:=bd 0 _ rfl;simp only[LW] at c0;exact⟨b,o,_,bG,O,ht,c0,bd 1 _ rfl,bd 2 _ rfl,bd 3 _ rfl⟩
end
theorem GW(a b:List UInt8):((strOf a).toList == (strOf b).toList)=decide (strOf a=strOf b):=by
 by_cases h:strOf a=strOf b
 .rw[h];simp
 .rw[tt h];simp[h]
namespace CT
theorem dC(h:p:=by
 generalize hX:World.drew _=X;have aw:=gQ hX;have aQ:=kE hX;have br:=ae aw;have bP:=(aQ.aj Mo)
 obtain⟨d0,aK,aM⟩:=aQ.two;obtain⟨a0,ai,af⟩:=(show au X g 180 _ from ct.aj aw).two;clear hX aw aQ bP;have kz:(t.kind == 4 || t.kind == 3)=true->ca s T k=((strOf t.text).toList == (strOf s).toList):=λh=>by rw[bt.o,h,GW,Bool.true_and]
 have d:(t.kind == 4 || t.kind == 3)=false->ca s T k=false:=λh=>by rw[bt.o,h,Bool.false_and]
 have b3:=ag kz d;clear kz d;by_cases bz:t.kind=4
 .have dk:(t.kind == 4)=true:=by simpa using bz
  clear bz;go_wp2_with(fail);go_ret;exact⟨ret_bool (b3.1 (by simp[dk])).symm,br.o⟩
 .have dk:(t.kind == 4)=false:=by simpa using bz
  clear bz;by_cases aV:t.kind=3
  .have c9:(t.kind == 3)=true:=by simpa using aV
   clear aV;go_wp2_with(fail);go_ret;exact⟨ret_bool (b3.1 (by simp[c9])).symm,br.o⟩
  .have c9:(t.kind == 3)=false:=by simpa using aV
   clear aV;go_wp2_with(fail);go_ret;exact⟨ret_bool (b3.2 (by simp[c9,dk])).symm,br.o⟩
 ):p:=h
end CT
open CT in
theorem lL(s:List UInt8)(g:Nat)(A:Mt)(n c:Nat)(T:List Tok)(k deep:Nat)(w:World)(h:bI w g A n c T k deep) :
  Calls prog 86 #[.pointer (some ⟨g,0,none⟩),.string (strOf s)] w λe ab=>e=.returned (.bool (ca s T k))/\Ext w ab:=by
 obtain⟨b,o,t,rfl,O,ht,c0,c1,c2,c3⟩:=h.tok;have an:=h.lt;have I:=h.ja;have cl:=h.blk.lt;have bp:(0:Int)<=(k:Int):=ad;have ce:(k:Int)<(n:Int):=ad;have cJ:b<w:=ad;have f:ca s T k=((t.kind == 4 || t.kind == 3) && decide (strOf t.text=strOf s)):=by unfold ca;rw[ht]
 have bt:=ae f;obtain⟨a0,ai,af⟩:=h.blk.two;have ct:=ae h.blk;clear h f ht;go_enter func86,ntmps86;go_upto_region 1 with(fail);refine eJ (λ_=>False) [(0,3),(1,3),(2,3),(3,0),(4,3),(5,3),(6,3),(7,0),(8,3),(9,0),(10,1),(11,2)] ?_
 iterate 3 refine pf ?_
 refine ph ?_
 iterate 3 refine pf ?_
 refine ph ?_;refine pf ?_;refine ph ?_;refine rb ?_;exact eS
theorem cJ(s:List UInt8)(g:Nat)(A:Mt)(n c:Nat)(T:List Tok)(k deep:Nat)(w:World)(h:bI w g A n c T k deep)(q:Bool)(bK:ca s T k=q)(aj:q=true->k+1<n) :
  Calls prog 88 #[.pointer (some ⟨g,0,none⟩),.string (strOf s)] w λe ab=>e=.returned q/\bI ab g A n c T (if q=true then k+1 else k) deep/\Fr (λb=>b=g) w ab:=by
 obtain⟨H,bN⟩:=aJ h bK;have an:=h.lt;have I:=h.ja;clear h bK
 cases q with
 | false=>
  go_enter func88,ntmps88;go_wp2_with(fail);refine(lL s g A n c T k deep w H.o).mono ?_;rintro e aS ⟨rfl,aw⟩;rw[bN.o];have H1:=ag (H.aj aw) aw;clear aw aj;go_wp2_with(fail);go_ret
  exact⟨rfl,by simpa using H1.1,H1.2.mono λ_ h=>h.elim⟩
 | true=>
  have cu:=aj rfl;clear aj;go_enter func88,ntmps88;go_wp2_with(fail);refine(lL s g A n c T k deep w H.o).mono ?_;rintro e aS ⟨rfl,aw⟩;rw[bN.o];have H1:=ag (H.aj aw) aw;obtain⟨a0,ai,af⟩:=H1.1.blk.two;clear aw;go_wp2_with(fail);go_ret;have J:Fr (λb=>b=g) aS (aS.setCell ⟨g,1,none⟩ (.int .i64 ((k:Int)+1))):=(Fr.refl (λb=>b=g) aS).setCell (.inl rfl) _;refine⟨rfl,⟨?_,H1.1.tv.eB (J.below (ay H1.1.blk.lt) λb O hm=>ad),by simpa using cu,I⟩,(H1.2.mono λ_ h=>h.elim).trans J⟩;exact H1.1.blk.aN 1 (.int .i64 ((k:Int)+1))
theorem kb(s:List UInt8)(g:Nat)(A:Mt)(n c:Nat)(T:List Tok)(k deep:Nat)(w:World)(h:bI w g A n c T k deep)(bK:ca s T k=true)(aj:k+1<n) :
  Calls prog 129 #[.pointer (some ⟨g,0,none⟩),.string (strOf s)] w λe ab=>e=.returned (.tuple #[])/\bI ab g A n c T (k+1) deep/\Fr (λb=>b=g) w ab:=by
 obtain⟨H,bN⟩:=aJ h bK;clear h bK;go_enter func129,ntmps129;go_wp2_with(fail);refine(cJ s g A n c T k deep w H.o true bN.o (λ_=>aj)).mono ?_;rintro e aS ⟨rfl,bg,hF⟩;have H1:=ag bg hF;clear bg hF;go_wp2_with(fail);refine bodyPost_end (v:=.tuple #[]) (by simp[results,Tryz.results129,go_sem]) rfl ?_;exact⟨rfl,by simpa using H1.1,H1.2⟩
theorem o9(q:Int)(g:Nat)(A:Mt)(n c:Nat)(T:List Tok)(k deep:Nat)(w:World)(h:bI w g A n c T k deep) :
  Calls prog 85 #[.pointer (some ⟨g,0,none⟩),q] w λe ab=>e=.returned (.bool (tu q T k))/\Ext w ab:=by
 obtain⟨b,o,t,rfl,O,ht,c0,c1,c2,c3⟩:=h.tok;have an:=h.lt;have I:=h.ja;have cl:=h.blk.lt;have bp:(0:Int)<=(k:Int):=ad;have ce:(k:Int)<(n:Int):=ad;have cJ:b<w:=ad;have f:tu q T k=(t.kind == q):=by unfold tu;rw[ht]
 have bt:=ae f;obtain⟨a0,ai,af⟩:=h.blk.two;clear h f ht;go_enter func85,ntmps85;go_upto_region 1 with(fail);refine eJ (λ_=>False) [(0,3),(1,3),(2,3),(3,0),(4,3),(5,3),(6,3),(7,3),(8,3),(9,0),(10,3),(11,3),(12,3),(13,0),(14,3),(15,3),(16,0),(17,3),(18,3),(19,3),(20,3)] ?_
 iterate 3 refine pf ?_
 refine ph ?_
 iterate 5 refine pf ?_
 refine ph ?_
 iterate 3 refine pf ?_
 refine ph ?_
 iterate 2 refine pf ?_
 refine ph ?_
 iterate 4 refine pf ?_
 refine aF ?_;go_wp2_with(fail);go_ret;exact⟨ret_bool bt.symm,Mo.drew⟩
theorem mU(g:Nat)(A:Mt)(n c:Nat)(T:List Tok)(k deep:Nat)(w:World)(t:Tok)(h:bI w g A n c T k deep)(ht:T[k]?=some t)(bK:t.kind=1)(aj:k+1<n) :
  Calls prog 91 #[.pointer (some ⟨g,0,none⟩)] w λe ab=>e=.returned (.string (strOf t.text))/\bI ab g A n c T (k+1) deep/\Fr (λb=>b=g) w ab:=by
 have H:=ae h;have dW:tu 1 T k=true:=by unfold tu;rw[ht];simp[bK]
 obtain⟨bN,aa⟩:=aJ dW ht;have I:=h.ja;clear h dW bK ht;go_enter func91,ntmps91;go_wp2_with(fail);refine(o9 1 g A n c T k deep w H.o).mono ?_;rintro e aS ⟨rfl,aw⟩;rw[bN.o];have H1:=ag (H.aj aw) aw;obtain⟨a0,ai,af⟩:=H1.1.blk.two;clear aw;go_upto_region 5 with(fail);generalize hX:World.setCell _ _ _=X;have J:=cp hX;have bg:bI X g A n c T (k+1) deep:=by
  rw[<-hX];have J:Fr (λb=>b=g) aS (aS.setCell ⟨g,1,none⟩ (.int .i64 ((k:Int)+1))):=(Fr.refl (λb=>b=g) aS).setCell (.inl rfl) _;exact⟨H1.1.blk.aN 1 (.int .i64 ((k:Int)+1)),H1.1.tv.eB (J.below (ay H1.1.blk.lt) λb O hm=>ad),aj,I⟩
 have aN:=ag bg ((H1.2.mono λ_ h=>h.elim).trans J);obtain⟨b,o,d,rfl,O,i,c0,c1,c2,c3⟩:=H1.1.tok;have G:d=t:=by
  have:=aa.o;rw[i] at this;injection this
 subst G;have cl:=bg.blk.lt;have cJ:b<X:=ad;have z:¬b=g:=ad;have c1:X.cell? ⟨b,o+k*4+1,none⟩=some (.string (strOf d.text)):=(J.cell (ay H1.1.blk.lt) z).trans c1;clear a0 ai af c0 c2 c3 hX J;obtain⟨a0,ai,af⟩:=bg.blk.two;have bp:(0:Int)<=(k:Int):=ad;have ce:(k:Int)<(n:Int):=ad;have f:(k:Int)<=4001:=ad;clear bg i;refine eJ (λ_=>False) [(0,3),(1,3),(2,3),(3,0),(4,3),(5,3),(6,3),(7,0),(8,3),(9,3),(10,3),(11,0),(12,3)] ?_
 iterate 3 refine pf ?_
 refine ph ?_
 iterate 3 refine pf ?_
 refine ph ?_;refine pf ?_;rw[show IntKind.i64.wrap ((k:Nat):Int)=(k:Int) from IntWalk.i64_in _ ad]
 iterate 2 refine pf ?_
 refine ph ?_;refine pf ?_;refine aF ?_;go_wp2_with(fail);go_ret;exact⟨rfl,aN.1.aj Mo.drew,aN.2.drew⟩
theorem cr.I7{w ab:World}{g:Nat}{A:Mt}{n c:Nat}(h:cr w s A n c l)(O:Below g w ab)(hs:s<g):cr ab s A n c l:=by
 have an:=h.lt;refine⟨LL h.lt O.size,?_,?_,?_,h.ls.eB (O.mono ad),h.hn⟩
 .exact(O.cell (p:=⟨s,0,none⟩) hs).trans h.c0
 .obtain⟨i,aX,hc⟩:=h.c1;exact⟨i,aX,(O.cell (p:=⟨s,1,none⟩) hs).trans hc⟩
 .exact(O.frozen (p:=⟨s,1,none⟩) hs).trans h.fz
theorem gq.eZ{w aT v:World}(h:gq s w aT)(O:Below w aT v):gq s w v:=
 ⟨O.os.trans h.os,O.tape.trans h.tape,O.output.trans h.output,L6 h.size O.size,λk aj hn=>(O.block k aj).trans (h.block k aj hn)⟩
theorem gq.frozen{s:Nat}{a b:World}(h:gq s a b){k j:Nat}(aj:k<a.heap.size)(hn:k≠s):b.frozen? ⟨k,j,none⟩=a.frozen? ⟨k,j,none⟩:=by
 simp only[World.frozen?,h.block k aj hn]
structure sf(w:World)(s b:Nat):Prop where
 lt:b<w.heap.size
 ne:b≠s
 cs:∃F s1 s2,w.cell? ⟨b,0,none⟩=some (.string F)/\w.cell? ⟨b,1,none⟩=some (.string s1)/\w.cell? ⟨b,2,none⟩=some (.string s2)
theorem sf.on{w ab:World}{b:Nat}(h:sf w s b)(he:gq s w ab):sf ab s b:=by
 obtain⟨hl,hn,F,s1,s2,h0,ac,ap⟩:=h;exact⟨LL hl he.size,hn,F,s1,s2,(he.cell hl hn).trans h0,(he.cell hl hn).trans ac,(he.cell hl hn).trans ap⟩
def VE.made:VE->Prop
 | .num n=>0<=n/\n<4611686018427387904
 | .hg _=>True
 | .loc _=>False
 | .iI _=>False
 | .un op x=>(op=3\/op=4)/\x.made
 | .bin op x y=>(5<=op/\op<=17)/\x.made/\y.made
theorem qn(w:World)(s:Nat)(A:Mt)(n c:Nat)(l:List Int)(h:cr w s A n c l) :
  Calls prog 135 #[.pointer (some ⟨s,0,none⟩)] w (xE w s A n c l 4611686018427387904):=by
 have H:=ae h;clear h;go_enter func135,ntmps135;go_wp2_with(fail);refine(a1 _ s A n c l 8 H.o ad ad).mono ?_;rintro e aS ⟨k,rfl,bp,ce,ac,ar⟩;have H1:=ag ac ar;clear ac ar;by_cases aj:k=1
 .have q:(k == 1)=true:=by simpa using aj
  go_wp2_with(fail);refine(a1 _ s A n c l 4611686018427387904 H1.1 ad ad).mono ?_;rintro e aT ⟨bY,rfl,cu,eC,ap,bJ⟩;have bc:=ag ap bJ;clear ap bJ;go_wp2;go_ret;exact⟨bY,rfl,cu,eC,bc.1,H1.2.trans bc.2⟩
 .have q:(k == 1)=false:=by simpa using aj
  go_wp2_with(fail);refine(a1 _ s A n c l 4 H1.1 ad ad).mono ?_;rintro e aT ⟨bY,rfl,cu,eC,ap,bJ⟩;have bc:=ag ap bJ;clear ap bJ;go_wp2;go_ret;exact⟨bY,rfl,cu,ad,bc.1,H1.2.trans bc.2⟩
theorem gq.fr{w ab:World}(h:gq s w ab):Fr (λb=>b=s) w ab:=⟨h.os,h.tape,h.output,h.size,h.block⟩
theorem ei{w X V:World}{g:Nat}{cs:Array Value}(vs:List Value)(hs:cs.size=vs.length)(aQ:au V g t cs)(aw:Fr M w V)(aR:w.heap.size<=g)(hX:rJ g V 0 vs=X):
  au X g t vs.toArray/\Fr M w X/\Fr (λb=>b=g) V X:=by
 subst hX;have J:=mI (g:=g) vs 0 V;refine⟨?_,aw.eZ (J.below aw.size λk aj h=>ad),J⟩;have ac:=la vs 0 V cs aQ;have ap:jg cs 0 vs=vs.toArray:=by
  apply Array.toList_inj.1
  rw[mj vs 0 cs ad];simp;omega
 rwa [ap] at ac
theorem cr.cT{w ab:World}{A:Mt}{n c:Nat}(h:cr w s A n c l)(O:Fr M w ab)(hM:∀b,b<=s->¬M b):cr ab s A n c l:=
 h.I7 (g:=s+1) (O.below h.lt λk aj=>hM k ad) ad
theorem Sl.Ez{w aS aT:World}{A:Mt}{n:Nat}{l:List D}(h:Sl aS (fresh w aS) A n l)(O:Fr M aS aT)(hM:∀b,M b->b<w.heap.size):Sl aT (fresh w aT) A n l:=
 (h.ai λb b0=>O.block b b0.2 λhm=>by have:=hM b hm;have:=b0.1;omega).mono λb b0=>⟨b0.1,LL b0.2 O.size⟩
theorem Sl.ta{w:World}{g n:Nat}{l:List D}(aQ:au w g t cs.toArray)(a5:D.aM w P l cs)(bg:P g)(hl:l.length=n):Sl w P (some ⟨g,0,none⟩) n l:=
 ⟨hl,λ_=>⟨g,0,cs,rfl,bg,a5,λj u bd=>by rw[L8,aQ.cell];simpa using bd⟩⟩
def tG(w:World)(s:Nat)(A:Mt)(n c:Nat)(l:List Int)(V:Mu)(d:Nat)(e:Ending)(ab:World):Prop:=
 ∃(x:VE) (cX:Mt) (cO cY:Nat),e=.returned (.agg #[.int .i64 x.bf,.int .i64 x.numOf,.string x.bu,.slice cX cO cY])/\x.src V d/\cO<=cY/\Sl ab (fresh w ab) cX cO (x.args.map bm)/\cr ab s A n c l/\Fr (λb=>b=s) w ab
def nc(w:World)(s:Nat)(V:Mu)(N:Mt)(bA:Nat):Prop:=Sl w (off (λb=>b=s) w) N bA (V.map .s)
theorem nc.on{w ab:World}{bA:Nat}(h:nc w s V N bA)(O:Fr (λb=>b=s) w ab):nc ab s V N bA:=Sl.cZ h O
theorem uU(w:World)(s:Nat)(A:Mt)(n c:Nat)(l:List Int)(V:Mu)(N:Mt)(bA bk:Nat)(d:Nat)(hd:d<=5)(bt:bA<=1000)(h:cr w s A n c l)(hN:nc w s V N bA)
  (ax:d≠0->∀aT:World,cr aT s A n c l->nc aT s V N bA->Calls prog 105 #[.pointer (some ⟨s,0,none⟩),.slice N bA bk,.int .i64 ((d:Int) - 1)] aT (tG aT s A n c l V (d - 1))) :
  Calls prog 105 #[.pointer (some ⟨s,0,none⟩),.slice N bA bk,d] w (tG w s A n c l V d):=by
 have b5:=ae ax;have cf:=h.lt;have S:=ag h hN;clear ax h hN;go_enter func105,ntmps105;go_wp2_with(fail);generalize ba:World.alloc _ _=W;have aw:=aU ba;have aQ:au W w 117 #[(0:Int),(0:Int),Mq,()]:=ba▸au.gX _ _ _ rfl;have ap:Fr (λb=>b=s) w W:=aw.mono λ_ h=>h.elim;have ah:=cL (S.1.cT aw λ_ _ h=>h) (S.2.on ap) ap aQ cf;clear ba aw aQ ap S;refine(a1 _ s A n c l 10 ah.1 ad ad).mono ?_;rintro e aS ⟨cx,rfl,aO,b0,h,he⟩;have H1:=ag h he.fr;have m:=ag aO b0;clear h he;have U:w<W.heap.size:=ah.2.2.2.1.lt;have cq:W<=aS.heap.size:=H1.2.size;by_cases f:((d:Int) == 0)=true\/((d:Int) == 0)=false/\decide (cx<2)=true
 .clear b5 m aO b0;rcases f with bu|⟨bu,dA⟩
  all_goals
   by_cases aM:0<bA
   .have ci:decide ((0:Int)<(bA:Int))=true:=by simp;omega
    go_wp2_with(fail);refine(a1 _ s A n c l 2 H1.1 ad ad).mono ?_;rintro e aT ⟨bY,rfl,G,bj,h,he⟩;have bc:=ag h (H1.2.trans he.fr);clear h he;by_cases cu:bY=1
    .have bp:(bY == 1)=true:=by simpa using cu
     clear cu G bj;go_wp2_with(fail);refine(a1 _ s A n c l bA bc.1 ad ad).mono ?_;rintro e b7 ⟨b9,rfl,L,aE,h,he⟩;have bQ:=ag h (bc.2.trans he.fr);clear h he;obtain⟨j,rfl⟩:=LP L;obtain⟨b,o,nm,cs,rfl,O,hm,a5,hl,hc⟩:=Sl.hf (enc:=D.s) (z:=1) (ah.2.1.on bQ.2) (λ_=>rfl) (k:=j) ad;have J:cs=[.string nm]:=by simpa only[D.rep] using a5
     subst J;have c0:=hc 0 _ rfl;simp only[Nat.mul_one,LW] at c0;have b8:=ah.2.2.2.1.on bQ.2 (λh=>by have:=ah.2.2.2.2;omega);have aB:=ae b8;obtain⟨e0,be,a6⟩:=b8.two;have F:=ae (LN hm);clear a5 hl hc hm b8;go_wp2_with(fail);generalize co:World.setCell _ _ _=Y;obtain⟨bH,bG,bx⟩:=ei (M:=λb=>b=s) [(2:Int),(0:Int),nm,()] (by rfl) aB.o (ah.2.2.1.trans bQ.2) (LK _) co;obtain⟨bl,aD,aP⟩:=bH.two;refine Mn (v:=.agg #[(2:Int),(0:Int),nm,()]) (by simp[results,Tryz.results105,go_sem,bl]) rfl ?_;exact⟨.hg nm,none,0,0,rfl,(by cases d<;>exact F.o),LK _,Sl.bS _,bQ.1.cT bx (λb O h=>by have:=ah.2.2.2.2;omega),bG⟩
    .have bp:(bY == 1)=false:=by simpa using cu
     clear cu G bj;go_wp2_with(fail);refine(qn _ s A n c l bc.1).mono ?_;rintro e b7 ⟨b9,rfl,L,aE,h,he⟩;have bQ:=ag h (bc.2.trans he.fr);exact Hl
   .obtain rfl:bA=0:=ad;go_wp2_with(fail);refine(qn _ s A n c l H1.1).mono ?_;rintro e b7 ⟨b9,rfl,L,aE,h,he⟩;have bQ:=ag h (H1.2.trans he.fr);exact Hl
 have aA:d≠0:=λh=>f (.inl (by simp[h]));have bu:((d:Int) == 0)=false:=by simp;omega
 have dA:decide (cx<2)=false:=by
  have:¬(decide (cx<2)=true):=λh=>f (.inr ⟨bu,h⟩);simpa using this
 have H:wrap64 ((d:Int) - 1)=(d:Int) - 1:=IntWalk.wrap64_in _ ad;have b4:=ae aA;have r:=ag U cq;clear f aA;by_cases bh:cx<4
 .obtain a2|a2:cx=2\/cx=3:=by simp at dA;omega
  all_goals
   subst a2;clear bh aO b0 m dA cq U;go_wp2_with(fail);refine(b5.o b4.o _ H1.1 (ah.2.1.on H1.2)).mono ?_;rintro e aT ⟨x,cX,cO,cY,rfl,hx,bv,ck,h,he⟩;have bc:=ag h (H1.2.trans he);have aN:=bF hx bv ck he;have b8:=ah.2.2.2.1.on bc.2 (λh=>by have:=ah.2.2.2.2;omega);have aB:=ae b8;obtain⟨e0,be,a6⟩:=b8.two;clear h he hx bv ck b8;go_wp2_with(fail);generalize co:World.setCell _ _ _=Y;have cd:Y=aT.heap.size:=by rw[<-co];simp
   obtain⟨bH,bG,bx⟩:=ei (M:=λb=>b=s) [.int .i64 _,(0:Int),Mq,.slice (some ⟨aT,0,none⟩) 1 1] (by rfl) aB.o (ah.2.2.1.trans bc.2) (LK _) co;generalize cG:World.alloc _ _=Z;have bs:=bH.alloc (.cells #[.int .i64 x.bf,.int .i64 x.numOf,.string x.bu,.slice cX cO cY] 117);rw[cG] at bs;have g:au Z aT 117 #[.int .i64 x.bf,.int .i64 x.numOf,.string x.bu,.slice cX cO cY]:=cG▸au.gX _ _ _ cd.symm;have a9:Fr (λb=>b=s) w Z:=cG▸bG.alloc _;have bf:Fr (λb=>b=w.heap.size) aT Z:=cG▸bx.alloc _;obtain⟨bl,aD,aP⟩:=bs.two;obtain⟨hx,bv,ck,he⟩:=aN.o;have b2:=ah.2.2.2.2;obtain⟨U,cq⟩:=r.o;have bL:=he.size;have a4:=g.lt;refine Mn (v:=.agg #[.int .i64 _,(0:Int),Mq,.slice (some ⟨aT,0,none⟩) 1 1]) (by simp[results,Tryz.results105,go_sem,bl];rfl) rfl ?_;have i:Sl Z (fresh w Z) cX cO (x.args.map bm):=(ck.ai λb O=>bf.block b O.2 (ay O.1)).mono λb O=>⟨by have:=O.1;omega,LL O.2 bf.size⟩
   refine⟨.un _ x,some ⟨aT,0,none⟩,1,1,rfl,?_,LK _,Sl.ta g (D.bg.2 (aZ.2 ⟨cX,cO,cY,rfl,bv,i⟩)) ⟨ad,a4⟩ rfl,bc.1.cT bf (λb O h=>ad),a9⟩;have:=b4.o;obtain⟨d2,rfl⟩:∃d2,d=d2+1:=⟨d - 1,ad⟩
   exact⟨by decide,hx⟩
 have dZ:decide (cx<4)=false:=by simpa using bh
 clear aO b0 bh cq U;go_wp2_with(fail);refine(a1 _ s A n c l 13 H1.1 ad ad).mono ?_;rintro e aT ⟨bY,rfl,G,bj,h,he⟩;have bc:=ag h (H1.2.trans he.fr);have bS:=he.size;clear h he;have I:wrap64 (5+bY)=5+bY:=IntWalk.wrap64_in _ ad;have ch:=ae (show 5<=5+bY/\5+bY<=17 by omega);have u:=ae bS;clear G bj bS dA dZ;go_wp2_with(fail);refine(b5.o b4.o _ bc.1 (ah.2.1.on bc.2)).mono ?_;rintro e b7 ⟨x,cX,cO,cY,rfl,hx,bv,ck,h,he⟩;have bQ:=ag h (bc.2.trans he);have aN:=bF hx bv ck he;clear h he hx bv ck;go_wp2_with(fail);refine(b5.o b4.o _ bQ.1 (ah.2.1.on bQ.2)).mono ?_;rintro e cS ⟨y,c5,dd,de,rfl,hx,bv,ck,h,he⟩;have P:=ag h (bQ.2.trans he);have bC:=bF hx bv ck he;have b8:=ah.2.2.2.1.on P.2 (λh=>by have:=ah.2.2.2.2;omega);have aB:=ae b8;obtain⟨e0,be,a6⟩:=b8.two;clear h he hx bv ck b8;go_wp2_with(fail);generalize co:World.setCell _ _ _=Y;have cd:Y=cS.heap.size:=by rw[<-co];simp
 obtain⟨bH,bG,bx⟩:=ei (M:=λb=>b=s) [.int .i64 (5+bY),(0:Int),Mq,.slice (some ⟨cS,0,none⟩) 2 2] (by rfl) aB.o (ah.2.2.1.trans P.2) (LK _) co;generalize cG:World.alloc _ _=Z;have bs:=bH.alloc (.cells #[.int .i64 x.bf,.int .i64 x.numOf,.string x.bu,.slice cX cO cY,.int .i64 y.bf,.int .i64 y.numOf,.string y.bu,.slice c5 dd de] 117);rw[cG] at bs;have g:au Z cS 117 #[.int .i64 x.bf,.int .i64 x.numOf,.string x.bu,.slice cX cO cY,.int .i64 y.bf,.int .i64 y.numOf,.string y.bu,.slice c5 dd de]:=cG▸au.gX _ _ _ cd.symm;have a9:Fr (λb=>b=s) w Z:=cG▸bG.alloc _;have bf:Fr (λb=>b=w.heap.size) cS Z:=cG▸bx.alloc _;obtain⟨bl,aD,aP⟩:=bs.two;obtain⟨hx,bv,ck,he⟩:=aN.o;obtain⟨bb,c9,c4,bJ⟩:=bC.o;have b2:=ah.2.2.2.2;obtain⟨U,cq⟩:=r.o;have bS:=u.o;have bL:=he.size;have bn:=bJ.size;have a4:=g.lt;refine Mn (v:=.agg #[.int .i64 (5+bY),(0:Int),Mq,.slice (some ⟨cS,0,none⟩) 2 2]) (by simp[results,Tryz.results105,go_sem,bl]) rfl ?_;have i:Sl Z (fresh w Z) cX cO (x.args.map bm):=(ck.ai λb O=>(bf.block b (ay O.2) (ay O.1)).trans (bJ.block b O.2 (ay O.1))).mono λb O=>⟨by have:=O.1;omega,by have:=O.2;omega⟩
 have t:Sl Z (fresh w Z) c5 dd (y.args.map bm):=(c4.ai λb O=>bf.block b O.2 (ay O.1)).mono λb O=>⟨by have:=O.1;omega,by have:=O.2;omega⟩
 refine⟨.bin (5+bY) x y,some ⟨cS,0,none⟩,2,2,rfl,?_,LK _,Sl.ta g (g3.2 ⟨_,_,rfl,aZ.2 ⟨cX,cO,cY,rfl,bv,i⟩,D.bg.2 (aZ.2 ⟨c5,dd,de,rfl,c9,t⟩)⟩) ⟨ad,a4⟩ rfl,P.1.cT bf (λb O h=>ad),a9⟩;have:=b4.o;obtain⟨d2,rfl⟩:∃d2,d=d2+1:=⟨d - 1,ad⟩
 exact⟨ch.o,hx,bb⟩
theorem pg(s:Nat)(A:Mt)(n c:Nat)(l:List Int)(V:Mu)(N:Mt)(bA bk:Nat)(bt:bA<=1000):∀(d:Nat),d<=5->∀(w:World),cr w s A n c l->nc w s V N bA->
  Calls prog 105 #[.pointer (some ⟨s,0,none⟩),.slice N bA bk,d] w (tG w s A n c l V d)
 | 0,hd,w,h,hN=>uU w s A n c l V N bA bk 0 hd bt h hN (λh=>absurd rfl h)
 | d+1,hd,w,h,hN=>uU w s A n c l V N bA bk (d+1) hd bt h hN (λ_ aT ap a=>by
   have:=pg s A n c l V N bA bk bt d ad aT ap a;rw[show ((d+1:Nat):Int) - 1=d by omega];exact this)
structure kx where
 s:Nat
 wb:Nat
 A:Option Addr
 n:Nat
 c:Nat
 l:List Int
 GA:Option Addr
 gn:Nat
 gc:Nat
 MA:Option Addr
 mn:Nat
 mc:Nat
 FA:Option Addr
 fn:Nat
 fc:Nat
 M:List bM
 F:List aL
 ar:Bool
abbrev kx.MW(p:kx):Nat->Prop:=λb=>b=p.s\/b=p.wb
structure gJ(w:World)(p:kx)(left:Nat):Prop where
 src:cr w p.s p.A p.n p.c p.l
 blk:au w p.wb 85 #[.pointer (some ⟨p.s,0,none⟩),.slice p.GA p.gn p.gc,.slice p.MA p.mn p.mc,.slice p.FA p.fn p.fc,.int .i64 left,.bool p.ar]
 ne:p.s<p.wb
 ms:Sl w (off p.MW w) p.MA p.mn (p.M.map eK)
 fs:Sl w (off p.MW w) p.FA p.fn (p.F.map dD)
 nm:1<=p.mn/\p.mn<=4
 nf:1<=p.fn/\p.fn<=4
 eD:∀m∈p.M,0<=m.size/\m.size<=3
 ja:∀f∈p.F,f.params.length<=2
 kO:left<=24
theorem gJ.next{w ab:World}{p:kx}(h:gJ w p left)(hs:cr ab p.s p.A p.n p.c p.l)(O:Fr (λb=>b=p.s) w ab):gJ ab p left:=
 ⟨hs,h.blk.on O (ay h.ne),h.ne,Sl.cZ h.ms (O.mono λ_ h=>.inl h),Sl.cZ h.fs (O.mono λ_ h=>.inl h),h.nm,h.nf,h.eD,h.ja,h.kO⟩
theorem gJ.aj{w ab:World}{p:kx}(h:gJ w p left)(O:Ext w ab):gJ ab p left:=h.next (h.src.cT O λ_ _ h=>h) (O.mono λ_ h=>h.elim)
theorem nc.aj{w ab:World}{bA:Nat}(h:nc w s V N bA)(O:Ext w ab):nc ab s V N bA:=h.on (O.mono λ_ h=>h.elim)
theorem iS{V:Mu}:∀(d:Nat) (x:VE),x.src V d->x.src V (d+1)
 | d,.num _,h=>by cases d<;>exact h
 | d,.hg _,h=>by cases d<;>exact h
 | d,.loc _,h=>by cases d<;>exact h.elim
 | d,.iI _,h=>by cases d<;>exact h.elim
 | 0,.un _ _,h=>h.elim
 | 0,.bin _ _ _,h=>h.elim
 | d+1,.un _ x,h=>⟨h.1,iS d x h.2⟩
 | d+1,.bin _ x y,h=>⟨h.1,iS d x h.2.1,iS d y h.2.2⟩
namespace CX
theorem AP(h:p:=by
 refine Mn (v:=.agg #[.int .i64 x.bf,.int .i64 x.numOf,.string x.bu,.slice cX cO cY]) (by simp[results,Tryz.results104,go_sem,bl]) rfl ?_;obtain⟨hx,bv,ck,cq,bS⟩:=aN.o;have b0:=H1.2.2.2.lt;exact⟨x,cX,cO,cY,rfl,iS 1 x hx,bv,(ck.ai λb O=>bx.block b O.2 (ay O.1)).mono λb O=>⟨by have:=O.1;omega,LL O.2 bx.size⟩,bc.1.cT bx (λb O h=>ad),bG⟩
 ):p:=h
theorem Ba(h:p:=by
 cases ar with
 | false=>
  go_wp2_with(fail);refine(a1 _ s A n c l sz ah.1.src ac ad).mono ?_;rintro e aS ⟨cx,rfl,aO,b0,h,he⟩;have aQ:=ah.2.2.2.on he.fr ad;have H1:=ag h (ah.2.2.1.trans he.fr);have da:=ag aO b0;obtain⟨e0,be,a6⟩:=aQ.two;have b9:=ae aQ;clear a0 ai af h he aQ aO b0;go_wp2_with(fail);generalize co:World.setCell _ _ _=Y;obtain⟨bH,bG,bx⟩:=ei (M:=λb=>b=s) [(1:Int),cx,Mq,()] (by rfl) b9.o H1.2 (LK _) co;obtain⟨bl,aD,aP⟩:=bH.two;refine Mn (v:=.agg #[(1:Int),cx,Mq,()]) (by simp[results,Tryz.results104,go_sem,bl]) rfl ?_
  exact⟨.num cx,none,0,0,rfl,⟨da.1,by have:=da.2;omega⟩,LK _,Sl.bS _,H1.1.cT bx (λb O h=>ad),bG⟩
 | true=>
  go_wp2_with(fail);refine(a1 _ s A n c l 3 ah.1.src ad ad).mono ?_;rintro e aS ⟨cx,rfl,aO,b0,h,he⟩;have aQ:=ah.2.2.2.on he.fr ad;have H1:=bF (ah.1.next h he.fr) (ah.2.1.on he.fr) (ah.2.2.1.trans he.fr) aQ;clear a0 ai af h he aQ ah;obtain⟨a0,ai,af⟩:=H1.1.blk.two;by_cases aj:cx=1
  .have q:(cx == 1)=true:=by simpa using aj
   clear aj aO b0;go_wp2_with(fail);refine(pg s A n c l V N bA bk bt 1 ad aS H1.1.src H1.2.1).mono ?_;rintro e aT ⟨x,cX,cO,cY,rfl,hx,bv,ck,h,he⟩;have aQ:=H1.2.2.2.on he ad;have bc:=ag h (H1.2.2.1.trans he);have aN:=cL hx bv ck he.size H1.2.2.1.size;exact BY
  .have q:(cx == 1)=false:=by simpa using aj
   clear aj aO b0;go_wp2_with(fail);refine(a1 _ s A n c l sz H1.1.src ac ad).mono ?_;rintro e aT ⟨bY,rfl,G,bj,h,he⟩;have aQ:=H1.2.2.2.on he.fr ad;have bc:=ag h (H1.2.2.1.trans he.fr);have da:=ag G bj;obtain⟨e0,be,a6⟩:=aQ.two;have b9:=ae aQ;clear a0 ai af h he aQ G bj;go_wp2_with(fail);generalize co:World.setCell _ _ _=Y;obtain⟨bH,bG,bx⟩:=ei (M:=λb=>b=s) [(1:Int),bY,Mq,()] (by rfl) b9.o bc.2 (LK _) co;obtain⟨bl,aD,aP⟩:=bH.two;refine Mn (v:=.agg #[(1:Int),bY,Mq,()]) (by simp[results,Tryz.results104,go_sem,bl]) rfl ?_;exact⟨.num bY,none,0,0,rfl,⟨da.1,by have:=da.2;omega⟩,LK _,Sl.bS _,bc.1.cT bx (λb O h=>ad),bG⟩
 ):p:=h
end CX
open CX in
theorem yV(p:kx)(left:Nat)(V:Mu)(N:Mt)(bA bk:Nat)(sz:Int)(ac:0<sz)(ap:sz<=3)(w:World)(h:gJ w p left)(hN:nc w p.s V N bA)(bt:bA<=1000) :
  Calls prog 104 #[.pointer (some ⟨p.wb,0,none⟩),.slice N bA bk,sz] w (tG w p.s p.A p.n p.c p.l V 2):=by
 obtain⟨s,wb,A,n,c,l,GA,gn,gc,MA,mn,mc,FA,fn,fc,M,F,ar⟩:=p;have H:=ag h hN;have an:=h.blk.lt;have cf:=h.src.lt;simp only at an cf;clear h hN;go_enter func104,ntmps104;exact A9
namespace CY
theorem dC(h:p:=by
 generalize co:World.setCell _ _ _=Y;obtain⟨bH,bG,bx⟩:=ei (M:=λb=>b=s) [.int .i64 x.bf,.int .i64 x.numOf,.string x.bu,.slice cX cO cY] (by rfl) b9.o bc.2 (LK _) co;obtain⟨bl,aD,aP⟩:=bH.two;go_wp2_with(fail);refine Mn (v:=.agg #[.int .i64 x.bf,.int .i64 x.numOf,.string x.bu,.slice cX cO cY]) (by simp[results,Tryz.results65,go_sem,bl]) rfl ?_;obtain⟨hx,bv,ck,cq,bS⟩:=aN.o;have a7:x.src V 2:=by
  obtain rfl|rfl:k=0\/k=1:=ad
  .exact iS 1 x hx
  .exact hx
 exact⟨x,cX,cO,cY,rfl,a7,bv,(ck.ai λb O=>bx.block b O.2 (ay O.1)).mono λb O=>⟨by have:=O.1;omega,LL O.2 bx.size⟩,bc.1.cT bx (λb O h=>ad),bG⟩
 ):p:=h
theorem AP(h:p:=by
 refine Mn (v:=.agg #[.int .i64 x.bf,.int .i64 x.numOf,.string x.bu,.slice cX cO cY]) (by simp[results,Tryz.results65,go_sem,bl]) rfl ?_;obtain⟨hx,bv,ck,cq,bS⟩:=aN.o;exact⟨x,cX,cO,cY,rfl,iS 1 x (iS 0 x hx),bv,(ck.ai λb O=>bx.block b O.2 (ay O.1)).mono λb O=>⟨by have:=O.1;omega,LL O.2 bx.size⟩,bc.1.cT bx (λb O h=>ad),bG⟩
 ):p:=h
theorem Ba(h:p:=by
 cases ar with
 | false=>
  go_wp2_with(fail);refine(pg s A n c l V N bA bk bt 0 ad W ah.1.src ah.2.1).mono ?_;rintro e aT ⟨x,cX,cO,cY,rfl,hx,bv,ck,h,he⟩;have aQ:=ah.2.2.2.on he ad;have bc:=ag h (ah.2.2.1.trans he);have aN:=cL hx bv ck he.size ah.2.2.2.lt
  exact BY
 | true=>
  have gU:¬wb=s:=by have:=ah.1.ne;simp only at this;omega
  go_upto_region 3 with(fail);refine eJ (λb=>b=s) [(0,3),(1,3),(2,3),(3,0),(4,3),(5,3),(6,3),(7,3),(8,0),(9,1),(10,3),(11,2),(12,2)] ?_
  iterate 3 refine pf ?_
  refine oH ?_
  iterate 4 refine pf ?_
  refine oH ?_;refine aB rfl (λK hK=>?_);go_simp;refine(a1 W.drew s A n c l 2 (ah.1.aj Mo.drew).src ad ad).mono ?_;rintro e aS ⟨cx,rfl,aO,b0,h,he⟩;obtain⟨k,rfl⟩:=LP aO;have cu:k<2:=ad;have ak:Fr (λb=>b=s) W aS:=Fr.aG he.fr;have H1:=bF (ah.1.next h ak) (ah.2.1.on ak) (ah.2.2.1.trans ak) (ah.2.2.2.on ak ad);refine dq hK (he.fr) ?_;clear hK K;clear h he ak a0 ai af aO b0;refine pf ?_;refine ax rfl (λK hK=>?_);go_simp;have ce:(1:Int)+(k:Int)=((k+1:Nat):Int):=ad;rw[ce,show IntKind.i64.wrap ((k+1:Nat):Int)=((k+1:Nat):Int) from IntWalk.i64_in _ ad];refine(pg s A n c l V N bA bk bt (k+1) ad aS H1.1.src H1.2.1).mono ?_;rintro e aT ⟨x,cX,cO,cY,rfl,hx,bv,ck,h,he⟩;have aQ:=H1.2.2.2.on he ad;have bc:=ag h (H1.2.2.1.trans he);have aN:=cL hx bv ck he.size H1.2.2.2.lt;obtain⟨e0,be,a6⟩:=aQ.two;have b9:=ae aQ;clear h he aQ hx bv ck;refine dX hK ?_;clear hK K;exact eS
 ):p:=h
end CY
open CY in
theorem jT(p:kx)(left:Nat)(V:Mu)(N:Mt)(bA bk:Nat)(w:World)(h:gJ w p left)(hN:nc w p.s V N bA)(bt:bA<=1000) :
  Calls prog 65 #[.pointer (some ⟨p.wb,0,none⟩),.slice N bA bk] w (tG w p.s p.A p.n p.c p.l V 2):=by
 obtain⟨s,wb,A,n,c,l,GA,gn,gc,MA,mn,mc,FA,fn,fc,M,F,ar⟩:=p;have H:=ag h hN;have an:=h.blk.lt;have cf:=h.src.lt;simp only at an cf;clear h hN;go_enter func65,ntmps65;exact A9
def Ji(w:World)(p:kx)(V:Mu)(ps:List (ByteArray×Bool))(e:Ending)(ab:World):Prop:=
 ∃(r:e4) (IA:Mt) (i ic:Nat),e=.returned (.agg #[.string r.name,.slice IA i ic])/\(∀fs,sc ⟨p.M,ps,fs⟩ V r)/\i<=ic/\Sl ab (fresh w ab) IA i (r.idx.toList.map bm)/\cr ab p.s p.A p.n p.c p.l/\Fr (λb=>b=p.s) w ab
theorem tm{w:World}{x:ByteArray×Bool}:(cD x).rep w P cs↔cs=[.string x.1,.bool x.2]:=by
 exact HG
theorem uJ{w:World}{x:ByteArray}:(D.s x).rep w P cs↔cs=[.string x]:=by simp only[D.rep]
theorem qV(p:kx)(left:Nat)(V:Mu)(N:Mt)(bA bk:Nat)(aY:ByteArray)(ps:List (ByteArray×Bool))(QA:Mt)(b1 qc:Nat)(bg:Value)(w:World)(h:gJ w p left)(hN:nc w p.s V N bA)(bt:bA<=1000)
  (bO:Sl w (off (λb=>b=p.s) w) QA b1 (ps.map cD)) (bK:b1<=2) :
  Calls prog 64 #[.pointer (some ⟨p.wb,0,none⟩),.agg #[aY,.slice QA b1 qc,bg],.slice N bA bk] w (Ji w p V ps):=by
 obtain⟨s,wb,A,n,c,l,GA,gn,gc,MA,mn,mc,FA,fn,fc,M,F,ar⟩:=p;have H:=az h hN bO;have an:=h.blk.lt;have cf:=h.src.lt;have R:=h.nm;have aQ:M.length=mn:=by have:=h.ms.1;simpa using this
 simp only at an cf R;clear h hN bO;go_enter func64,ntmps64;go_wp2_with(fail);generalize ba:World.alloc _ _=W;have aw:=h9 ba;have cK:=gb ba;have bM:=fG ba;have cN:W=w.heap.size+1+1:=by rw[<-ba];simp
 have ah:=az aw cK bM;clear ba aw cK bM;obtain⟨a7,r⟩:∃a7:Nat->List D,a7=λj=>(M.take j).map λm=>D.s m.name:=⟨_,rfl⟩
 have av:a7 0=[]:=by rw[r];rfl
 have bB:∀j m,M[j]?=some m->a7 (j+1)=a7 j++[.s m.name]:=λj m h=>by rw[r];simp only;rw[List.take_add_one,h];simp
 obtain⟨bv,aL,bw⟩:=ef r av bB;clear r av bB;go_loopw [7,8] (λho cA wr=>∃(k:Nat) (cM:Mt) (rc:Nat),k<=mn/\cA=.int .i64 k/\ho=.slice cM k rc/\Ext W wr/\Gr (λ_=>False) (w.heap.size+1+1) 9 1 wr cM k rc (a7 k)) (λ_ cA _=>mn - (intOf cA).toNat)
 case atStart=>exact⟨0,none,0,Md _,rfl,rfl,Mo,by rw[aL.o];exact Gr.nil _ _ _ _ _⟩
 case round=>
  obtain⟨k,cM,rc,aj,rfl,rfl,aw,hG⟩:=hrel;obtain⟨br,I⟩:=aJ aw hG;have J:=H.1.aj (ah.1.trans aw);obtain⟨a0,ai,af⟩:=J.blk.two;by_cases cg:k<mn
  .obtain⟨b,o,m,cs,aB,O,hm,a5,bh,hc⟩:=Sl.hf (z:=3) J.ms (λ_=>rfl) cg;simp only at aB;subst aB;obtain rfl:=ft.1 a5;have c0:=hc 0 _ rfl;simp only[LW] at c0;have cU:=ae hm;have bp:(0:Int)<=(k:Int):=ad;have ce:(k:Int)<(mn:Int):=ad;have cv:w+1+1<=wr.heap.size:=by have:=aw.size;omega
   clear aw hG J a5 hc bh hm;go_wp2_with((at_builtin;refine bL kF rfl (.tmp 23) (.tmp 33) rfl I.o (uJ.2 rfl) rfl rfl rfl ad ad cv ?_;intro bP c2 aT al aC cn cb;have bX:=ag al aC;clear al aC cn cb));have aW:Ext W aT:=br.eZ (bX.2.below br.size λj bd O=>by have:=(I.lt O).1;omega);have a8:=ae aW;clear aW;go_roundw
   case rel=>exact⟨k+1,bP,c2,ad,by go_num,rfl,a8.o,by rw[bw.o k m cU.o];exact bX.1⟩
   case measure=>exact aH
  .obtain rfl:k=mn:=ad;have bW:Gr (λ_=>False) (w.heap.size+1+1) 9 1 wr cM k rc ((M.map (·.name)).map D.s):=by
    have:=I.o;rw[bv.o] at this;simp only at this;rw[LS ad] at this;rw[List.map_map];exact this
   have bU:=ae bW;clear aw hG J I bW bv aL bw;go_wp2_with(fail);go_loopw [7,10] (λho cA wr=>∃(j:Nat) (cM:Mt) (rc:Nat) (bE:Mu),j<=b1/\cA=.int .i64 j/\ho=.slice cM (k+bE.length) rc/\bE.length<=2*j/\(∀x∈bE,(x,true)∈ps)/\Ext W wr/\Gr (λ_=>False) (w.heap.size+1+1) 9 1 wr cM (k+bE.length) rc ((M.map (·.name)++bE).map D.s)) (λ_ cA _=>b1 - (intOf cA).toNat)
   case atStart=>exact⟨0,cM,rc,[],Md _,rfl,rfl,by simp,(λx hx=>by cases hx),br.o,by rw[Mg];exact bU.o⟩
   case round=>
    obtain⟨j,cM,rc,bE,bd,rfl,rfl,cC,a6,aw,hG⟩:=hrel;clear bU br;obtain⟨br,I,S⟩:=ef aw hG a6;have cv:w+1+1<=wr.heap.size:=by have:=aw.size;omega
    by_cases cg:j<b1
    .obtain⟨d0,aK,aM⟩:=(ah.2.1.aj aw).two;obtain⟨b,o,q,cs,bR,O,hm,a5,bh,hc⟩:=Sl.hf (z:=2) (Sl.cZ H.2.2 ((ah.1.trans aw).mono (M':=λb=>b=s) λ_ h=>h.elim)) (λ_=>rfl) cg;subst bR;obtain rfl:=tm.1 a5;have c0:=hc 0 _ rfl;have c1:=hc 1 _ rfl;simp only[LW] at c0;have cU:=ae hm;have T:=O.1;have aV:(0:Int)<=(j:Int):=ad;have dN:(j:Int)<(b1:Int):=ad;clear aw hG a5 hc bh hm a6 O;obtain⟨q1,cJ⟩:=q
     cases cJ with
     | false=>
      go_wp2_with(fail);go_roundw
      case rel=>exact⟨j+1,cM,rc,bE,ad,by go_num,rfl,ad,S.o,br.o,I.o⟩
      case measure=>exact aH
     | true=>
      go_upto_region 11 with(fail);refine eJ (λ_=>False) [(0,3),(1,3),(2,0),(3,3),(4,3),(5,3),(6,0),(7,3),(8,0),(9,3),(10,3),(11,3),(12,0),(13,2),(14,2),(15,3)] ?_
      iterate 2 refine pf ?_
      refine ph ?_
      iterate 3 refine pf ?_
      refine ph ?_;refine pf ?_;refine ph ?_
      iterate 3 refine pf ?_
      refine ph ?_;refine ax rfl (λK hK=>?_);go_simp;refine dX hK ?_;clear hK K;generalize cG:World.drew (World.alloc _ _)=Z;have a9:=gQ cG;have bs:=kE cG;have aA:Src Z 1 (some ⟨wr,0,none⟩) 2 [q1,q1]:=⟨rfl,λu hu=>by
       simp only[L5,List.not_mem_nil,or_false] at hu;rcases hu with rfl|rfl<;>rfl,λ_=>⟨_,0,rfl,λj u bd=>by rw[L8,bs.cell];simpa using bd⟩⟩
      have bn:=I.aj a9;have a4:=a9.size;clear cG d0 aK aM c0 c1;refine ax rfl (λK hK=>?_);rw[if_pos (by rfl)];refine xA kF (.tmp 50) (.tmp 63) (by rfl) bn (m:=2) (k:=[D.s q1,D.s q1]) (cu.2 ⟨_,rfl,cu.2 ⟨_,rfl,aR.2 rfl⟩⟩) rfl aA (λh=>by cases h) (by rfl) (by rfl) ad ad ad ?_;intro bP c2 aT al aC cn cb;have aW:Ext W aT:=(br.trans a9).eZ (aC.below (ay br.size) λi aX O=>by have:=(I.lt O).1;omega);have bX:=ag al aW;clear al aC cn cb aW bn a9 bs aA;refine dX hK ?_;clear hK K;refine pf ?_;refine aF ?_;go_wp2_with(fail);go_roundw
      case rel=>
       refine⟨j+1,bP,c2,bE++[q1,q1],ad,by go_num,by simp[Nat.add_assoc],by simp;omega,?_,bX.2,?_⟩
       .intro x hx;rcases LU.1 hx with hx|hx
        .exact S.o x hx
        .simp at hx;subst hx;exact LN cU.o
       .have:=bX.1;rw[<-List.append_assoc,LR,LM];exact this
      case measure=>exact aH
    .obtain rfl:j=b1:=ad;have J:=H.1.aj (ah.1.trans aw);obtain⟨a0,ai,af⟩:=J.blk.two;obtain⟨d0,aK,aM⟩:=(ah.2.1.aj aw).two;have ch:1<=k+bE.length/\k+bE.length<=8:=ad;have bD:=ae J;clear aw hG a6 J;go_wp2_with(fail);refine(a1 wr s A n c l ((k+bE.length:Nat):Int) bD.src ad ad).mono ?_;rintro e aS ⟨b9,rfl,L,aE,h,he⟩;obtain⟨i3,rfl⟩:=LP L;have e1:i3<k+bE.length:=ad;have b2:s<w:=cf;have bo:=bD.next h he.fr;have ap:Fr (λb=>b=s) w aS:=((ah.1.trans br.o).mono λ_ h=>h.elim).trans he.fr;have b3:=I.cZ he.fr (λb O _=>⟨λh=>h,ad⟩);have bM:=(ah.2.2.aj br.o).on he.fr (λh=>ad);have H1:=bF bo ap b3 bM;have ao:Sl aS (aq aS) cM (k+bE.length) ((M.map (·.name)++bE).map D.s):=b3.sl (λ_ _ h=>h.elim) (λ_ h _=>h);obtain⟨b,o,x,cs,b4,O,hm,a5,bh,hc⟩:=Sl.hf (z:=1) ao (λ_=>rfl) e1;subst b4;obtain rfl:=uJ.1 a5;have c0:=hc 0 _ rfl;simp only[Nat.mul_one,LW] at c0;have cU:=ae hm;have ca:(0:Int)<=(i3:Int):=ad;have cc:(i3:Int)<((k+bE.length:Nat):Int):=ad;clear h he bo ap b3 ao a5 hc bh hm a0 ai af d0 aK aM bD L aE bM;go_upto_region 14 with(fail);generalize hX:World.alloc _ _=X;have bu:=aU hX;have b0:=aI hX;have cd:w+1+1<=aS.heap.size:=by have:=H1.2.2.2.lt;omega
     have bc:=cL (H1.1.aj bu) (H1.2.1.trans (bu.mono λ_ h=>h.elim)) (H1.2.2.2.aj bu) b0 (H.2.1.on (H1.2.1.trans (bu.mono λ_ h=>h.elim)));clear hX bu b0 H1 c0;obtain⟨a0,ai,af⟩:=bc.1.blk.two;obtain⟨bq,am,aG⟩:=bc.2.2.1.two;obtain⟨d0,aK,aM⟩:=bc.2.2.2.1.two;have gU:¬wb=s:=by have:=bc.1.ne;simp only at this;omega
     by_cases bT:i3<k
     .obtain⟨hv,bQ,m,cs,aB,bz,P,a5,bh,hc⟩:=Sl.hf (z:=3) bc.1.ms (λ_=>rfl) bT;simp only at aB;subst aB;obtain rfl:=ft.1 a5;have c2:=hc 2 _ rfl;have aO:x=m.name:=by
       have:=cU.o;rw[List.getElem?_append_left (by simp;omega),List.getElem?_map,P] at this;injection this with this;exact this.symm
      have bS:m∈M:=LN P;have a3:=bc.1.eD m bS;have aa:=ag aO bS;have bZ:(i3:Int)<(k:Int):=ad;clear a5 hc bh P aO bS bz;by_cases U:0<m.size
      .go_wp2_with(fail);refine(yV ⟨s,wb,A,n,c,l,GA,gn,gc,_,k,mc,FA,fn,fc,M,F,ar⟩ left V N bA bk m.size U a3.2 X bc.1 bc.2.2.2.2 bt).mono ?_;rintro e b7 ⟨y,c5,dd,de,rfl,bb,c9,c4,aA,ak⟩;simp only at aA ak;have bI:=bc.2.2.1.on ak ad;have cE:=bc.2.2.2.1.on ak ad;have a2:=bc.2.1.trans ak;have bi:=ak.size;clear a0 ai af bq am aG d0 aK aM c2;obtain⟨bq,am,aG⟩:=bI.two;obtain⟨d0,aK,aM⟩:=cE.two;have bC:=gr bb c9 c4 aA a2 bI cE;clear bb c9 c4 aA a2 ak bI cE;go_upto_region 16 with(fail);generalize cG:World.setCell _ _ _=Z;have a4:Z=b7.heap.size:=by rw[<-cG];simp
       generalize hQ:World.alloc _ _=Q;have bf:=cp cG;have ab:=aU hQ;have aN:au Q b7 117 #[.int .i64 y.bf,.int .i64 y.numOf,.string y.bu,.slice c5 dd de]:=hQ▸au.gX _ _ _ a4.symm;have bY:au Q aS 148 #[x,.slice (some ⟨b7,0,none⟩) 1 1]:=by
        have ac:au Z aS 148 #[x,.slice (some ⟨b7,0,none⟩) 1 1]:=cG▸bC.2.2.2.2.2.2.aN 1 _;exact ac.aj ab
       have bJ:=((bC.2.2.2.2.2.1.on bf ad).aj ab)
       have bV:Fr (λb=>b=s) w Q:=(bC.2.2.2.2.1.eZ (bf.below bC.2.2.2.2.1.size λi aX h=>ad)).trans (ab.mono λ_ h=>h.elim);have be:cr Q s A n c l:=(bC.2.2.2.1.cT bf λb O h=>ad).cT ab λ_ _ h=>h;have b6:aS<X.heap.size:=bc.2.2.2.1.lt;have bj:Sl Q (fresh X Q) c5 dd (y.args.map bm):=(bC.2.2.1.ai λb O=>(ab.block b (ay O.2) λh=>h).trans (bf.block b O.2 (ay O.1))).mono λb O=>⟨O.1,by have:=O.2;have:=ab.size;omega⟩
       have bN:=cL aN bJ bV be bj;have ci:=aN.lt;clear bq am aG d0 aK aM;obtain⟨bq,am,aG⟩:=bJ.two;obtain⟨d0,aK,aM⟩:=bY.two;clear cG hQ bf ab aN bY bJ bV be bj;go_wp2_with(fail);generalize co:World.setCell _ _ _=Y;obtain⟨bH,bG,bx⟩:=ei (M:=λb=>b=s) [x,.slice (some ⟨b7,0,none⟩) 1 1] (by rfl) bN.2.1 bN.2.2.1 ad co;obtain⟨bl,aD,aP⟩:=bH.two;refine Mn (v:=.agg #[x,.slice (some ⟨b7,0,none⟩) 1 1]) (by simp[results,Tryz.results64,go_sem,bl]) rfl ?_;obtain⟨aN,_,_,be,bj⟩:=bN.o;have b8:Sl Y (fresh w Y) c5 dd (y.args.map bm):=(bj.ai λb O=>bx.block b O.2 (ay O.1)).mono λb O=>⟨by have:=O.1;omega,LL O.2 bx.size⟩
       refine⟨⟨x,some y⟩,some ⟨b7,0,none⟩,1,1,rfl,λfs=>.inl ⟨m,aa.2,aa.1.symm,λ_=>⟨y,rfl,bC.1⟩,λh=>absurd U h⟩,LK _,?_,be.cT bx (λb O h=>ad),bG⟩;exact Sl.ta (aN.on bx ad) (D.bg.2 (aZ.2 ⟨c5,dd,de,rfl,bC.2.1,b8⟩)) ⟨ad,by have:=bx.size;omega⟩ rfl
      .go_wp2_with(fail);generalize co:World.setCell _ _ _=Y;obtain⟨bH,bG,bx⟩:=ei (M:=λb=>b=s) [x,()] (by rfl) bc.2.2.1 bc.2.1 ad co;obtain⟨bl,aD,aP⟩:=bH.two;refine Mn (v:=.agg #[x,()]) (by simp[results,Tryz.results64,go_sem,bl]) rfl ?_;exact⟨⟨x,none⟩,none,0,0,rfl,λfs=>.inl ⟨m,aa.2,aa.1.symm,λh=>absurd h ad,λ_=>rfl⟩,LK _,Sl.bS _,bc.1.src.cT bx (λb O h=>by simp only at O;omega),bG⟩
     .have bZ:¬(i3:Int)<(k:Int):=ad;go_wp2_with(fail);generalize co:World.setCell _ _ _=Y;obtain⟨bH,bG,bx⟩:=ei (M:=λb=>b=s) [x,()] (by rfl) bc.2.2.1 bc.2.1 ad co;obtain⟨bl,aD,aP⟩:=bH.two;refine Mn (v:=.agg #[x,()]) (by simp[results,Tryz.results64,go_sem,bl]) rfl ?_;have b5:x∈bE:=by
       have:=cU.o;rw[List.getElem?_append_right (by simp;omega)] at this;exact LN this
      exact⟨⟨x,none⟩,none,0,0,rfl,λfs=>.inr ⟨S.o x b5,rfl⟩,LK _,Sl.bS _,bc.1.src.cT bx (λb O h=>by simp only at O;omega),bG⟩
end Go.Proofs.YtpkfopfkdgkfkaaGreat

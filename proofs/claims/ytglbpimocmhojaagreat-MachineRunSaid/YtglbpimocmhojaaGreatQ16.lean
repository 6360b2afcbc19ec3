/- Part 16 of the proof. No condition of its own. -/
import Derived.Test.YtglbpimocmhojaaGreatQ10
import Derived.Test.YtglbpimocmhojaaGreatQ15
namespace Go.Proofs.YtglbpimocmhojaaGreat
open Go.RowKit Go.Proofs.Tryz
set_option maxRecDepth 1000000
set_option maxHeartbeats 25600000
set_option linter.unusedVariables false
variable{p:Prop}
theorem DX{w ab:World}{B e z:Nat}{v:Value}{n:Nat}{xs:List Value}(h:w.ownsRow B e z v n xs)(ap:∀b,B<=b->b<w.heap.size->ab.heap[b]?=w.heap[b]?):ab.ownsRow B e z v n xs:=by
 refine⟨h.1,?_⟩;rcases h.2 with au|⟨ah,cap,cur,bI,j,a9,rest⟩
 .exact .inl au
 .exact .inr ⟨ah,cap,cur,bI,j,(ap ah j (Array.getElem?_eq_some_iff.1 a9).1).trans a9,rest⟩
namespace BD
theorem dB(h:p:=by
 clear bS aL a6;generalize bB:World.setCell aT _ _=cK;have b5:=cJ bB;have bX:aq cK X.heap.size 55 #[.bool false,.int .i64 mi,.slice cC 1 bh]:=bB▸bj.aM 2 _;have al:=ag.on b5 ad;have br:=ab.on b5 ad;have j:=ae b5;clear bB bj ag ab b5;obtain⟨a0,ai,af⟩:=br.two;obtain⟨bS,aL,a6⟩:=bX.two;obtain⟨d6,dy,dC⟩:=al.two;go_wp2;rw[rounds_succ];go_wp2;generalize ct:World.setCell _ _ _=Y;obtain⟨az,aN,a3⟩:=b4.o;have bC:=a3.size;have aW:=aN.size;have bD:=j.size;have ck:Ext w cK:=⟨j.os.trans ((a9.trans (aN.trans a3)).os),j.tape.trans ((a9.trans (aN.trans a3)).tape),j.output.trans ((a9.trans (aN.trans a3)).output),KU (a9.trans (aN.trans a3)).size bD,
  λk ap _=>(j.block k (KE ap (a9.trans (aN.trans a3)).size) ad).trans ((a9.trans (aN.trans a3)).block k ap λh=>h)⟩
 obtain⟨bE,bG,bH⟩:=pI al ck (Nat.le_succ _) ct;obtain⟨bl,aA,aO⟩:=bE.two;refine Lk (v:=.agg #[.bool false,.int .i64 mi,.slice cC 1 bh]) (by simp[results,Tryz.results138,go_sem,bl]) rfl ?_;refine⟨_,_,_,_,_,rfl,?_,bG⟩;rw[bv.o];refine dT.2 ⟨cC,1,bh,rfl,ad,?_⟩;simp only[hx,Option.map_some,Option.toList_some,KJ,Lb];have cR:=bH.size;have fM:=c4.lt;have ci:∀b,dQ.heap.size<=b->b<aT.heap.size->Y.heap[b]?=aT.heap[b]?:=λb ac au=>(bH.block b ad ad).trans (j.block b au ad);have f:=DX az ci;simp only[KV,Le] at f;refine Sl.p9 f ?_ rfl (λah _ ac au=>⟨ad,au⟩);rw[D.bj];exact D.aL (λb aZ=>⟨by have:=aZ.1;omega,by have:=aZ.2;omega⟩) _ _ (D.aS (λb aZ=>(ci b aZ.1 (aC aZ.2)).trans (a3.block b aZ.2 λh=>h)) _ _ av.o)
 ):p:=h
theorem Am(h:p:=by
 refine dm rfl (by rfl) ?_
 try simp only[PU]
 refine dm rfl (by rfl) ?_
 try simp only[PU]
 refine ib rfl (by rfl) ?_
 try simp only[PU]
 refine dm rfl (by rfl) ?_
 try simp only[PU]
 iterate 2 refine pf ?_
 refine aE ?_;go_wp2;refine wp_loop_rounds 1 ?_;rw[rounds_succ];go_wp2;generalize ct:World.setCell _ _ _=Y;obtain⟨bE,bG,_⟩:=pI bb.o a9.o (Nat.le_succ _) ct;obtain⟨bl,aA,aO⟩:=bE.two;clear ct;refine Lk (v:=.agg #[.bool true,.int .i64 e4,.slice none 0 0]) (by simp[results,Tryz.results138,go_sem,bl]) rfl ?_;exact y7
 ):p:=h
theorem eQ(h:p:=by
 refine tf ?_;refine b3 ?_;generalize hX:World.setCell _ _ _=X;obtain⟨bz,bp,_⟩:=pI b7 bm aj hX;have a4:=ae (bq.trans bp);have bg:=ae (T.ai bp);have u:=ae (bI.ai bp);clear hX a8 am aF b7 bm aj;obtain⟨a8,am,aF⟩:=bz.two;go_upto_region 6 with(fail);generalize hV:World.alloc _ _=dQ;have L:=aX hV;have dr:=bz.ai L;have bd:=aK hV;have a9:=ae (a4.trans L);have N:=bg.ai L;have bb:=ae (u.ai L);have H:w.heap.size+2<=X.heap.size:=u.lt;obtain⟨bu,c4⟩:=aH N bd;clear hV L bz a8 am aF;obtain⟨a8,am,aF⟩:=dr.two;obtain⟨a0,ai,af⟩:=N.two;obtain⟨bS,aL,a6⟩:=bd.two;obtain⟨d6,dy,dC⟩:=bb.two;have bZ:w.heap.size+2<=dQ.heap.size:=ad;clear dr N bd;obtain⟨bi,cL,e4⟩:=v;simp only at *;rcases c5.o with⟨cF,an⟩|⟨au,m,h0,hm,cY,c0⟩
 .subst cF;have aM:n=0:=by have:=bo.1;rw[an] at this;exact this.symm
  subst aM;go_wp2;refine eK (λ_=>False) [(0,3),(1,0),(2,3),(3,3),(4,3),(5,3),(6,3),(7,3),(8,0),(9,3),(10,0),(11,3),(12,3),(13,0),(14,3),(15,3),(16,3)] ?_;refine pf ?_;refine ph ?_
  iterate 2 refine pf ?_
  refine dm rfl (by rfl) ?_;exact Al
 .subst au;obtain⟨mi,rfl⟩:=KI h0;rw[KY] at hm;obtain⟨_,MA,mn,mc,dH,cj,F⟩:=cQ.on a9.o;have bx:mi<mn:=by have:=(List.getElem?_eq_some_iff.1 hm).1;have:=F.1;rw[KH] at this;omega
  obtain⟨hq,bn,bK,cs,rfl,aU,aQ,bP,bL,be⟩:=F.g0 (z:=3) (λ_=>rfl) bx;rw[hm] at aQ;injection aQ with aQ;subst aQ;obtain rfl:=fb.1 bP;have f2:=be 2 _ rfl;have bw:hq<dQ.heap.size:=aU;have bF:g<dQ.heap.size:=KE b9.lt a9.size;clear F bL be bP aU;by_cases bt:0<m.size
  .have bV:decide (m.size > 0)=true:=by simpa using bt
   obtain⟨x,hx,ay⟩:=cY bt;have aG:=bo.on (Fr.ext a9.o);rw[hx] at aG;obtain rfl:1=n:=aG.1;obtain⟨b,o,bs,Z,bA,E,rfl,O,aB,e0,e1,e2,e3⟩:=Sl.DU aG (c7 x);obtain⟨B,bN,bc,e,cv,b2⟩:=a1.1 aB;simp only[List.cons.injEq,and_true] at e;obtain⟨rfl,rfl,rfl,rfl⟩:=e;have aV:b<dQ.heap.size:=O;have ak:=ae aB;have bQ:=ae (gg l x ay);have bW:=ae (b9.on a9.o);clear aB b2 O aG cY c0;go_wp2;refine eK (λ_=>False) [(0,3),(1,0),(2,3),(3,3),(4,3),(5,3),(6,3),(7,3),(8,0),(9,3),(10,0),(11,3),(12,3),(13,0),(14,3),(15,3),(16,3)] ?_;refine pf ?_;refine ph ?_
   iterate 6 refine pf ?_
   refine ph ?_;refine pf ?_;refine ph ?_
   iterate 2 refine pf ?_
   refine ph ?_
   iterate 3 refine pf ?_
   refine aE ?_;go_wp2;refine wp_loop_rounds 2 ?_;rw[rounds_succ];go_wp2;refine eK (λ_=>False) [(0,3),(1,0),(2,3),(3,3),(4,0),(5,3),(6,3),(7,0),(8,3),(9,1),(10,1),(11,2),(12,3),(13,2)] ?_;refine pf ?_;refine bO (v:=?_) rfl (by rfl) (λV hV=>?_) ?_;rotate_left
   .obtain⟨hVc,hVf⟩:=Fr.jk hV
    (go_simp<;>with_reducible rfl)
   try simp only[PU]
   iterate 2 refine pf ?_
   refine bO (v:=?_) rfl (by rfl) (λV hV=>?_) ?_;rotate_left
   .obtain⟨hVc,hVf⟩:=Fr.jk hV
    (go_simp<;>with_reducible rfl)
   try simp only[PU]
   iterate 2 refine pf ?_
   refine bO (v:=?_) rfl (by rfl) (λV hV=>?_) ?_;rotate_left
   .obtain⟨hVc,hVf⟩:=Fr.jk hV
    (go_simp<;>with_reducible rfl)
   try simp only[PU]
   refine pf ?_;refine aI rfl (λK hK=>?_);go_simp;refine(bQ.o g st _ _ _ _ _ _ _ (bW.on Ll.drew.drew) (D.on ak.o (Fr.ext Ll.drew.drew))).mono ?_;rintro e aS ⟨o1,n1,s1,bU,da,cp,rfl,cV,ar⟩;refine dz hK (ar) ?_;clear hK K;have aN:Ext dQ aS:=Fr.aF (Fr.aF ar);have G:(bk (bJ l x)).rep aS (fresh dQ aS) [.int .i64 o1,.int .i64 n1,.string s1,.slice bU da cp]:=cV;have av:=ae G;refine qV ?_;refine ax rfl (λK hK=>?_);rw[if_pos (by rfl)];have aW:=aN.size;refine xU _ po (.tmp 79) (.tmp 88) (by rfl) dQ.heap.size (.slice none 0 0) 0 [] _ (by rfl) ⟨by simp,.inl ⟨rfl,rfl⟩⟩ (by rfl) (by rfl) (by simp[Value.oneCell']) ad ad aW ?_;intro v2 aT az a7 _;obtain⟨cC,bh,rfl,bf,_⟩:=b1 az;have a3:Ext aS aT:=Ll.grown a7 (by simp[Value.ownBlock]);have bj:=(c4.ai aN).ai a3;have ag:=(bb.ai aN).ai a3;have ab:=(bu.ai aN).ai a3;have b4:=aD az aN a3;clear az a7 cV G ar aN a3 a0 ai af a8 am aF bS aL a6 d6 dy dC e0 e1 e2 e3 aV f2 bw bF cj;obtain⟨bS,aL,a6⟩:=bj.two;exact sq
  .have bV:decide (m.size > 0)=false:=by simp;omega
   have an:=c0 ad;have aM:n=0:=by have:=bo.1;rw[an] at this;exact this.symm
   subst aM;clear cY c0;go_wp2;refine eK (λ_=>False) [(0,3),(1,0),(2,3),(3,3),(4,3),(5,3),(6,3),(7,3),(8,0),(9,3),(10,0),(11,3),(12,3),(13,0),(14,3),(15,3),(16,3)] ?_;refine pf ?_;refine ph ?_
   iterate 6 refine pf ?_
   refine ph ?_;refine pf ?_;refine ph ?_
   iterate 2 refine pf ?_
   refine ph ?_
   iterate 3 refine pf ?_
   refine aE ?_;go_wp2;refine wp_loop_rounds 1 ?_;rw[rounds_succ];go_wp2;generalize ct:World.setCell _ _ _=Y;obtain⟨bE,bG,_⟩:=pI bb.o a9.o (Nat.le_succ _) ct;obtain⟨bl,aA,aO⟩:=bE.two;clear ct;refine Lk (v:=.agg #[.bool false,.int .i64 mi,.slice none 0 0]) (by simp[results,Tryz.results138,go_sem,bl]) rfl ?_;exact y7
 ):p:=h
theorem vq(h:p:=by
 refine(dV S ln lc l r.name V.drew (cf.on (Fr.ext bm.drew)) dt).mono ?_;rintro e aS ⟨rfl,ar⟩;rw[bT.o];simp only[iU,qT];refine dO hK ?_;clear hK K
 iterate 3 refine tf ?_
 have cE:=aR.ai (Fr.aF ar);have aN:=bm.trans (Fr.aF ar);clear aR bm ar;exact key W.heap.size aS ⟨aN,cE,KD _⟩
 ):p:=h
theorem Ac(h:p:=by
 refine k9 (P:=?P1) (ops:=?o1) (Q:=?q1) (R:=?r1) (tails:=?t1) (rest:=.pick [11] (λ_=>.free 12 (.stop))) (aa:=?aa) (C:=λc6 V=>Ext W V/\aq V c6 145 #[.string ⟨#[]⟩,.int .i64 0,.int .i64 0]/\W.heap.size<=c6) (λkey=>?main) ?key
 case main=>
  refine aY ?_ ?_
  ·
   refine bM rfl (λK hK=>?_) rfl;go_simp;refine(dV S ln lc l r.name W.drew (cf.on (Fr.ext Ll.drew)) dt).mono ?_;rintro e aS ⟨rfl,ar⟩;rw[bT.o];simp only[iU,qT];refine dO hK ?_;clear hK K
   iterate 3 refine tf ?_
   refine ao ?_;refine dP ?_;generalize hV:World.alloc _ _=V;have aR:=aK hV;have bm:Ext W V:=hV▸(Fr.aF ar).alloc _;exact C1
  ·
   exact vp
 case key=>
  rintro c6 V ⟨bm,b7,aj⟩;have cZ:=bI.lt;have co:=T.lt;obtain⟨a8,am,aF⟩:=b7.two;clear a0 ai af cT;exact fj
 ):p:=h
end BD
open BD in
theorem Fs:uT:=by
 intro g l M r bY st s A n c w bR hM a5;obtain⟨I,aP,aJ,e,U,hs⟩:=jw.1 a5;simp only[List.cons.injEq,Value.string.injEq,Value.slice.injEq,and_true] at e;obtain⟨rfl,rfl,rfl,rfl⟩:=e;obtain⟨v,J,ap⟩:=bY;have c5:=ae ap;have bv:=ae (show l6 l r=⟨v.kind == 5,v.n,r.idx.map (bJ l)⟩ by unfold l6;simp only[J]);obtain⟨bT,b9,cQ,bo⟩:=iS J bR hM hs;clear a5 hs bR hM ap J;go_enter func138,ntmps138;go_wp2;generalize ba:World.alloc _ _=W;have aw:=iN ba;have b6:=gC ba;have cD:=ga ba;clear ba;obtain⟨bq,T,bI⟩:=eh aw b6 cD;obtain⟨a2,S,ln,lc,dt,cT,y⟩:=b9.on aw;have cf:=ae y;obtain⟨a0,ai,af⟩:=b6.two;clear aw b6 cD y;exact Ab
def cz(s:List UInt8)(T:List Tok)(k:Nat):Bool:=match T[k]? with
 | some t=>(t.kind == 4 || t.kind == 3) && decide (strOf t.text=strOf s)
 | none=>false
def s4(q:Int)(T:List Tok)(k:Nat):Bool:=match T[k]? with
 | some t=>t.kind == q
 | none=>false
structure cj(w:World)(g:Nat)(A:Lp)(n c:Nat)(T:List Tok)(k deep:Nat):Prop where
 blk:aq w g 197 #[.slice A n c,.int .i64 k,.int .i64 0,.int .i64 0,.int .i64 0,.int .i64 deep]
 s5:cx (EF qR) 4 w g A n T
 lt:k<n
 jy:n<=4001
section
variable {w ab:World} {g:Nat} {A:Lp} {n c:Nat} {T:List Tok} {k deep:Nat}
theorem cj.on{M:Nat->Prop}(h:cj w g A n c T k deep)(O:Fr M w ab)(hM:∀b,M b->g<b):cj ab g A n c T k deep:=
 ⟨h.blk.on O λhm=>by have:=hM g hm;omega,h.s5.ez (O.below (aC h.blk.lt) λb O hm=>by have:=hM b hm;omega),h.lt,h.jy⟩
theorem cj.ai(h:cj w g A n c T k deep)(O:Ext w ab):cj ab g A n c T k deep:=h.on O λ_ h=>h.elim
theorem cj.tok(h:cj w g A n c T k deep):∃(b o:Nat) (t:Tok),A=some ⟨b,o,none⟩/\b<g/\T[k]?=some t/\w.cell? ⟨b,o+k*4,none⟩=some (.int .i64 t.kind)/\w.cell? ⟨b,o+k*4+1,none⟩=some (.string (strOf t.text))/\w.cell? ⟨b,o+k*4+2,none⟩=some (.int .i64 t.num)/\w.cell? ⟨b,o+k*4+3,none⟩=some (.int .i64 t.pos):=by
 have hl:=h.s5.1;obtain⟨b,o,bw,O,hc⟩:=h.s5.2 (aC h.lt);have ap:k<T.length:=by have:=h.lt;omega
 have ht:T[k]?=some T[k]:=List.getElem?_eq_getElem ap;obtain⟨cs,rfl,_,bi⟩:=hc k _ ht;have c0:=bi 0 _ rfl;simp only[KN] at c0;exact⟨b,o,_,bw,O,ht,c0,bi 1 _ rfl,bi 2 _ rfl,bi 3 _ rfl⟩
end
theorem FF(a b:List UInt8):((strOf a).toList == (strOf b).toList)=decide (strOf a=strOf b):=by
 by_cases h:strOf a=strOf b
 .rw[h];simp
 .rw[s3 h];simp[h]
namespace Bd
theorem dB(h:p:=by
 generalize hX:World.drew _=X;have aw:=gG hX;have aR:=kp hX;have bq:=ae aw;have b0:=(aR.ai Ll)
 obtain⟨d0,aL,aM⟩:=aR.two;obtain⟨a0,ai,af⟩:=(show aq X g 197 _ from cn.ai aw).two;clear hX aw aR b0;have lU:(t.kind == 4 || t.kind == 3)=true->cz s T k=((strOf t.text).toList == (strOf s).toList):=λh=>by rw[bo.o,h,FF,Bool.true_and]
 have d:(t.kind == 4 || t.kind == 3)=false->cz s T k=false:=λh=>by rw[bo.o,h,Bool.false_and]
 have bT:=ah lU d;clear lU d;by_cases bE:t.kind=4
 .have df:(t.kind == 4)=true:=by simpa using bE
  clear bE;go_wp2_with(fail);go_ret;exact⟨ret_bool (bT.1 (by simp[df])).symm,bq.o⟩
 .have df:(t.kind == 4)=false:=by simpa using bE
  clear bE;by_cases aU:t.kind=3
  .have dd:(t.kind == 3)=true:=by simpa using aU
   clear aU;go_wp2_with(fail);go_ret;exact⟨ret_bool (bT.1 (by simp[dd])).symm,bq.o⟩
  .have dd:(t.kind == 3)=false:=by simpa using aU
   clear aU;go_wp2_with(fail);go_ret;exact⟨ret_bool (bT.2 (by simp[dd,df])).symm,bq.o⟩
 ):p:=h
end Bd
open Bd in
theorem ly(s:List UInt8)(g:Nat)(A:Lp)(n c:Nat)(T:List Tok)(k deep:Nat)(w:World)(h:cj w g A n c T k deep) :
  Calls prog 112 #[.pointer (some ⟨g,0,none⟩),.string (strOf s)] w λe ab=>e=.returned (.bool (cz s T k))/\Ext w ab:=by
 obtain⟨b,o,t,rfl,O,ht,c0,c1,c2,c3⟩:=h.tok;have ak:=h.lt;have L:=h.jy;have ck:=h.blk.lt;have bz:(0:Int)<=(k:Int):=ad;have cb:(k:Int)<(n:Int):=ad;have cI:b<w.heap.size:=ad;have f:cz s T k=((t.kind == 4 || t.kind == 3) && decide (strOf t.text=strOf s)):=by unfold cz;rw[ht]
 have bo:=ae f;obtain⟨a0,ai,af⟩:=h.blk.two;have cn:=ae h.blk;clear h f ht;go_enter func112,ntmps112;go_upto_region 1 with(fail);refine eK (λ_=>False) [(0,3),(1,3),(2,3),(3,0),(4,3),(5,3),(6,3),(7,0),(8,3),(9,0),(10,1),(11,2)] ?_
 iterate 3 refine pf ?_
 refine ph ?_
 iterate 3 refine pf ?_
 refine ph ?_;refine pf ?_;refine ph ?_;refine qV ?_;exact eP
theorem dx(s:List UInt8)(g:Nat)(A:Lp)(n c:Nat)(T:List Tok)(k deep:Nat)(w:World)(h:cj w g A n c T k deep)(q:Bool)(bv:cz s T k=q)(ap:q=true->k+1<n) :
  Calls prog 114 #[.pointer (some ⟨g,0,none⟩),.string (strOf s)] w λe ab=>e=.returned (.bool q)/\cj ab g A n c T (if q=true then k+1 else k) deep/\Fr (λb=>b=g) w ab:=by
 obtain⟨H,bU⟩:=aH h bv;have ak:=h.lt;have L:=h.jy;clear h bv
 cases q with
 | false=>
  go_enter func114,ntmps114;go_wp2_with(fail);refine(ly s g A n c T k deep w H.o).mono ?_;rintro e aS ⟨rfl,aw⟩;rw[bU.o];have H1:=ah (H.ai aw) aw;clear aw ap;go_wp2_with(fail);go_ret
  exact⟨rfl,by simpa using H1.1,H1.2.mono λ_ h=>h.elim⟩
 | true=>
  have cN:=ap rfl;clear ap;go_enter func114,ntmps114;go_wp2_with(fail);refine(ly s g A n c T k deep w H.o).mono ?_;rintro e aS ⟨rfl,aw⟩;rw[bU.o];have H1:=ah (H.ai aw) aw;obtain⟨a0,ai,af⟩:=H1.1.blk.two;clear aw;go_wp2_with(fail);go_ret;have J:Fr (λb=>b=g) aS (aS.setCell ⟨g,1,none⟩ (.int .i64 ((k:Int)+1))):=(Fr.refl (λb=>b=g) aS).setCell (.inl rfl) _;refine⟨rfl,⟨?_,H1.1.s5.ez (J.below (aC H1.1.blk.lt) λb O hm=>ad),by simpa using cN,L⟩,(H1.2.mono λ_ h=>h.elim).trans J⟩;exact H1.1.blk.aM 1 (.int .i64 ((k:Int)+1))
theorem mL(s:List UInt8)(g:Nat)(A:Lp)(n c:Nat)(T:List Tok)(k deep:Nat)(w:World)(h:cj w g A n c T k deep)(bv:cz s T k=true)(ap:k+1<n) :
  Calls prog 141 #[.pointer (some ⟨g,0,none⟩),.string (strOf s)] w λe ab=>e=.returned (.tuple #[])/\cj ab g A n c T (k+1) deep/\Fr (λb=>b=g) w ab:=by
 obtain⟨H,bU⟩:=aH h bv;clear h bv;go_enter func141,ntmps141;go_wp2_with(fail);refine(dx s g A n c T k deep w H.o true bU.o (λ_=>ap)).mono ?_;rintro e aS ⟨rfl,aZ,hF⟩;have H1:=ah aZ hF;clear aZ hF;go_wp2_with(fail);refine bodyPost_end (v:=.tuple #[]) (by simp[results,Tryz.results141,go_sem]) rfl ?_;exact⟨rfl,by simpa using H1.1,H1.2⟩
theorem oN(q:Int)(g:Nat)(A:Lp)(n c:Nat)(T:List Tok)(k deep:Nat)(w:World)(h:cj w g A n c T k deep) :
  Calls prog 111 #[.pointer (some ⟨g,0,none⟩),.int .i64 q] w λe ab=>e=.returned (.bool (s4 q T k))/\Ext w ab:=by
 obtain⟨b,o,t,rfl,O,ht,c0,c1,c2,c3⟩:=h.tok;have ak:=h.lt;have L:=h.jy;have ck:=h.blk.lt;have bz:(0:Int)<=(k:Int):=ad;have cb:(k:Int)<(n:Int):=ad;have cI:b<w.heap.size:=ad;have f:s4 q T k=(t.kind == q):=by unfold s4;rw[ht]
 have bo:=ae f;obtain⟨a0,ai,af⟩:=h.blk.two;clear h f ht;go_enter func111,ntmps111;go_upto_region 1 with(fail);refine eK (λ_=>False) [(0,3),(1,3),(2,3),(3,0),(4,3),(5,3),(6,3),(7,3),(8,3),(9,0),(10,3),(11,3),(12,3),(13,0),(14,3),(15,3),(16,0),(17,3),(18,3),(19,3),(20,3)] ?_
 iterate 3 refine pf ?_
 refine ph ?_
 iterate 5 refine pf ?_
 refine ph ?_
 iterate 3 refine pf ?_
 refine ph ?_
 iterate 2 refine pf ?_
 refine ph ?_
 iterate 4 refine pf ?_
 refine aE ?_;go_wp2_with(fail);go_ret;exact⟨ret_bool bo.symm,Ll.drew⟩
theorem oO(g:Nat)(A:Lp)(n c:Nat)(T:List Tok)(k deep:Nat)(w:World)(t:Tok)(h:cj w g A n c T k deep)(ht:T[k]?=some t)(bv:t.kind=1)(ap:k+1<n) :
  Calls prog 117 #[.pointer (some ⟨g,0,none⟩)] w λe ab=>e=.returned (.string (strOf t.text))/\cj ab g A n c T (k+1) deep/\Fr (λb=>b=g) w ab:=by
 have H:=ae h;have d:s4 1 T k=true:=by unfold s4;rw[ht];simp[bv]
 obtain⟨bU,aa⟩:=aH d ht;have L:=h.jy;clear h d bv ht;go_enter func117,ntmps117;go_wp2_with(fail);refine(oN 1 g A n c T k deep w H.o).mono ?_;rintro e aS ⟨rfl,aw⟩;rw[bU.o];have H1:=ah (H.ai aw) aw;obtain⟨a0,ai,af⟩:=H1.1.blk.two;clear aw;go_upto_region 5 with(fail);generalize hX:World.setCell _ _ _=X;have J:=cJ hX;have aZ:cj X g A n c T (k+1) deep:=by
  rw[<-hX];have J:Fr (λb=>b=g) aS (aS.setCell ⟨g,1,none⟩ (.int .i64 ((k:Int)+1))):=(Fr.refl (λb=>b=g) aS).setCell (.inl rfl) _;exact⟨H1.1.blk.aM 1 (.int .i64 ((k:Int)+1)),H1.1.s5.ez (J.below (aC H1.1.blk.lt) λb O hm=>ad),ap,L⟩
 have aQ:=ah aZ ((H1.2.mono λ_ h=>h.elim).trans J);obtain⟨b,o,f,rfl,O,j,c0,c1,c2,c3⟩:=H1.1.tok;have G:f=t:=by
  have:=aa.o;rw[j] at this;injection this
 subst G;have ck:=aZ.blk.lt;have cI:b<X.heap.size:=ad;have I:¬b=g:=ad;have c1:X.cell? ⟨b,o+k*4+1,none⟩=some (.string (strOf f.text)):=(J.cell (aC H1.1.blk.lt) I).trans c1;clear a0 ai af c0 c2 c3 hX J;obtain⟨a0,ai,af⟩:=aZ.blk.two;have bz:(0:Int)<=(k:Int):=ad;have cb:(k:Int)<(n:Int):=ad;have i:(k:Int)<=4001:=ad;clear aZ j;refine eK (λ_=>False) [(0,3),(1,3),(2,3),(3,0),(4,3),(5,3),(6,3),(7,0),(8,3),(9,3),(10,3),(11,0),(12,3)] ?_
 iterate 3 refine pf ?_
 refine ph ?_
 iterate 3 refine pf ?_
 refine ph ?_;refine pf ?_;rw[show IntKind.i64.wrap ((k:Nat):Int)=(k:Int) from IntWalk.i64_in _ ad]
 iterate 2 refine pf ?_
 refine ph ?_;refine pf ?_;refine aE ?_;go_wp2_with(fail);go_ret;exact⟨rfl,aQ.1.ai Ll.drew,aQ.2.drew⟩
end Go.Proofs.YtglbpimocmhojaaGreat

/- Part 31 of the proof. No condition of its own. -/
import Derived.Test.YtglbpimocmhojaaGreatQ29
namespace Go.Proofs.YtglbpimocmhojaaGreat
open Go.RowKit Go.Proofs.Tryz
set_option maxRecDepth 1000000
set_option maxHeartbeats 25600000
set_option linter.unusedVariables false
variable{p:Prop}
def qg(x:Int):Int:=if Int.tmod x 16=7 then x else within x 4
def bT(l:List Int)(m:Nat):List Int:=(l.take m).map qg
theorem yw(A:Lp)(n c m:Nat)(l:List Int)(w:World)(h:cx (EF cT) 1 w w.heap.size A n l)(hm:m<=1000) :
  Calls prog 8 #[.slice A n c,.int .i64 m] w λr ab=>∃I aJ,r=.returned (.slice I (bT l m).length aJ)/\(bT l m).length<=aJ/\cx (EF cT) 1 ab ab.heap.size I (bT l m).length (bT l m)/\Below w.heap.size w ab/\∀g,(Value.slice I (bT l m).length aJ).ownBlock=some g->w.heap.size<=g:=by
 have hl:=h.1;have b9:=ae hl;clear hl;go_enter func8,ntmps8;go_wp2;go_loopw [5,6] (λv i wr=>∃k:Nat,k<=n/\k<=m/\i=.int .i64 k/\wr.ownsRow w.heap.size 3 1 v k (((l.take k).map qg).flatMap cT)/\Below w.heap.size w wr) (λ_ i _=>n - (intOf i).toNat)
 case atStart=>exact⟨0,KZ _,KZ _,rfl,World.ownsRow_nil _ _ _ _,Below.refl _ _⟩
 case round=>
  obtain⟨k,ap,s,rfl,aB,O⟩:=hrel;by_cases ak:k<n/\k<m
  .obtain⟨cm,cN⟩:=ak;obtain⟨b,o,x,rfl,U,hx,c0⟩:=(h.ez O).int cm;have b2:=O.size;have bo:=ae (show ((l.take (k+1)).map qg).flatMap cT=((l.take k).map qg).flatMap cT++[.int .i64 (qg x)] by rw[aZ hx,KK,List.map_singleton,ll]);clear hx;have e:qg x=if Int.tmod x 16=7 then x else within x 4:=rfl
   have u:=ae e;clear e;by_cases j:Int.tmod x 16=7
   .have q:=ae j;have f:(Int.tmod x 16 == 7)=true:=by simpa using j
    clear j;go_wp2_with(at_builtin;refine dk _ de (by rfl) (.tmp 24) (.tmp 29) (by rfl) w.heap.size _ _ _ _ (by rfl) aB (by rfl) (by rfl) (qa _ _) ad ad b2 ?_;intro v1 aS bb a7 cH);go_roundw
    case rel=>exact⟨k+1,ad,ad,by go_num,by rw[bo.o,u.o,if_pos q.o];exact bb,fO O aB a7 (KD _) b2⟩
    case measure=>exact aG
   .have q:=ae j;have f:(Int.tmod x 16 == 7)=false:=by simpa using j
    clear j;go_wp2_with(fail);refine(mb x 4 ad ad _).mono ?_;rintro r ab ⟨rfl,rfl⟩;go_wp2_with(at_builtin;refine dk _ de (by rfl) (.tmp 31) (.tmp 37) (by rfl) w.heap.size _ _ _ _ (by rfl) aB (by rfl) (by rfl) (qa _ _) ad ad b2 ?_;intro v1 aS bb a7 cH);go_roundw
    case rel=>exact⟨k+1,ad,ad,by go_num,by rw[bo.o,u.o,if_neg q.o];exact bb,fO O aB a7 (KD _) b2⟩
    case measure=>exact aG
  .obtain⟨bU,c1,rfl,dB,_,_,_⟩:=b1 aB;have hlen:(bT l m).length=k:=by
    have:=b9.o;unfold bT;rw[KH,List.length_take];omega
   have he:(l.take k).map qg=bT l m:=by
    have:=b9.o;unfold bT;congr 1
    rcases Nat.lt_or_ge k m with ac|ac
    .rw[KL ad,KL ad]
    .rw[show k=m by omega]
   obtain⟨F,bq⟩:=aH hlen he;clear hlen he;have fin:∃I aJ,Ending.returned (.slice bU k c1)=.returned (.slice I (bT l m).length aJ)/\(bT l m).length<=aJ/\cx (EF cT) 1 wr wr.heap.size I (bT l m).length (bT l m)/\Below w.heap.size w wr/\∀g,(Value.slice I (bT l m).length aJ).ownBlock=some g->w.heap.size<=g:=by
    rw[F.o,<-bq.o];exact⟨bU,c1,rfl,dB,jE aB (jA _) (by rw[bq.o];exact F.o),O,λg a2=>(aB.lt g a2).1⟩
   have d:=ae fin;clear fin;by_cases cm:k<n
   .have t:¬k<m:=λag=>ak ⟨cm,ag⟩;clear ak;go_wp2;go_ret;exact d.o
   .clear ak;go_wp2;go_ret;exact d.o
theorem rH(A:Lp)(n c m:Nat)(l:List Int)(w:World)(h:cx (EF cT) 1 w w.heap.size A n l)(hm:m<=1000) :
  Calls prog 8 #[.slice A n c,.int .i64 m] w λr ab=>∃I aJ,r=.returned (.slice I (bT l m).length aJ)/\(bT l m).length<=aJ/\cx (EF cT) 1 ab ab.heap.size I (bT l m).length (bT l m)/\Below w.heap.size w ab:=
 (yw A n c m l w h hm).mono λ_ _ ⟨I,aJ,ac,au,aU,bE,_⟩=>⟨I,aJ,ac,au,aU,bE⟩
theorem HF(q:SV)(s:aj)(x:Int)(w:World)(h:q.Ok w s)(ac:1<=q.hn)(au:q.hn<=1000000) :
  Calls prog 15 #[.agg (q.val s),.int .i64 x] w λe ab=>e=.returned (.int .i64 (within x q.hn))/\Ext w ab:=by
 obtain⟨bR,bV,bC,TA,tn,tc,HA,hn,hc⟩:=q;clear h;simp only at ac au;dsimp only[SV.val];go_enter func15,ntmps15;go_wp2_with(fail);refine(mb x hn ad ad _).mono ?_;rintro r ab ⟨rfl,rfl⟩;exact va
theorem ra{a b:World}(h:Below a.heap.size a b):Ext a b:=⟨h.os,h.tape,h.output,h.size,λk ap _=>h.block k ap⟩
namespace CS
theorem eQ(h:p:=by
 refine tf ?_;refine b3 ?_;generalize bI:World.setCell _ _ _=Z;obtain⟨bh,a9,bd⟩:=bA (w:=W) [.slice an av aj,.slice be s j,.slice bQ al bc,.int .i64 S.fault] (by rfl) bF cB gr bI;have M:(⟨an,av,aj,be,s,j,bQ,al,bc⟩:SV).Is Z (λb=>W.heap.size<=b/\b<Z.heap.size/\b≠az) S:=(L.ak λb O=>bd.block b O.2.1 O.2.2).mono λb O=>⟨O.1,by have:=bd.size;have:=O.2.1;omega,O.2.2⟩
 have bf:=aD M a9 bh;have bk:=ag.2.2.ai a9;have bZ:=a9.size;obtain⟨ax,o,G⟩:=bh.two;obtain⟨bl,aA,aO⟩:=bk.two;have z:=ae bk;clear bI bh a9 bd M bF cB gr L cr N aF bk;go_wp2_with(fail);generalize bI:World.setCell _ _ _=Y;obtain⟨bE,bG,bH⟩:=bA (w:=w) [.slice an av aj,.slice be s j,.slice bQ al bc,.int .i64 S.fault] (by rfl) z.o (ag.1.trans bf.2.1) ad bI;have bB:=ah bG bH;clear bI bG bH bl aA aO ax o G;obtain⟨bl,aA,aO⟩:=bE.two;refine Lk (v:=.agg #[.slice an av aj,.slice be s j,.slice bQ al bc,.int .i64 S.fault]) (by simp[results,Tryz.results14,go_sem,bl]) rfl ?_;have cR:=bB.2.size;exact⟨⟨an,av,aj,be,s,j,bQ,al,bc⟩,rfl,(bf.1.ak λb O=>bB.2.block b O.2.1 (aC O.1)).mono λb O=>⟨by have:=O.1;omega,by have:=O.2.1;omega⟩,bB.1⟩
 ):p:=h
theorem AP(h:p:=by
 have hd:W.drew.heap.size=W.heap.size:=rfl;have F:Ext W Z/\aq Z bX.heap.size 40 #[.slice none 0 0,.slice none 0 0,.slice none 0 0,.int .i64 0]/\W.heap.size<=bX.heap.size/\∃cI:SV,(Value.agg (ar.val S))=.agg (cI.val S)/\cI.Is Z (λb=>W.heap.size<=b/\b<Z.heap.size/\b≠bX.heap.size) S:=⟨((Fr.aF a3).trans a7).trans e2,aR,ad,ar,rfl,(r.ak λb O=>e2.block b O.2 λh=>h).mono λb O=>ad⟩
 clear bI e2 aR r a7 a3 s2 T eD hd cg bg ci;revert F;generalize bX.heap.size=az;exact zo
 ):p:=h
end CS
open CS in
theorem vZ(u:ay)(p:UV)(A:Lp)(n c:Nat)(l:List Int)(w:World)(hU:tq u)(hu:p.Ok w u)(hl:cx (EF cT) 1 w w.heap.size A n l) :
  Calls prog 14 #[.agg (p.val u),.slice A n c] w λe ab=>∃q:SV,e=.returned (.agg (q.val (iP u (dJ u) (bT l 60))))/\q.Is ab (fresh w ab) (iP u (dJ u) (bT l 60))/\Ext w ab:=by
 obtain⟨GA,gn,gc,MA,mn,mc,PA,pn,pc⟩:=p;have hlen:(bT l 60).length<=60:=by unfold bT;rw[KH,List.length_take];omega
 have hex:∃S,iP u (dJ u) (bT l 60)=S:=⟨_,rfl⟩
 obtain⟨S,hS⟩:=hex;have g:∃m:Nat,(jJ u (dJ u) (bT l 60)).length=m:=⟨_,rfl⟩
 obtain⟨m,hm⟩:=g;have cz:=bL hU hlen hS hm;have d4:∀(B:Lp) (k d:Nat) (V:World),(⟨GA,gn,gc,MA,mn,mc,PA,pn,pc⟩:UV).Ok V u->cx (EF cT) 1 V V.heap.size B k (bT l 60)->k<=60->Calls prog 52 #[.agg ((⟨GA,gn,gc,MA,mn,mc,PA,pn,pc⟩:UV).val u),.slice B k d] V (yW V S m):=by
  intro B k d V ac au aU;have:=Jt u (bT l 60) B k d V ⟨GA,gn,gc,MA,mn,mc,PA,pn,pc⟩ cz.1 ac au ad;rw[cz.2.2.1,cz.2.2.2] at this;exact this
 have aW:=ae d4;rw[hS];have H:=ah hu hl;clear hU hu hl hlen hS hm d4;dsimp only[UV.val];go_enter func14,ntmps14;go_upto_region 1 with(fail);generalize ba:World.alloc _ _=W;have aw:=iN ba;have cY:aq W w.heap.size 30 #[.slice GA gn gc,.slice MA mn mc,.slice PA pn pc,.int .i64 u.main]:=ba▸(Lm).alloc _;have b9:=ga ba;have ag:=aD aw cY b9;have am:=b9.lt;have f:=ah (H.1.on aw) (H.2.c8 aw.ext aw.size);obtain⟨bs,aV,bu⟩:=cY.two;clear ba aw cY b9;refine qY (λ_=>False) [8] (.held 0 (.free 1 (.pick [2,7] (λi=>bif i == 2 then .pick [3,7] (λi=>bif i == 3 then .free 4 (.free 5 (.free 6 (.pick [7] (λ_=>.pick [8] (λ_=>.free 9 (.stop)))))) else .pick [3] (λ_=>.free 4 (.free 5 (.free 6 (.pick [8] (λ_=>.free 9 (.stop))))))) else .pick [2] (λ_=>.pick [3] (λ_=>.free 4 (.free 5 (.free 6 (.pick [8] (λ_=>.free 9 (.stop))))))))))) ?_;refine th ?_;refine tf ?_;refine gV (P:=?ow) (ops:=?Hq) (Q:=?Hs) (R:=?Hu) (tails:=?HE) (rest:=.pick [8] (λ_=>.free 9 (.stop))) (aa:=?G3)
  (C:=λ(az:Nat) (J:Value) (Y:Value) eN=>Ext W eN/\aq eN az 40 #[.slice none 0 0,.slice none 0 0,.slice none 0 0,.int .i64 0]/\W.heap.size<=az/\∃ar:SV,Y=.agg (ar.val S)/\ar.Is eN (λb=>W.heap.size<=b/\b<eN.heap.size/\b≠az) S) (λkey=>?vY) ?vR
 case vY=>
  refine aY ?_ ?_
  ·
   refine aB rfl (λK hK=>?_) rfl;go_simp;refine(rH A n c 60 l W.drew (f.2.c8 (Below.drew (Below.refl _ _)) (KD _)) ad).mono ?_;rintro e aT ⟨A2,c2,rfl,ci,cg,bg⟩;have a3:Ext W.drew aT:=ra bg;have y:(bT l 60).length<=60:=cz.2.1;generalize c3:(bT l 60).length=aP at ci cg y ⊢;clear c3;refine dz hK (a3) ?_;clear hK K;refine aY ?_ ?_
   ·
    refine aB rfl (λK hK=>?_) rfl;go_simp;refine(aW.o A2 aP c2 aT (f.1.on (Fr.aF a3)) cg y).mono ?_;exact AO
   ·
    refine dP ?_;generalize bI:World.alloc _ _=Z;have e2:=aX bI;have aR:=aK bI;refine ao ?_;refine aB rfl (λK hK=>?_) rfl;go_simp;refine(aW.o A2 aP c2 Z (f.1.on ((Fr.aF a3).trans e2)) (cg.c8 e2.ext e2.size) y).mono ?_;rintro e cL ⟨ar,rfl,r,a7⟩;refine dz hK (a7) ?_;clear hK K
    iterate 3 refine tf ?_
    have s2:=a3.size;have T:=a7.size;have eD:=aR.lt;have hd:W.drew.heap.size=W.heap.size:=rfl;have F:Ext W cL/\aq cL aT.heap.size 40 #[.slice none 0 0,.slice none 0 0,.slice none 0 0,.int .i64 0]/\W.heap.size<=aT.heap.size/\∃cI:SV,(Value.agg (ar.val S))=.agg (cI.val S)/\cI.Is cL (λb=>W.heap.size<=b/\b<cL.heap.size/\b≠aT.heap.size) S:=⟨((Fr.aF a3).trans e2).trans a7,aR.ai a7,ad,ar,rfl,r.mono λb O=>ad⟩
    clear bI e2 aR r a7 a3 s2 T eD hd cg bg ci;revert F;generalize aT.heap.size=az;exact zo
  ·
   refine dP ?_;generalize bI:World.drew (World.alloc _ _)=Z;have e2:=gG bI;have aR:=kp bI;refine ao ?_;refine aB rfl (λK hK=>?_) rfl;go_simp;refine(rH A n c 60 l Z (f.2.c8 e2.ext e2.size) ad).mono ?_;rintro e aT ⟨A2,c2,rfl,ci,cg,bg⟩;have a3:Ext Z aT:=ra bg;have y:(bT l 60).length<=60:=cz.2.1;generalize c3:(bT l 60).length=aP at ci cg y ⊢;clear c3;refine dz hK (a3) ?_;clear hK K;refine ao ?_;refine aB rfl (λK hK=>?_) rfl;go_simp;refine(aW.o A2 aP c2 aT (f.1.on (e2.trans a3)) cg y).mono ?_;rintro e bX ⟨ar,rfl,r,a7⟩;refine dz hK (a7) ?_;clear hK K
   iterate 3 refine tf ?_
   have s2:=a3.size;have T:=a7.size;have eD:=aR.lt;have F:Ext W bX/\aq bX W.heap.size 40 #[.slice none 0 0,.slice none 0 0,.slice none 0 0,.int .i64 0]/\W.heap.size<=W.heap.size/\∃cI:SV,(Value.agg (ar.val S))=.agg (cI.val S)/\cI.Is bX (λb=>W.heap.size<=b/\b<bX.heap.size/\b≠W.heap.size) S:=⟨(e2.trans a3).trans a7,(aR.ai a3).ai a7,KD _,ar,rfl,r.mono λb O=>ad⟩
   clear bI e2 aR r a7 a3 s2 T eD cg bg ci;revert F key;generalize (Value.agg (ar.val S))=Y;generalize (Value.slice A2 aP c2)=J;intro key F;exact key W.heap.size J Y _ F
 case vR=>
  rintro az J Y eN ⟨cB,bF,gr,⟨an,av,aj,be,s,j,bQ,al,bc⟩,rfl,L⟩;dsimp only[SV.val];obtain⟨cr,N,aF⟩:=bF.two;clear bs aV bu;exact fj
theorem mkstate_any(u:ay)(p:UV)(A:Lp)(n c:Nat)(l:List Int)(w:World)(hU:tq u)(hu:p.Ok w u)(hl:cx (EF cT) 1 w w.heap.size A n l) :
  Calls prog 14 #[.agg (p.val u),.slice A n c] w λe ab=>∃q:SV,e=.returned (.agg (q.val (iP u (dJ u) (bT l 60))))/\q.Ok ab (iP u (dJ u) (bT l 60))/\Ext w ab:=
 (vZ u p A n c l w hU hu hl).mono λ_ _ ⟨q,he,bv,aw⟩=>⟨q,he,bv.ok λb O=>O.2,aw⟩
theorem IS(u:ay)(hU:tq u)(l:List Int):aV u 60 (iP u (dJ u) (bT l 60)):=by
 have h:=wx hU.ok (bT l 60) 0 (dJ u) (oI hU.ok);have hl:(bT l 60).length<=60:=by unfold bT;rw[KH,List.length_take];omega
 exact h.mono ad
theorem GC{w X V:World}{g:Nat}{t:TypeId}{v0 v1 c0 c1:Value}(aR:aq V g t #[c0,c1])(aw:Ext w V)(a2:w.heap.size<=g)(hX:(V.setCell ⟨g,0,none⟩ v0).setCell ⟨g,1,none⟩ v1=X):
  aq X g t #[v0,v1]/\Ext w X/\Fr (λb=>b=g) V X:=by
 subst hX;exact⟨(aR.aM 0 v0).aM 1 v1,(aw.setCell (.inr a2) _).setCell (.inr a2) _,((Fr.refl (λb=>b=g) V).setCell (.inl rfl) _).setCell (.inl rfl) _⟩
theorem sx{u:ay}(hu:cZ u){p:cH}(hp:p∈u.procs){c:az}(hc:c∈p.code)(bn:c.op=2\/c.op=3):
  ∃q,0<=c.target/\u.procs[c.target.toNat]?=some q/\(c.places.length:Int)=q.au/\q.au<=100/\∀pl∈c.places,pl.param=true->0<=pl.index/\pl.index<p.au:=by
 obtain⟨s,hs,hl,y⟩:=(hu.procs p hp).code;rw[hs] at hc;rcases KM.1 hc with hc|hc
 .rcases y c hc with h|h|h|h|h|h
  .omega
  .obtain⟨_,_,sg,h0,k,an,bk,_,aZ⟩:=h;simp only[bx,List.getElem?_map] at k
   cases bv:u.procs[c.target.toNat]? with
   | none=>rw[bv] at k;cases k
   | some q=>
    rw[bv] at k;injection k with k;subst k;refine⟨q,h0,rfl,bk,(hu.procs q (KG bv)).au.2,λpl hm O=>?_⟩;have:=aZ pl hm;unfold cU at this;simp_all
  .omega
  .omega
  .omega
  .omega
 .simp only[Lf] at hc;subst hc;simp[ni] at bn
namespace CC
theorem dB(h:p:=by
 clear e0 a6 aP;generalize bB:World.setCell aT _ _=cK;have b5:=cJ bB;have aa:aq cK W.heap.size 151 #[.int .i64 c.target,.slice aQ (j+1) aY]:=bB▸b4.2.1.aM 1 _;clear bB;have cB:=b4.1.c8 b5 (λb O _=>⟨λh=>h,ad⟩);have n:=aD aa cB (b4.2.2.trans b5);clear aa cB b5;go_wp2_with(fail);go_roundw
 case rel=>
  refine⟨j+1,aQ,aY,ad,by go_num,n.2.2,n.1,?_⟩;have:=n.2.1;rw[bw.o j pl an.o,<-cc.o];exact this
 case measure=>exact aG
 ):p:=h
end CC
open CC in
theorem pz(u:ay)(hu:cZ u)(GA:Lp)(gn gc:Nat)(MA:Lp)(mn mc:Nat)(PA:Lp)(pn pc:Nat)(x:hO)(cA:Lp)(cj cF:Nat)(p:cH)(h0:0<=x.proc)(hp:u.procs[x.proc.toNat]?=some p)(cm:(x.au.length:Int)=p.au)
  (k:Nat) (ap:k<p.code.length) (w:World) (hU:hq w (av w) u GA gn MA mn PA pn) (hX:Sl w (av w) cA cj (x.au.map .i)) :
  Calls prog 71 #[.agg #[.slice GA gn gc,.slice MA mn mc,.slice PA pn pc,.int .i64 u.main],.agg #[.int .i64 x.proc,.slice cA cj cF],.int .i64 k] w
   λe ab=>∃(ok:Bool) (y:hO) (cX:Lp) (da db:Nat),e=.returned (.tuple #[.agg #[.int .i64 y.proc,.slice cX da db],.bool ok])/\(ok=true->lV u y)/\da<=db/\Sl ab (fresh w ab) cX da (y.au.map .i)/\Ext w ab:=by
 obtain⟨eE,dn⟩:=x;simp only at h0 hp cm hX ⊢;obtain⟨dt,rfl⟩:=KI h0;rw[KY] at hp;have ex:u.procs.length=pn:=by rw[<-hU.p.1,KH]
 have yN:dt<pn:=by have:=(List.getElem?_eq_some_iff.1 hp).1;omega
 have gs:pn<=16:=by have:=hu.DT;omega
 have bj:p.code.length<=201:=by
  obtain⟨s,hs,hl,_⟩:=(hu.procs p (KG hp)).code;rw[hs];simp;omega
 obtain⟨cz,bb,dC,c8,cn,aK,bu⟩:=CT hu hu hU hX hp cm ap;clear hU hX hp cm h0 ex hu;go_enter func71,ntmps71;go_upto_region 1 with(fail);generalize ba:World.alloc _ _=W;have aw:=lF ba;have aR:=jo ba;have bs:=ir ba;have bD:=jq ba;obtain⟨bq,b1,br,a7⟩:=iS aw aR bs bD;obtain⟨a0,ai,af⟩:=aR.two;obtain⟨a8,am,aF⟩:=bs.two;obtain⟨d0,aL,aM⟩:=bD.two;clear ba aw aR bs bD;obtain⟨bW,op,dW,bx,b2,bK,rfl,bQ,cP,p0,be,dS,p3,p4,Z,T⟩:=(dC.on bq.o).proc yN;obtain rfl:dW=p:=by rw[cn.o] at cP;injection cP with cP;exact cP.symm
 have f2:dW.code.length=b2:=by rw[<-T.1,KH]
 have cN:k<b2:=ad;have bz:(0:Int)<=(k:Int):=ad;have cb:(k:Int)<(b2:Int):=ad;have ei:(0:Int)<=(dt:Int):=ad;have dQ:(dt:Int)<(pn:Int):=ad;obtain⟨bc,b6,c,cells,eo,en,es,EA,em,ec,QA,qm,qc,IA,i,ic,KA,m,cw,rfl,cv,hc,bZ,a4⟩:=T.DE cN;obtain⟨R,a1⟩:=aH bZ hc;have aZ:=bZ.cells;subst aZ;have c0:=a4 0 _ rfl;have c1:=a4 1 _ rfl;have aV:=a4 11 _ rfl;have bt:=ae T;clear a4 T hc cP p0 be dS p3 f2 bZ;simp only[KN] at c0;by_cases bn:c.op=2\/c.op=3
 case neg=>
  have fg:(c.op != 2)=true:=by simp;omega
  have o3:(c.op != 3)=true:=by simp;omega
  clear bn;go_wp2_with(fail);generalize ct:World.setCell _ _ _=Y;obtain⟨bE,bG,bH⟩:=GC a7.o bq.o ad ct;obtain⟨bl,aA,aO⟩:=bE.two;refine Lk (v:=.tuple #[.agg #[.int .i64 0,.slice none 0 0],.bool false]) (by simp[results,Tryz.results71,go_sem,bl]) rfl ?_;exact⟨false,⟨0,[]⟩,none,0,0,rfl,(λh=>by cases h),KD _,Sl.bN _,bG⟩
 case pos=>
  obtain⟨q,I,bv,P,ep,bS⟩:=sx cz.o (KG cn.o) (KG a1.o) bn;have hm:c.places.length=m:=by have:=R.places.1;simpa using this
  have bU:=bL I bv P bS;have dD:m<=100:=ad;have cQ:=ae hm;clear I bv P bS hm ep;rcases bn with bn|bn
  all_goals
   simp only[bn] at c0;clear bn;go_wp2_with(fail);generalize hV:World.alloc _ _=V;have bm:=aX hV;have gq:aq V W.heap.size 151 #[.int .i64 c.target,.slice none 0 0]:=hV▸aq.gz _ _ _ (by simp);have dk:W.heap.size<V.heap.size:=by rw[<-hV];simp
   clear hV;obtain⟨bN,N⟩:=aH bm gq;clear a0 ai af a8 am aF d0 aL aM bm gq;obtain⟨bO,r⟩:∃bO:Nat->List D,bO=λj=>(((c.places.take j).map λpl=>if pl.param then dn.getD pl.index.toNat 0 else pl.index).map .i):=⟨_,rfl⟩
   have bf:=ae r;have ao:bO 0=[]:=by rw[r];rfl
   have aJ:∀j pl,c.places[j]?=some pl->bO (j+1)=bO j++[.i (if pl.param then dn.getD pl.index.toNat 0 else pl.index)]:=λj pl h=>by rw[r];simp only;rw[List.take_add_one,h];simp
   obtain⟨S,bw⟩:=aH ao aJ;clear r ao aJ
   try rw[show w.heap.size+1+1=w.heap.size+2 from rfl]
   generalize decide ((k:Int)<0)=aU;generalize decide (b2<=k)=a9;generalize (aU || a9)=bJ;go_loopw [10] (λcu wr=>∃(j:Nat) (cX:Lp) (db:Nat),j<=m/\cu=.int .i64 j/\Fr (λb=>b=W.heap.size) V wr/\aq wr W.heap.size 151 #[.int .i64 c.target,.slice cX j db]/\Gr (λ_=>False) V.heap.size 3 1 wr cX j db (bO j)) (λi _=>m - (intOf i).toNat)
   case atStart=>exact⟨0,none,0,KZ _,rfl,Ll,N.o,by rw[S.o];exact Gr.nil _ _ _ _ _⟩
   case round=>
    obtain⟨j,cX,db,bi,rfl,J,ag,a2⟩:=hrel;have l:Ext W wr:=Fr.low (M:=λb=>b=W.heap.size) ((Fr.mono bN.o λ_ h=>h.elim).trans J) λk ap=>ad;have bo:=(l.s6.1 bc (b6+k*12+11) cv).trans aV;obtain⟨N,L,bT,cC⟩:=iS ag l J a2;have bV:W.heap.size<wr.heap.size:=ag.lt;have bp:bc<wr.heap.size:=KE cv l.size;obtain⟨e0,a6,aP⟩:=ag.two;obtain⟨a8,am,aF⟩:=(br.ai l).two;by_cases ak:j<m
    .obtain⟨di,fg,pl,bA,cg,bh,rfl,bg,bk,b7,q1,cI,_,_⟩:=(R.places.on (Fr.ext l)).oM ak;have bd:dn.length=cj:=by have:=c8.1;simpa using this
     have c3:=(bb.procs dW (KG cn.o)).au.2;have U:cj<=140737488355328:=by have:=aK.o;omega
     have ah:pl.param=true->0<=pl.index/\pl.index<cj:=λO=>by
      have ac:=bU.2.2.2 pl (KG bk) O;have:=aK.o;omega
     have dH:(0:Int)<=(j:Int):=ad;have dL:(j:Int)<(m:Int):=ad;obtain⟨z,a5,an⟩:=eh U ah bk;clear J ag a2 l aV bd c3 U ah bk;go_upto_region 8 with(fail);refine eK (λ_=>False) [(0,3),(1,0),(2,0),(3,3),(4,3),(5,3),(6,3),(7,0),(8,3),(9,3),(10,0),(11,1),(12,1),(13,2),(14,3),(15,2)] ?_;refine pf ?_
     iterate 2 refine ph ?_
     iterate 4 refine pf ?_
     refine ph ?_
     iterate 2 refine pf ?_
     refine ph ?_;refine aI rfl (λK hK=>?_);go_simp;obtain⟨v,bI⟩:∃v:Int,v=if pl.param then dn.getD pl.index.toNat 0 else pl.index:=⟨_,rfl⟩
     refine(yr dt cA cj cF dn pl [] (.slice bA cg bh) wr.drew (c8.on (Fr.ext ((bq.trans L.o).drew))) z.o a5.o).mono ?_;rintro e aS ⟨he,ar⟩;rw[<-bI] at he;subst he;have cc:=ae bI;clear bI;have aN:Ext wr aS:=Fr.aF ar;refine dz hK (ar) ?_;clear hK K;refine qV ?_;refine ax rfl (λK hK=>?_);rw[if_pos (by rfl)];clear ar;have aW:=aN.size;have bM:=bT.size;refine qD de (.tmp 60) (.tmp 71) (by rfl) (cC.ai aN) (d:=.i v) (by simp only[D.rep]) (by rfl) (by rfl) (by rfl) ad ad ad ?_;intro aQ aY aT bF az al ci;have aB:∀b,(Value.slice cX j db).ownBlock=some b->V.heap.size<=b:=λb O=>(cC.lt O).1;have H:=(N.ai aN).on az (λO=>by have:=aB _ O;omega);have a3:Fr (λb=>b=W.heap.size) V aT:=by
      have cR:=bT.size;have bC:=az.size;exact⟨az.os.trans (aN.os.trans bT.os),az.tape.trans (aN.tape.trans bT.tape),az.output.trans (aN.output.trans bT.output),ad,
       λb O hn=>(az.block b ad (λbn=>by have:=aB _ bn;omega)).trans ((aN.block b ad λh=>h).trans (bT.block b O hn))⟩
     have b4:=aD bF H a3;clear e0 a6 aP a8 am aF aN bF az al aB a3 b7 q1 cI;obtain⟨e0,a6,aP⟩:=H.two;clear H;refine dO hK ?_;clear hK K;refine pf ?_;exact eP
    .obtain rfl:j=m:=ad;have co:=a7.ai l;have aj:=ae co;obtain⟨d0,aL,aM⟩:=co.two;clear J ag a2 l co;go_wp2_with(fail);generalize ct:World.setCell _ _ _=Y;obtain⟨bE,bG,bH⟩:=GC aj.o (bq.trans L.o) ad ct;obtain⟨bl,aA,aO⟩:=bE.two;refine Lk (v:=.tuple #[.agg #[.int .i64 c.target,.slice cX j db],.bool true]) (by simp[results,Tryz.results71,go_sem,bl]) rfl ?_;obtain⟨q1,cI,dd,df⟩:=bU.o;have bR:=bq.size;have bP:=a7.lt;have cd:=cC.c8 bH (λb O _=>⟨λh=>h,ad⟩);refine⟨true,⟨c.target,c.places.map λpl=>if pl.param then dn.getD pl.index.toNat 0 else pl.index⟩,cX,j,db,rfl,λ_=>⟨q,q1,cI,by simpa using dd⟩,cC.cap.1,?_,bG⟩;have hS:=cd.sl (Q:=fresh w Y) (λb _ h=>h.elim) (λb ac au=>⟨ad,ac⟩);rw[bf.o] at hS;simp only at hS;rw[KL (aC cQ.o)] at hS;exact hS
end Go.Proofs.YtglbpimocmhojaaGreat

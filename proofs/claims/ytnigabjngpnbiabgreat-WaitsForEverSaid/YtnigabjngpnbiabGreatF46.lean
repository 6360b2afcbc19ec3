/- Part 46. No condition. -/
import Derived.Test.YtnigabjngpnbiabGreatF40
import Derived.Test.YtnigabjngpnbiabGreatF42
import Derived.Test.YtnigabjngpnbiabGreatF45
namespace Go.Proofs.YtnigabjngpnbiabGreat
open Go.RowKit Go.Proofs.Tryz
set_option maxRecDepth 1000000
set_option maxHeartbeats 25600000
set_option linter.unusedVariables false
variable{p:Prop}
theorem IM(u:aw)(s:ai)(t:Int)(N:Nat)(P:Nat->Prop)(w:World)(p:UV)(q:SV)(hU:yj u)(hS:aP u N s)(hN:N<=100000)(hu:p.Ok w u)(hs:q.Is w P s)(bh:∀b,P b->b<w.heap.size) :
  Calls prog 51 #[.agg (p.val u),.agg (q.val s),t] w (dd P w (bT u s t).1 (bT u s t).2):=by
 cases y:dF s t with
 | none=>rw[rm y];exact xL u s t P w p q hu hs bh y
 | some f=>
  obtain⟨cq,x,n,aB⟩:=jJ.of hU hS hN y;rw[rn y aB];have r:x.op=1\/x.op=2\/x.op=3\/x.op=4\/x.op=5\/x.op=6\/x.op=7\/x.op=8:=by
   exact AE
  rcases r with h|h|h|h|h|h|h|h
  .exact rb u s t f cq x N P w p q n hN (.inl h) hu hs bh
  .exact ra u s t f cq x N P w p q n hN (.inl h) hu hs bh
  .exact ra u s t f cq x N P w p q n hN (.inr h) hu hs bh
  .exact rf u s t f cq x N P w p q n hN (.inl h) hu hs bh
  .exact rf u s t f cq x N P w p q n hN (.inr h) hu hs bh
  .exact rb u s t f cq x N P w p q n hN (.inr h) hu hs bh
  .exact rh u s t f cq x N P w p q n hN (.inl h) hu hs bh
  .exact rh u s t f cq x N P w p q n hN (.inr h) hu hs bh
def Au(w:World)(s:ai)(m:Nat)(e:Ending)(ab:World):Prop:=∃q:SV,e=.returned (.tuple #[.agg (q.val s),.int .i64 (m:Int)])/\q.Is ab (λk=>w.heap.size<=k/\k<ab.heap.size) s/\Ext w ab
namespace D7
theorem fC(h:p:=by
 refine tf ?_;refine cj ?_;generalize hX:World.setCell _ _ _=X;obtain⟨bE,bt,ct⟩:=a9 (w:=wr) [.slice aJ ag T,.slice dn s r,.slice bY aA bc,.int .i64 (bT u S t).1.fault] (by rfl) bK cu fg hX;have aE:(⟨aJ,ag,T,dn,s,r,bY,aA,bc⟩:SV).Is X (λb=>W.heap.size<=b/\b<X.heap.size/\b≠aO.heap.size) (bT u S t).1:=(L.ak λb O=>ct.block b O.2.1 O.2.2.2).mono λb O=>⟨O.1,by have:=ct.size;have:=O.2.1;omega,O.2.2.1⟩
 have cl:=a3.2.1.aj bt;have y:=ay bt aE cl;obtain⟨b0,a8,bw⟩:=bE.two;obtain⟨bs,am,aK⟩:=cl.two;have cM:=bt.size;clear hX bK cu L ct bt aE cl bE
 cases bn:(bT u S t).2 with
 | true=>
  have cb:=ae bn;clear bn;go_wp2_with(fail);generalize cA:World.setCell _ _ _=Z;obtain⟨bm,a4⟩:=kY 0 [.slice aJ ag T,.slice dn s r,.slice bY aA bc,.int .i64 (bT u S t).1.fault] y.2.2 cA;have bj:=ah bm a4;clear cA bm a4 b0 a8 bw bs am aK;go_roundw
  case rel=>
   have ai:Fr (λb=>b=aO.heap.size) V Z:=Fr.trans (Fr.trans a3.1 (Fr.mono y.1 λ_ h=>h.elim)) bj.2;have hs:=a3.2.2.2.2.2.1 t aP.o;have cd:(j5 u S [t]).length=1:=by
    show ((if (bT u S t).2 then [t] else [])++[]).length=1
    rw[cb.o];rfl
   refine⟨k+1,⟨aJ,ag,T,dn,s,r,bY,aA,bc⟩,?_,by go_num,ad,ai,?_,?_⟩
   .rw[hs.1,M3,cd];go_num
   .rw[hs.2];exact bj.1
   .rw[hs.2];have U:=bj.2.size;exact(y.2.1.ak λb O=>bj.2.block b O.2.1 O.2.2).mono λb O=>⟨O.1,by have:=O.2.1;omega,O.2.2⟩
  case measure=>exact aH
 | false=>
  have cb:=ae bn;clear bn;go_wp2_with(fail);clear b0 a8 bw bs am aK;go_roundw
  case rel=>
   have ai:Fr (λb=>b=aO.heap.size) V X:=Fr.trans a3.1 (Fr.mono y.1 λ_ h=>h.elim);have hs:=a3.2.2.2.2.2.1 t aP.o;have cd:(j5 u S [t]).length=0:=by
    show ((if (bT u S t).2 then [t] else [])++[]).length=0
    rw[cb.o];rfl
   refine⟨k+1,⟨ac,sm,av,br,aB,az,bL,hm,hd⟩,?_,by go_num,ad,ai,?_,?_⟩
   .rw[hs.1,M3,cd,Nd]
   .rw[hs.2,mI cb.o];exact y.2.2
   .rw[hs.2,mI cb.o];exact(a3.2.2.1.IF (λb O=>O.2.1) y.1).mono λb O=>⟨O.1,by have:=O.2.1;omega,O.2.2⟩
  case measure=>exact aH
 ):p:=h
theorem nG(h:p:=by
 have al:=cQ aF cx (cc.1.on aF) (cc.2.cD (Fr.ext aF) aF.size) aT;have cZ:=aF.size;have dA:=cx.lt;obtain⟨a0,ak,af⟩:=aT.two;clear be aF aT cx cc;go_wp2_with(fail);refine(LF u W ⟨GA,gn,gc,MA,mn,mc,PA,pn,pc⟩ cz.o al.2.2.1).mono ?_;rintro e aO ⟨⟨bI,bU,bx,TA,tn,tc,HA,bk,hc⟩,rfl,N,aM⟩;have H1:=ah N aM;have cn:=aM.size;clear N aM a0 ak af;dsimp only[SV.val];go_upto_region 2 with(fail);generalize hV:World.alloc _ _=V;have aC:=aX hV;have b4:=aL hV;have bV:=b4.lt;have aG:(⟨bI,bU,bx,TA,tn,tc,HA,bk,hc⟩:SV).Is V (λb=>W.heap.size<=b/\b<V.heap.size/\b≠aO.heap.size) (eS u):=(H1.1.ak λb O=>aC.block b (O.resolve_left λh=>h).2 λh=>h).mono λb O=>by have:=O.resolve_left λh=>h;omega
 have j:=ay aG b4 (H1.2.trans aC);clear hV aC b4 aG;go_wp2_with(fail);go_loopw [7,8] (λhk b5 wr=>∃(k:Nat) (q:SV),hk=.int .i64 ((j5 u (eS u) (l.take k)).length:Int)/\b5=.int .i64 k/\k<=n/\Fr (λb=>b=aO.heap.size) V wr/\an wr aO 30 (q.val (jd u (eS u) (l.take k)))/\q.Is wr (λb=>W.heap.size<=b/\b<wr.heap.size/\b≠aO.heap.size) (jd u (eS u) (l.take k))) (λ_ b5 _=>n - (intOf b5).toNat)
 case atStart=>exact⟨0,_,rfl,rfl,ad,NC,j.2.1,j.1⟩
 case round=>
  obtain⟨k,⟨ac,sm,av,br,aB,az,bL,hm,hd⟩,rfl,rfl,aj,hF,H,ao⟩:=hrel;have J:Ext W wr:=Fr.low (M:=λb=>b=aO.heap.size) (Fr.trans (Fr.mono j.2.2 λ_ h=>h.elim) hF) λb O=>ad;have ca:=ri cz.ok (l.take k) 0 (eS u) (pD cz.ok);have aN:=JR (u:=u) (l.take k) (eS u);rw[List.length_take] at aN;have aR:(j5 u (eS u) (l.take k)).length<=100000:=ad;have cD:∀t,l[k]?=some t->j5 u (eS u) (l.take (k+1))=j5 u (eS u) (l.take k)++j5 u (jd u (eS u) (l.take k)) [t]/\jd u (eS u) (l.take (k+1))=(bT u (jd u (eS u) (l.take k)) t).1:=λt ht=>by
   rw[aU ht,v8,vK];exact⟨rfl,rfl⟩
  have m:k=n->jd u (eS u) (l.take k)=jd u (eS u) l/\j5 u (eS u) (l.take k)=j5 u (eS u) l:=λh=>by
   rw[Nb (ax al.2.2.2.1.1)];exact⟨rfl,rfl⟩
  generalize hS:jd u (eS u) (l.take k)=S at *;generalize aA:(j5 u (eS u) (l.take k))=M at *;have a3:=hz hF H ao J ca cD m;have fk:=hF.size;have ab:=ae (show W.heap.size<=aO.heap.size/\aO<V.heap.size/\V<=wr.heap.size from ⟨cn,bV,hF.size⟩);have b8:=H.lt;clear ca cD m hS aA aN;by_cases ap:k<n
  .have I:=al.2.2.2.1.cD (Fr.ext J) J.size;obtain⟨b,o,t,bF,O,hx,hc⟩:=I.int ap;subst bF;obtain⟨a0,ak,af⟩:=(al.2.2.2.2.aj J).two;obtain⟨bs,am,aK⟩:=H.two;have aP:=ae hx;clear hF H ao J I hx;go_upto_region 5 with(fail);refine sK (λ_=>False) [11] (.held 0 (.held 1 (.free 2 (.free 3 (.free 4 (.held 5 (.pick [6,10] (λi=>bif i == 6 then .free 7 (.free 8 (.free 9 (.pick [10] (λ_=>.pick [11] (λ_=>.free 12 (.stop)))))) else .pick [6] (λ_=>.free 7 (.free 8 (.free 9 (.pick [11] (λ_=>.free 12 (.stop)))))))))))))) ?_
   iterate 2 refine th ?_
   iterate 3 refine tf ?_
   refine th ?_;refine rq (P:=?pT) (ops:=?J1) (Q:=?J3) (R:=?J4) (tails:=?J8) (rest:=.pick [11] (λ_=>.free 12 (.stop))) (aa:=?J0)
    (C:=λ(dP:Nat) (Y:Value) eX=>Ext wr eX/\an eX dP 30 #[(),(),(),(0:Int)]/\wr<=dP/\∃z:SV,Y=.agg (z.val (bT u S t).1)/\z.Is eX (λb=>W.heap.size<=b/\b<eX.heap.size/\b≠aO.heap.size/\b≠dP) (bT u S t).1) (λkey=>?zU) ?zO
   case zU=>
    refine a2 ?_ ?_
    ·
     refine aD rfl (λK hK=>?_) rfl;go_simp;refine(IM u S t _ (λb=>W.heap.size<=b/\b<wr.heap.size/\b≠aO.heap.size) wr.drew ⟨GA,gn,gc,MA,mn,mc,PA,pn,pc⟩ ⟨ac,sm,av,br,aB,az,bL,hm,hd⟩ cz.o a3.2.2.2.2.1 (by rw[List.length_take];omega) (al.2.2.1.on a3.2.2.2.1.drew) (a3.2.2.1.ak λb O=>rfl) (λb O=>O.2.1)).mono ?_;rintro e aW ⟨z,rfl,au,a7⟩;refine dB hK (a7) ?_;clear hK K
     iterate 3 refine tf ?_
     refine aq ?_;refine ep ?_;generalize cA:World.alloc _ _=Z;have e2:=aX cA;have bO:wr<=aW.heap.size:=a7.size;have cI:=e2.size;have F:Ext wr Z/\an Z aW 30 #[(),(),(),(0:Int)]/\wr<=aW.heap.size/\∃cL:SV,(Value.agg (z.val (bT u S t).1))=.agg (cL.val (bT u S t).1)/\cL.Is Z (λb=>W.heap.size<=b/\b<Z.heap.size/\b≠aO.heap.size/\b≠aW.heap.size) (bT u S t).1:=
      ⟨(Fr.aF a7).trans e2,by rw[<-cA];exact ND,bO,z,rfl,(au.ak λb O=>e2.block b (O.elim (λh=>ad) λh=>h.2) λh=>h).mono λb O=>by
       have hd:wr.drew.heap.size=wr:=rfl;have:=ab.o;rcases O with O|O<;>omega⟩
     clear cA e2 bO cI au a7;revert F;generalize aW.heap.size=dP;generalize (Value.agg (z.val (bT u S t).1))=Y;intro F;exact key dP Y _ F
    ·
     refine ep ?_;generalize bh:World.drew (World.alloc _ _)=c3;have e1:=hy bh;have cg:=lW bh;have aI:=cg.lt;refine aq ?_;refine aD rfl (λK hK=>?_) rfl;go_simp;refine(IM u S t _ (λb=>W.heap.size<=b/\b<wr.heap.size/\b≠aO.heap.size) c3 ⟨GA,gn,gc,MA,mn,mc,PA,pn,pc⟩ ⟨ac,sm,av,br,aB,az,bL,hm,hd⟩ cz.o a3.2.2.2.2.1 (by rw[List.length_take];omega) (al.2.2.1.on (a3.2.2.2.1.trans e1)) (a3.2.2.1.IF (λb O=>O.2.1) e1) (λb O=>by have:=O.2.1;omega)).mono ?_;rintro e aW ⟨z,rfl,au,a7⟩;refine dB hK (a7) ?_;clear hK K
     iterate 3 refine tf ?_
     have bO:=a7.size;have F:Ext wr aW/\an aW wr 30 #[(),(),(),(0:Int)]/\wr<=wr.heap.size/\∃cL:SV,(Value.agg (z.val (bT u S t).1))=.agg (cL.val (bT u S t).1)/\cL.Is aW (λb=>W.heap.size<=b/\b<aW.heap.size/\b≠aO.heap.size/\b≠wr.heap.size) (bT u S t).1:=
      ⟨e1.trans a7,cg.aj a7,MU _,z,rfl,au.mono λb O=>by
       have:=ab.o;rcases O with O|O<;>omega⟩
     clear bh e1 cg aI bO au a7;revert F key;generalize (Value.agg (z.val (bT u S t).1))=Y;intro key F;exact key wr Y _ F
   case zO=>
    rintro dP Y eX ⟨cu,bK,fg,⟨aJ,ag,T,dn,s,r,bY,aA,bc⟩,rfl,L⟩;dsimp only[SV.val];obtain⟨b0,a8,bw⟩:=bK.two;clear a0 ak af bs am aK hc;exact fQ
  .have ce:k=n:=ad;have aQ:=ae ce;obtain⟨bs,am,aK⟩:=H.two;have ar:=al.2.1.aj J;have bA:=ah ar (al.1.trans J);obtain⟨bq,a1,a5⟩:=ar.two;clear hF H ao J ce ar;go_wp2_with(fail);generalize hX:World.setCell _ _ _=Z;obtain⟨bm,bd,a4⟩:=a9 (w:=w) [.slice ac sm av,.slice br aB az,.slice bL hm hd,.int .i64 S.fault] (by rfl) bA.1 bA.2 ad hX;have bj:=ah bd a4;clear hX bd a4 bq a1 a5 bs am aK;obtain⟨bq,a1,a5⟩:=bm.two;refine NB (v:=.tuple #[.agg #[.slice ac sm av,.slice br aB az,.slice bL hm hd,.int .i64 S.fault],.int .i64 (M.length:Int)]) (by simp[results,Tryz.results19,go_sem,bq]) rfl ?_;have m:=a3.2.2.2.2.2.2 aQ.o;rw[<-m.1,<-m.2];have cY:=bj.2.size;exact⟨⟨ac,sm,av,br,aB,az,bL,hm,hd⟩,rfl,(a3.2.2.1.ak λb O=>bj.2.block b O.2.1 (ax O.1)).mono λb O=>⟨by have:=O.1;omega,by have:=O.2.1;omega⟩,bj.1⟩
 ):p:=h
end D7
open D7 in
theorem JI(u:aw)(l:List Int)(A:NH)(n c:Nat)(w:World)(p:UV)(hU:yj u)(hu:p.Ok w u)(hl:cp (EF bQ) 1 w w.heap.size A n l)(hn:n<=100000) :
  Calls prog 19 #[.agg (p.val u),.slice A n c] w (Au w (jd u (eS u) l) (j5 u (eS u) l).length):=by
 obtain⟨GA,gn,gc,MA,mn,mc,PA,pn,pc⟩:=p;have cc:=ah hu hl;have cz:=ae hU;clear hU hu hl;dsimp only[UV.val];go_enter func19,ntmps19;exact nF
def qV(x:Int):Int:=if Int.tmod x 16=7 then x else within x 4
def bR(l:List Int)(m:Nat):List Int:=(l.take m).map qV
theorem sG(A:NH)(n c m:Nat)(l:List Int)(w:World)(h:cp (EF bQ) 1 w w.heap.size A n l)(hm:m<=1000) :
  Calls prog 10 #[.slice A n c,m] w λr ab=>∃I aD,r=.returned (.slice I (bR l m).length aD)/\(bR l m).length<=aD/\cp (EF bQ) 1 ab ab I (bR l m).length (bR l m)/\Below w w ab/\∀g,(Value.slice I (bR l m).length aD).ownBlock=some g->w.heap.size<=g:=by
 have hl:=h.1;have bT:=ae hl;clear hl;go_enter func10,ntmps10;go_wp2;go_loopw [5,6] (λv i wr=>∃k:Nat,k<=n/\k<=m/\i=.int .i64 k/\wr.ownsRow w 3 1 v k (((l.take k).map qV).flatMap bQ)/\Below w w wr) (λ_ i _=>n - (intOf i).toNat)
 case atStart=>exact⟨0,Nq _,Nq _,rfl,World.ownsRow_nil _ _ _ _,Below.refl _ _⟩
 case round=>
  obtain⟨k,aj,q,rfl,aB,O⟩:=hrel;by_cases ap:k<n/\k<m
  .obtain⟨ce,cK⟩:=ap;obtain⟨b,o,x,rfl,ao,hx,c0⟩:=(h.fA O).int ce;have b3:=O.size;have bH:=ae (show ((l.take (k+1)).map qV).flatMap bQ=((l.take k).map qV).flatMap bQ++[.int .i64 (qV x)] by rw[aU hx,Na,List.map_singleton,dT]);clear hx;have e:qV x=if Int.tmod x 16=7 then x else within x 4:=rfl
   have j:=ae e;clear e;by_cases C:Int.tmod x 16=7
   .have al:=ae C;have f:(Int.tmod x 16 == 7)=true:=by simpa using C
    clear C;go_wp2_with(at_builtin;refine b9 _ cF (by rfl) (.tmp 24) (.tmp 29) (by rfl) w _ _ _ _ (by rfl) aB (by rfl) (by rfl) (hL _ _) ad ad b3 ?_;intro v1 aO aA aY bC);go_roundw
    case rel=>exact⟨k+1,ad,ad,by go_num,by rw[bH.o,j.o,if_pos al.o];exact aA,dy O aB aY (MU _) b3⟩
    case measure=>exact aH
   .have al:=ae C;have f:(Int.tmod x 16 == 7)=false:=by simpa using C
    clear C;go_wp2_with(fail);refine(ku x 4 ad ad _).mono ?_;rintro r ab ⟨rfl,rfl⟩;go_wp2_with(at_builtin;refine b9 _ cF (by rfl) (.tmp 31) (.tmp 37) (by rfl) w _ _ _ _ (by rfl) aB (by rfl) (by rfl) (hL _ _) ad ad b3 ?_;intro v1 aO aA aY bC);go_roundw
    case rel=>exact⟨k+1,ad,ad,by go_num,by rw[bH.o,j.o,if_neg al.o];exact aA,dy O aB aY (MU _) b3⟩
    case measure=>exact aH
  .obtain⟨cR,c1,rfl,c4,_,_,_⟩:=bG aB;have hlen:(bR l m).length=k:=by
    have:=bT.o;unfold bR;rw[M5,List.length_take];omega
   have he:(l.take k).map qV=bR l m:=by
    have:=bT.o;unfold bR;congr 1
    rcases Nat.lt_or_ge k m with ac|ac
    .rw[Nb ad,Nb ad]
    .rw[show k=m by omega]
   obtain⟨F,bk⟩:=aJ hlen he;clear hlen he;have fin:∃I aD,Ending.returned (.slice cR k c1)=.returned (.slice I (bR l m).length aD)/\(bR l m).length<=aD/\cp (EF bQ) 1 wr wr I (bR l m).length (bR l m)/\Below w w wr/\∀g,(Value.slice I (bR l m).length aD).ownBlock=some g->w.heap.size<=g:=by
    rw[F.o,<-bk.o];exact⟨cR,c1,rfl,c4,gH aB (gE _) (by rw[bk.o];exact F.o),O,λg aR=>(aB.lt g aR).1⟩
   have d:=ae fin;clear fin;by_cases ce:k<n
   .have s:¬k<m:=λag=>ap ⟨ce,ag⟩;clear ap;go_wp2;go_ret;exact d.o
   .clear ap;go_wp2;go_ret;exact d.o
theorem sF(A:NH)(n c m:Nat)(l:List Int)(w:World)(h:cp (EF bQ) 1 w w.heap.size A n l)(hm:m<=1000) :
  Calls prog 10 #[.slice A n c,m] w λr ab=>∃I aD,r=.returned (.slice I (bR l m).length aD)/\(bR l m).length<=aD/\cp (EF bQ) 1 ab ab I (bR l m).length (bR l m)/\Below w w ab:=
 (sG A n c m l w h hm).mono λ_ _ ⟨I,aD,ac,az,aV,aU,_⟩=>⟨I,aD,ac,az,aV,aU⟩
theorem lj{a b:World}(h:Below a a b):Ext a b:=⟨h.os,h.tape,h.output,h.size,λk aj _=>h.block k aj⟩
namespace Ej
theorem fC(h:p:=by
 refine tf ?_;refine cj ?_;generalize cA:World.setCell _ _ _=Z;obtain⟨bm,bd,a4⟩:=a9 (w:=W) [.slice aJ ag T,.slice dn s r,.slice bY aA bc,.int .i64 S.fault] (by rfl) bK cu fg cA;have y:(⟨aJ,ag,T,dn,s,r,bY,aA,bc⟩:SV).Is Z (λb=>W.heap.size<=b/\b<Z.heap.size/\b≠dP) S:=(L.ak λb O=>a4.block b O.2.1 O.2.2).mono λb O=>⟨O.1,by have:=a4.size;have:=O.2.1;omega,O.2.2⟩
 have bj:=ay y bd bm;have bk:=al.2.2.aj bd;have U:=bd.size;obtain⟨bh,aR,aZ⟩:=bm.two;obtain⟨bq,a1,a5⟩:=bk.two;have E:=ae bk;clear cA bm bd a4 y bK cu fg L ci aH aK bk;go_wp2_with(fail);generalize cA:World.setCell _ _ _=Y;obtain⟨bM,bA,bz⟩:=a9 (w:=w) [.slice aJ ag T,.slice dn s r,.slice bY aA bc,.int .i64 S.fault] (by rfl) E.o (al.1.trans bj.2.1) ad cA;have bB:=ah bA bz;clear cA bA bz bq a1 a5 bh aR aZ;obtain⟨bq,a1,a5⟩:=bM.two;refine NB (v:=.agg #[.slice aJ ag T,.slice dn s r,.slice bY aA bc,.int .i64 S.fault]) (by simp[results,Tryz.results15,go_sem,bq]) rfl ?_;have cX:=bB.2.size;exact⟨⟨aJ,ag,T,dn,s,r,bY,aA,bc⟩,rfl,(bj.1.ak λb O=>bB.2.block b O.2.1 (ax O.1)).mono λb O=>⟨by have:=O.1;omega,by have:=O.2.1;omega⟩,bB.1⟩
 ):p:=h
end Ej
open Ej in
theorem xq(u:aw)(p:UV)(A:NH)(n c:Nat)(l:List Int)(w:World)(hU:yj u)(hu:p.Ok w u)(hl:cp (EF bQ) 1 w w A n l) :
  Calls prog 15 #[.agg (p.val u),.slice A n c] w λe ab=>∃q:SV,e=.returned (.agg (q.val (jd u (eS u) (bR l 60))))/\q.Is ab (fresh w ab) (jd u (eS u) (bR l 60))/\Ext w ab:=by
 obtain⟨GA,gn,gc,MA,mn,mc,PA,pn,pc⟩:=p;have hlen:(bR l 60).length<=60:=by unfold bR;rw[M5,List.length_take];omega
 have hex:∃S,jd u (eS u) (bR l 60)=S:=⟨_,rfl⟩
 obtain⟨S,hS⟩:=hex;have o:∃m:Nat,(j5 u (eS u) (bR l 60)).length=m:=⟨_,rfl⟩
 obtain⟨m,hm⟩:=o;have cz:=br hU hlen hS hm;have d2:∀(B:NH) (k d:Nat) (V:World),(⟨GA,gn,gc,MA,mn,mc,PA,pn,pc⟩:UV).Ok V u->cp (EF bQ) 1 V V B k (bR l 60)->k<=60->Calls prog 19 #[.agg ((⟨GA,gn,gc,MA,mn,mc,PA,pn,pc⟩:UV).val u),.slice B k d] V (Au V S m):=by
  intro B k d V ac az aV;have:=JI u (bR l 60) B k d V ⟨GA,gn,gc,MA,mn,mc,PA,pn,pc⟩ cz.1 ac az ad;rw[cz.2.2.1,cz.2.2.2] at this;exact this
 have a3:=ae d2;rw[hS];have H:=ah hu hl;clear hU hu hl hlen hS hm d2;dsimp only[UV.val];go_enter func15,ntmps15;go_upto_region 1 with(fail);generalize be:World.alloc _ _=W;have aF:=g0 be;have cN:an W w 26 #[.slice GA gn gc,.slice MA mn mc,.slice PA pn pc,.int .i64 u.main]:=be▸(ND).alloc _;have cb:=eT be;have al:=ay aF cN cb;have am:=cb.lt;have g:=ah (H.1.on aF) (H.2.cD aF.ext aF.size);obtain⟨b0,a8,bw⟩:=cN.two;clear be aF cN cb;refine sK (λ_=>False) [8] (.held 0 (.free 1 (.pick [2,7] (λi=>bif i == 2 then .pick [3,7] (λi=>bif i == 3 then .free 4 (.free 5 (.free 6 (.pick [7] (λ_=>.pick [8] (λ_=>.free 9 (.stop)))))) else .pick [3] (λ_=>.free 4 (.free 5 (.free 6 (.pick [8] (λ_=>.free 9 (.stop))))))) else .pick [2] (λ_=>.pick [3] (λ_=>.free 4 (.free 5 (.free 6 (.pick [8] (λ_=>.free 9 (.stop))))))))))) ?_;refine th ?_;refine tf ?_;refine jf (P:=?pT) (ops:=?J1) (Q:=?J3) (R:=?J4) (tails:=?J8) (rest:=.pick [8] (λ_=>.free 9 (.stop))) (aa:=?J0)
  (C:=λ(dP:Nat) (j:Value) (Y:Value) eX=>Ext W eX/\an eX dP 30 #[(),(),(),(0:Int)]/\W<=dP/\∃z:SV,Y=.agg (z.val S)/\z.Is eX (λb=>W.heap.size<=b/\b<eX.heap.size/\b≠dP) S) (λkey=>?zU) ?zO
 case zU=>
  refine a2 ?_ ?_
  ·
   refine aD rfl (λK hK=>?_) rfl;go_simp;refine(sF A n c 60 l W.drew (g.2.cD (Below.drew (Below.refl _ _)) (MU _)) ad).mono ?_;rintro e aW ⟨A2,c2,rfl,b8,cm,bn⟩;have a7:Ext W.drew aW:=lj bn;have f:(bR l 60).length<=60:=cz.2.1;generalize dj:(bR l 60).length=ai at b8 cm f ⊢;clear dj;refine dB hK (a7) ?_;clear hK K;refine a2 ?_ ?_
   ·
    refine aD rfl (λK hK=>?_) rfl;go_simp;refine(a3.o A2 ai c2 aW (g.1.on (Fr.aF a7)) cm f).mono ?_;rintro e b6 ⟨z,rfl,au,bf⟩;refine dB hK (bf) ?_;clear hK K
    iterate 3 refine tf ?_
    refine aq ?_;refine ep ?_;generalize cA:World.alloc _ _=Z;have e2:=aX cA;have aT:=aL cA;have s2:=a7.size;have cP:=bf.size;have fh:=e2.size;have hd:W.drew.heap.size=W:=rfl;have F:Ext W Z/\an Z b6 30 #[(),(),(),(0:Int)]/\W<=b6.heap.size/\∃cL:SV,(Value.agg (z.val S))=.agg (cL.val S)/\cL.Is Z (λb=>W.heap.size<=b/\b<Z.heap.size/\b≠b6.heap.size) S:=⟨((Fr.aF a7).trans bf).trans e2,aT,ad,z,rfl,(au.ak λb O=>e2.block b O.2 λh=>h).mono λb O=>ad⟩
    clear cA e2 aT au bf a7 s2 cP fh hd cm bn b8;revert F;generalize b6.heap.size=dP;exact AP
   ·
    refine ep ?_;generalize cA:World.alloc _ _=Z;have e2:=aX cA;have aT:=aL cA;refine aq ?_;refine aD rfl (λK hK=>?_) rfl;go_simp;refine(a3.o A2 ai c2 Z (g.1.on ((Fr.aF a7).trans e2)) (cm.cD e2.ext e2.size) f).mono ?_;rintro e cO ⟨z,rfl,au,bf⟩;refine dB hK (bf) ?_;clear hK K
    iterate 3 refine tf ?_
    have s2:=a7.size;have cP:=bf.size;have fh:=aT.lt;have hd:W.drew.heap.size=W:=rfl;have F:Ext W cO/\an cO aW 30 #[(),(),(),(0:Int)]/\W<=aW.heap.size/\∃cL:SV,(Value.agg (z.val S))=.agg (cL.val S)/\cL.Is cO (λb=>W.heap.size<=b/\b<cO.heap.size/\b≠aW.heap.size) S:=⟨((Fr.aF a7).trans e2).trans bf,aT.aj bf,ad,z,rfl,au.mono λb O=>ad⟩
    clear cA e2 aT au bf a7 s2 cP fh hd cm bn b8;revert F;generalize aW.heap.size=dP;exact AP
  ·
   refine ep ?_;generalize cA:World.drew (World.alloc _ _)=Z;have e2:=hy cA;have aT:=lW cA;refine aq ?_;refine aD rfl (λK hK=>?_) rfl;go_simp;refine(sF A n c 60 l Z (g.2.cD e2.ext e2.size) ad).mono ?_;rintro e aW ⟨A2,c2,rfl,b8,cm,bn⟩;have a7:Ext Z aW:=lj bn;have f:(bR l 60).length<=60:=cz.2.1;generalize dj:(bR l 60).length=ai at b8 cm f ⊢;clear dj;refine dB hK (a7) ?_;clear hK K;refine aq ?_;refine aD rfl (λK hK=>?_) rfl;go_simp;refine(a3.o A2 ai c2 aW (g.1.on (e2.trans a7)) cm f).mono ?_;rintro e b6 ⟨z,rfl,au,bf⟩;refine dB hK (bf) ?_;clear hK K
   iterate 3 refine tf ?_
   have s2:=a7.size;have cP:=bf.size;have fh:=aT.lt;have F:Ext W b6/\an b6 W 30 #[(),(),(),(0:Int)]/\W<=W.heap.size/\∃cL:SV,(Value.agg (z.val S))=.agg (cL.val S)/\cL.Is b6 (λb=>W.heap.size<=b/\b<b6.heap.size/\b≠W.heap.size) S:=⟨(e2.trans a7).trans bf,(aT.aj a7).aj bf,MU _,z,rfl,au.mono λb O=>ad⟩
   clear cA e2 aT au bf a7 s2 cP fh cm bn b8;revert F key;generalize (Value.agg (z.val S))=Y;generalize (Value.slice A2 ai c2)=j;intro key F;exact key W j Y _ F
 case zO=>
  rintro dP j Y eX ⟨cu,bK,fg,⟨aJ,ag,T,dn,s,r,bY,aA,bc⟩,rfl,L⟩;dsimp only[SV.val];obtain⟨ci,aH,aK⟩:=bK.two;clear b0 a8 bw;exact fQ
theorem HH(u:aw)(hU:yj u)(l:List Int):aP u 60 (jd u (eS u) (bR l 60)):=by
 have h:=ri hU.ok (bR l 60) 0 (eS u) (pD hU.ok);have hl:(bR l 60).length<=60:=by unfold bR;rw[M5,List.length_take];omega
 exact h.mono ad
end Go.Proofs.YtnigabjngpnbiabGreat

/- Part 45 of the proof. No condition of its own. -/
import Derived.Test.YtnhhdaggkiomoaaGreatQ44
namespace Go.Proofs.YtnhhdaggkiomoaaGreat
open Go.RowKit Go.Proofs.Tryz
set_option maxRecDepth 1000000
set_option maxHeartbeats 25600000
set_option linter.unusedVariables false
variable{p:Prop}
theorem Eg(u:ay)(s:aj)(t:Int)(N:Nat)(P:Nat→Prop)(w:World)(p:UV)(q:SV)(hU:uW u)(hS:aX u N s)(hN:N≤100000)(hu:p.Ok w u)(hs:q.Is w P s)(aZ:∀b,P b→b<w.heap.size) :
  Calls prog 14 #[.agg (p.val u),.agg (q.val s),.int .i64 t] w (cG P w (bB u s t).1 (bB u s t).2):=by
 cases htop:ef s t with
 | none=>rw[qD htop];exact wD u s t P w p q hu hs aZ htop
 | some f=>
  obtain⟨cq,x,i,H⟩:=jO.of hU hS hN htop;rw[qE htop H];have r:x.op=1∨x.op=2∨x.op=3∨x.op=4∨x.op=5∨x.op=6∨x.op=7∨x.op=8:=by
   exact zi
  rcases r with h|h|h|h|h|h|h|h
  ·exact qx u s t f cq x N P w p q i hN (.inl h) hu hs aZ
  ·exact qw u s t f cq x N P w p q i hN (.inl h) hu hs aZ
  ·exact qw u s t f cq x N P w p q i hN (.inr h) hu hs aZ
  ·exact qy u s t f cq x N P w p q i hN (.inl h) hu hs aZ
  ·exact qy u s t f cq x N P w p q i hN (.inr h) hu hs aZ
  ·exact qx u s t f cq x N P w p q i hN (.inr h) hu hs aZ
  ·exact qz u s t f cq x N P w p q i hN (.inl h) hu hs aZ
  ·exact qz u s t f cq x N P w p q i hN (.inr h) hu hs aZ
def h6(u:ay):aj→List Int→aj
 | s,[]=>s
 | s,t::l=>h6 u (bB u s t).1 l
def jJ(u:ay):aj→List Int→List Int
 | _,[]=>[]
 | s,t::l=>(if (bB u s t).2 then [t] else [])++jJ u (bB u s t).1 l
section
variable {u:ay} {D:Nat}
theorem uz:∀(l m:List Int) (s:aj),h6 u s (l++m)=h6 u (h6 u s l) m
 | [],_,_=>rfl
 | t::l,m,s=>uz l m _
theorem uP:∀(l m:List Int) (s:aj),jJ u s (l++m)=jJ u s l++jJ u (h6 u s l) m
 | [],_,_=>rfl
 | t::l,m,s=>by
  rw[KV,jJ,jJ,h6,uP l m,KU]
theorem HK(l:List Int):∀s:aj,(jJ u s l).length≤l.length:=by
 induction l with
 | nil=>intro s;exact KG _
 | cons t l ao=>
  intro s;have:=ao (bB u s t).1;rw[jJ,KI,KT];split<;>simp<;>omega
theorem wE(hU:cZ u):∀(l:List Int) (D:Nat) (s:aj),aX u D s→aX u (D+l.length) (h6 u s l)
 | [],_,_,h=>h
 | t::l,D,s,h=>by
  have:=wE hU l (D+1) _ (mT (t:=t) hU h);rw[KT,show D+(l.length+1)=D+1+l.length by omega];exact this
end
def y4(w:World)(s:aj)(m:Nat)(e:Ending)(ab:World):Prop:=∃q:SV,e=.returned (.tuple #[.agg (q.val s),.int .i64 (m:Int)])∧q.Is ab (fun k=>w.heap.size≤k∧k<ab.heap.size) s∧Ext w ab
namespace C0
theorem eQ(h:p:=by
 refine tf ?_;refine b3 ?_;generalize hX:World.setCell _ _ _=X;obtain⟨bo,br,cg⟩:=bA (w:=wr) [.slice an aE ax,.slice bf s j,.slice bR al bc,.int .i64 (bB u S t).1.fault] (by rfl) dI cw gs hX;have ac:(⟨an,aE,ax,bf,s,j,bR,al,bc⟩:SV).Is X (fun b=>W.heap.size≤b∧b<X.heap.size∧b≠aS.heap.size) (bB u S t).1:=(I.ak fun b O=>cg.block b O.2.1 O.2.2.2).mono fun b O=>⟨O.1,by have:=cg.size;have:=O.2.1;omega,O.2.2.1⟩
 have cl:=aW.2.1.ai br;have y:=aB br ac cl;obtain⟨bs,aX,a4⟩:=bo.two;obtain⟨a8,am,aF⟩:=cl.two;have H:=br.size;clear hX dI cw I cg br ac cl bo
 cases bg:(bB u S t).2 with
 | true=>
  have cb:=ae bg;clear bg;go_wp2_with(fail);generalize bu:World.setCell _ _ _=Z;obtain⟨bh,be⟩:=ke 0 [.slice an aE ax,.slice bf s j,.slice bR al bc,.int .i64 (bB u S t).1.fault] y.2.2 bu;have bd:=ag bh be;clear bu bh be bs aX a4 a8 am aF;go_roundw
  case rel=>
   have aJ:Fr (fun b=>b=aS.heap.size) V Z:=Fr.trans (Fr.trans aW.1 (Fr.mono y.1 fun _ h=>h.elim)) bd.2;have hs:=aW.2.2.2.2.2.1 t aQ.o;have bP:(jJ u S [t]).length=1:=by
    show ((if (bB u S t).2 then [t] else [])++[]).length=1
    rw[cb.o];rfl
   refine⟨k+1,⟨an,aE,ax,bf,s,j,bR,al,bc⟩,?_,by go_num,ad,aJ,?_,?_⟩
   ·rw[hs.1,KI,bP];go_num
   ·rw[hs.2];exact bd.1
   ·rw[hs.2];have bW:=bd.2.size;exact(y.2.1.ak fun b O=>bd.2.block b O.2.1 O.2.2).mono fun b O=>⟨O.1,by have:=O.2.1;omega,O.2.2⟩
  case measure=>exact aH
 | false=>
  have cb:=ae bg;clear bg;go_wp2_with(fail);clear bs aX a4 a8 am aF;go_roundw
  case rel=>
   have aJ:Fr (fun b=>b=aS.heap.size) V X:=Fr.trans aW.1 (Fr.mono y.1 fun _ h=>h.elim);have hs:=aW.2.2.2.2.2.1 t aQ.o;have bP:(jJ u S [t]).length=0:=by
    show ((if (bB u S t).2 then [t] else [])++[]).length=0
    rw[cb.o];rfl
   refine⟨k+1,⟨aM,sm,aL,ab,aI,au,b2,hm,hd⟩,?_,by go_num,ad,aJ,?_,?_⟩
   ·rw[hs.1,KI,bP,KQ]
   ·rw[hs.2,j4 cb.o];exact y.2.2
   ·rw[hs.2,j4 cb.o];exact(aW.2.2.1.GJ (fun b O=>O.2.1) y.1).mono fun b O=>⟨O.1,by have:=O.2.1;omega,O.2.2⟩
  case measure=>exact aH
 ):p:=h
theorem lJ(h:p:=by
 have ah:=cI aw cA (cc.1.on aw) (cc.2.c4 (Fr.ext aw) aw.size) aR;have cY:=aw.size;have dr:=cA.lt;obtain⟨a0,ai,af⟩:=aR.two;clear ba aw aR cA cc;go_wp2_with(fail);refine(Jw u W ⟨GA,gn,gc,MA,mn,mc,PA,pn,pc⟩ cz.o ah.2.2.1).mono ?_;rintro e aS ⟨⟨bS,bL,bD,TA,tn,tc,HA,ct,hc⟩,rfl,L,aN⟩;have H1:=ag L aN;have cn:=aN.size;clear L aN a0 ai af;dsimp only[SV.val];go_upto_region 2 with(fail);generalize hV:World.alloc _ _=V;have bj:=aU hV;have b5:=aG hV;have bz:=b5.lt;have aP:(⟨bS,bL,bD,TA,tn,tc,HA,ct,hc⟩:SV).Is V (fun b=>W.heap.size≤b∧b<V.heap.size∧b≠aS.heap.size) (dA u):=(H1.1.ak fun b O=>bj.block b (O.resolve_left fun h=>h).2 fun h=>h).mono fun b O=>by have:=O.resolve_left fun h=>h;omega
 have m:=aB aP b5 (H1.2.trans bj);clear hV bj b5 aP;go_wp2_with(fail);go_loopw [7,8] (fun ho cu wr=>∃(k:Nat) (q:SV),ho=.int .i64 ((jJ u (dA u) (l.take k)).length:Int)∧cu=.int .i64 k∧k≤n∧Fr (fun b=>b=aS.heap.size) V wr∧aq wr aS.heap.size 40 (q.val (h6 u (dA u) (l.take k)))∧q.Is wr (fun b=>W.heap.size≤b∧b<wr.heap.size∧b≠aS.heap.size) (h6 u (dA u) (l.take k))) (fun _ cu _=>n - (intOf cu).toNat)
 case atStart=>exact⟨0,_,rfl,rfl,ad,Lo,m.2.1,m.1⟩
 case round=>
  obtain⟨k,⟨aM,sm,aL,ab,aI,au,b2,hm,hd⟩,rfl,rfl,ap,hF,N,aj⟩:=hrel;have J:Ext W wr:=Fr.low (M:=fun b=>b=aS.heap.size) (Fr.trans (Fr.mono m.2.2 fun _ h=>h.elim) hF) fun b O=>ad;have bZ:=wE cz.ok (l.take k) 0 (dA u) (oM cz.ok);have a2:=HK (u:=u) (l.take k) (dA u);rw[List.length_take] at a2;have a6:(jJ u (dA u) (l.take k)).length≤100000:=ad;have c5:∀t,l[k]?=some t→jJ u (dA u) (l.take (k+1))=jJ u (dA u) (l.take k)++jJ u (h6 u (dA u) (l.take k)) [t]∧h6 u (dA u) (l.take (k+1))=(bB u (h6 u (dA u) (l.take k)) t).1:=fun t ht=>by
   rw[aZ ht,uP,uz];exact⟨rfl,rfl⟩
  have z:k=n→h6 u (dA u) (l.take k)=h6 u (dA u) l∧jJ u (dA u) (l.take k)=jJ u (dA u) l:=fun h=>by
   rw[KO (aD ah.2.2.2.1.1)];exact⟨rfl,rfl⟩
  generalize hS:h6 u (dA u) (l.take k)=S at *;generalize al:(jJ u (dA u) (l.take k))=M at *;have aW:=hR hF N aj J bZ c5 z;have e5:=hF.size;have av:=ae (show W.heap.size≤aS.heap.size∧aS.heap.size<V.heap.size∧V.heap.size≤wr.heap.size from ⟨cn,bz,hF.size⟩);have bM:=N.lt;clear bZ c5 z hS al a2;by_cases ak:k<n
  ·have T:=ah.2.2.2.1.c4 (Fr.ext J) J.size;obtain⟨b,o,t,bw,O,hx,hc⟩:=T.int ak;subst bw;obtain⟨a0,ai,af⟩:=(ah.2.2.2.2.ai J).two;obtain⟨a8,am,aF⟩:=N.two;have aQ:=ae hx;clear hF N aj J T hx;go_upto_region 5 with(fail);refine q4 (fun _=>False) [11] (.held 0 (.held 1 (.free 2 (.free 3 (.free 4 (.held 5 (.pick [6,10] (fun i=>bif i == 6 then .free 7 (.free 8 (.free 9 (.pick [10] (fun _=>.pick [11] (fun _=>.free 12 (.stop)))))) else .pick [6] (fun _=>.free 7 (.free 8 (.free 9 (.pick [11] (fun _=>.free 12 (.stop)))))))))))))) ?_
   iterate 2 refine th ?_
   iterate 3 refine tf ?_
   refine th ?_;refine l8 (P:=?oB) (ops:=?Hu) (Q:=?Hw) (R:=?Hy) (tails:=?HI) (rest:=.pick [11] (fun _=>.free 12 (.stop))) (aa:=?G6)
    (C:=fun(az:Nat) (Y:Value) bT=>Ext wr bT∧aq bT az 40 #[.slice none 0 0,.slice none 0 0,.slice none 0 0,.int .i64 0]∧wr.heap.size≤az∧∃ar:SV,Y=.agg (ar.val (bB u S t).1)∧ar.Is bT (fun b=>W.heap.size≤b∧b<bT.heap.size∧b≠aS.heap.size∧b≠az) (bB u S t).1) (fun key=>?wa) ?vY
   case wa=>
    refine aY ?_ ?_
    ·
     refine aC rfl (fun K hK=>?_) rfl;go_simp;refine(Eg u S t _ (fun b=>W.heap.size≤b∧b<wr.heap.size∧b≠aS.heap.size) wr.drew ⟨GA,gn,gc,MA,mn,mc,PA,pn,pc⟩ ⟨aM,sm,aL,ab,aI,au,b2,hm,hd⟩ cz.o aW.2.2.2.2.1 (by rw[List.length_take];omega) (ah.2.2.1.on aW.2.2.2.1.drew) (aW.2.2.1.ak fun b O=>rfl) (fun b O=>O.2.1)).mono ?_;rintro e aT ⟨ar,rfl,r,a3⟩;refine dz hK (a3) ?_;clear hK K
     iterate 3 refine tf ?_
     refine ao ?_;refine dP ?_;generalize bu:World.alloc _ _=Z;have e2:=aU bu;have bO:wr.heap.size≤aT.heap.size:=a3.size;have cP:=e2.size;have F:Ext wr Z∧aq Z aT.heap.size 40 #[.slice none 0 0,.slice none 0 0,.slice none 0 0,.int .i64 0]∧wr.heap.size≤aT.heap.size∧∃cB:SV,(Value.agg (ar.val (bB u S t).1))=.agg (cB.val (bB u S t).1)∧cB.Is Z (fun b=>W.heap.size≤b∧b<Z.heap.size∧b≠aS.heap.size∧b≠aT.heap.size) (bB u S t).1:=
      ⟨(Fr.aF a3).trans e2,by rw[←bu];exact Lp,bO,ar,rfl,(r.ak fun b O=>e2.block b (O.elim (fun h=>ad) fun h=>h.2) fun h=>h).mono fun b O=>by
       have hd:wr.drew.heap.size=wr.heap.size:=rfl;have:=av.o;rcases O with O|O<;>omega⟩
     clear bu e2 bO cP r a3;revert F;generalize aT.heap.size=az;generalize (Value.agg (ar.val (bB u S t).1))=Y;intro F;exact key az Y _ F
    ·
     refine dP ?_;generalize a1:World.drew (World.alloc _ _)=cC;have e1:=gF a1;have cE:=kp a1;have aV:=cE.lt;refine ao ?_;refine aC rfl (fun K hK=>?_) rfl;go_simp;refine(Eg u S t _ (fun b=>W.heap.size≤b∧b<wr.heap.size∧b≠aS.heap.size) cC ⟨GA,gn,gc,MA,mn,mc,PA,pn,pc⟩ ⟨aM,sm,aL,ab,aI,au,b2,hm,hd⟩ cz.o aW.2.2.2.2.1 (by rw[List.length_take];omega) (ah.2.2.1.on (aW.2.2.2.1.trans e1)) (aW.2.2.1.GJ (fun b O=>O.2.1) e1) (fun b O=>by have:=O.2.1;omega)).mono ?_;rintro e aT ⟨ar,rfl,r,a3⟩;refine dz hK (a3) ?_;clear hK K
     iterate 3 refine tf ?_
     have bO:=a3.size;have F:Ext wr aT∧aq aT wr.heap.size 40 #[.slice none 0 0,.slice none 0 0,.slice none 0 0,.int .i64 0]∧wr.heap.size≤wr.heap.size∧∃cB:SV,(Value.agg (ar.val (bB u S t).1))=.agg (cB.val (bB u S t).1)∧cB.Is aT (fun b=>W.heap.size≤b∧b<aT.heap.size∧b≠aS.heap.size∧b≠wr.heap.size) (bB u S t).1:=
      ⟨e1.trans a3,cE.ai a3,KG _,ar,rfl,r.mono fun b O=>by
       have:=av.o;rcases O with O|O<;>omega⟩
     clear a1 e1 cE aV bO r a3;revert F key;generalize (Value.agg (ar.val (bB u S t).1))=Y;intro key F;exact key wr.heap.size Y _ F
   case vY=>
    rintro az Y bT ⟨cw,dI,gs,⟨an,aE,ax,bf,s,j,bR,al,bc⟩,rfl,I⟩;dsimp only[SV.val];obtain⟨bs,aX,a4⟩:=dI.two;clear a0 ai af a8 am aF hc;exact fj
  ·have cp:k=n:=ad;have a5:=ae cp;obtain⟨a8,am,aF⟩:=N.two;have aK:=ah.2.1.ai J;have U:=ag aK (ah.1.trans J);obtain⟨bl,aA,aO⟩:=aK.two;clear hF N aj J cp aK;go_wp2_with(fail);generalize hX:World.setCell _ _ _=Z;obtain⟨bh,a9,be⟩:=bA (w:=w) [.slice aM sm aL,.slice ab aI au,.slice b2 hm hd,.int .i64 S.fault] (by rfl) U.1 U.2 ad hX;have bd:=ag a9 be;clear hX a9 be bl aA aO a8 am aF;obtain⟨bl,aA,aO⟩:=bh.two;refine Ln (v:=.tuple #[.agg #[.slice aM sm aL,.slice ab aI au,.slice b2 hm hd,.int .i64 S.fault],.int .i64 (M.length:Int)]) (by simp[results,Tryz.results34,go_sem,bl]) rfl ?_;have z:=aW.2.2.2.2.2.2 a5.o;rw[←z.1,←z.2];have cR:=bd.2.size;exact⟨⟨aM,sm,aL,ab,aI,au,b2,hm,hd⟩,rfl,(aW.2.2.1.ak fun b O=>bd.2.block b O.2.1 (aD O.1)).mono fun b O=>⟨by have:=O.1;omega,by have:=O.2.1;omega⟩,bd.1⟩
 ):p:=h
end C0
open C0 in
theorem Jx(u:ay)(l:List Int)(A:Ls)(n c:Nat)(w:World)(p:UV)(hU:uW u)(hu:p.Ok w u)(hl:cq (EF cM) 1 w w.heap.size A n l)(hn:n≤100000) :
  Calls prog 34 #[.agg (p.val u),.slice A n c] w (y4 w (h6 u (dA u) l) (jJ u (dA u) l).length):=by
 obtain⟨GA,gn,gc,MA,mn,mc,PA,pn,pc⟩:=p;have cc:=ag hu hl;have cz:=ae hU;clear hU hu hl;dsimp only[UV.val];go_enter func34,ntmps34;exact lI
def qk(x:Int):Int:=if Int.tmod x 16=7 then x else within x 4
def cf(l:List Int)(m:Nat):List Int:=(l.take m).map qk
theorem rM(A:Ls)(n c m:Nat)(l:List Int)(w:World)(h:cq (EF cM) 1 w w.heap.size A n l)(hm:m≤1000) :
  Calls prog 19 #[.slice A n c,.int .i64 m] w fun r ab=>∃I aK,r=.returned (.slice I (cf l m).length aK)∧(cf l m).length≤aK∧cq (EF cM) 1 ab ab.heap.size I (cf l m).length (cf l m)∧Below w.heap.size w ab:=by
 have hl:=h.1;have ca:=ae hl;clear hl;go_enter func19,ntmps19;go_wp2;go_loopw [5,6] (fun v i wr=>∃k:Nat,k≤n∧k≤m∧i=.int .i64 k∧wr.ownsRow w.heap.size 3 1 v k (((l.take k).map qk).flatMap cM)∧Below w.heap.size w wr) (fun _ i _=>n - (intOf i).toNat)
 case atStart=>exact⟨0,Ld _,Ld _,rfl,World.ownsRow_nil _ _ _ _,Below.refl _ _⟩
 case round=>
  obtain⟨k,ap,q,rfl,aC,O⟩:=hrel;by_cases ak:k<n∧k<m
  ·obtain⟨cp,bX⟩:=ak;obtain⟨b,o,x,rfl,U,hx,c0⟩:=(h.ez O).int cp;have b0:=O.size;have bm:=ae (show ((l.take (k+1)).map qk).flatMap cM=((l.take k).map qk).flatMap cM++[.int .i64 (qk x)] by rw[aZ hx,KN,List.map_singleton,lp]);clear hx;have e:qk x=if Int.tmod x 16=7 then x else within x 4:=rfl
   have j:=ae e;clear e;by_cases g:Int.tmod x 16=7
   ·have u:=ae g;have f:(Int.tmod x 16 == 7)=true:=by simpa using g
    clear g;go_wp2_with(at_builtin;refine dk _ de (by rfl) (.tmp 24) (.tmp 29) (by rfl) w.heap.size _ _ _ _ (by rfl) aC (by rfl) (by rfl) (qf _ _) ad ad b0 ?_;intro v1 aS bb a7 cU);go_roundw
    case rel=>exact⟨k+1,ad,ad,by go_num,by rw[bm.o,j.o,if_pos u.o];exact bb,fN O aC a7 (KG _) b0⟩
    case measure=>exact aH
   ·have u:=ae g;have f:(Int.tmod x 16 == 7)=false:=by simpa using g
    clear g;go_wp2_with(fail);refine(mb x 4 ad ad _).mono ?_;rintro r ab ⟨rfl,rfl⟩;go_wp2_with(at_builtin;refine dk _ de (by rfl) (.tmp 31) (.tmp 37) (by rfl) w.heap.size _ _ _ _ (by rfl) aC (by rfl) (by rfl) (qf _ _) ad ad b0 ?_;intro v1 aS bb a7 cU);go_roundw
    case rel=>exact⟨k+1,ad,ad,by go_num,by rw[bm.o,j.o,if_neg u.o];exact bb,fN O aC a7 (KG _) b0⟩
    case measure=>exact aH
  ·obtain⟨bY,c1,rfl,cK,_,_,_⟩:=b2 aC;have hlen:(cf l m).length=k:=by
    have:=ca.o;unfold cf;rw[KK,List.length_take];omega
   have he:(l.take k).map qk=cf l m:=by
    have:=ca.o;unfold cf;congr 1
    rcases Nat.lt_or_ge k m with ac|ac
    ·rw[KO ad,KO ad]
    ·rw[show k=m by omega]
   obtain⟨F,bq⟩:=aI hlen he;clear hlen he;have fin:∃I aK,Ending.returned (.slice bY k c1)=.returned (.slice I (cf l m).length aK)∧(cf l m).length≤aK∧cq (EF cM) 1 wr wr.heap.size I (cf l m).length (cf l m)∧Below w.heap.size w wr:=by
    rw[F.o,←bq.o];exact⟨bY,c1,rfl,cK,jE aC (jA _) (by rw[bq.o];exact F.o),O⟩
   have d:=ae fin;clear fin;by_cases cp:k<n
   ·have s:¬k<m:=fun ah=>ak ⟨cp,ah⟩;clear ak;go_wp2;go_ret;exact d.o
   ·clear ak;go_wp2;go_ret;exact d.o
theorem qF(q:SV)(s:aj)(x:Int)(w:World)(h:q.Ok w s)(ac:1≤q.hn)(av:q.hn≤1000000) :
  Calls prog 12 #[.agg (q.val s),.int .i64 x] w fun e ab=>e=.returned (.int .i64 (within x q.hn))∧Ext w ab:=by
 obtain⟨bS,bL,bD,TA,tn,tc,HA,hn,hc⟩:=q;clear h;simp only at ac av;dsimp only[SV.val];go_enter func12,ntmps12;go_wp2_with(fail);refine(mb x hn ad ad _).mono ?_;rintro r ab ⟨rfl,rfl⟩;exact vh
theorem rj{a b:World}(h:Below a.heap.size a b):Ext a b:=⟨h.os,h.tape,h.output,h.size,fun k ap _=>h.block k ap⟩
namespace C1
theorem eQ(h:p:=by
 refine tf ?_;refine b3 ?_;generalize bu:World.setCell _ _ _=Z;obtain⟨bh,a9,be⟩:=bA (w:=W) [.slice an aE ax,.slice bf s j,.slice bR al bc,.int .i64 S.fault] (by rfl) dI cw gs bu;have J:(⟨an,aE,ax,bf,s,j,bR,al,bc⟩:SV).Is Z (fun b=>W.heap.size≤b∧b<Z.heap.size∧b≠az) S:=(I.ak fun b O=>be.block b O.2.1 O.2.2).mono fun b O=>⟨O.1,by have:=be.size;have:=O.2.1;omega,O.2.2⟩
 have bd:=aB J a9 bh;have bk:=ah.2.2.ai a9;have bW:=a9.size;obtain⟨aJ,f,o⟩:=bh.two;obtain⟨bl,aA,aO⟩:=bk.two;have E:=ae bk;clear bu bh a9 be J dI cw gs I cE N aF bk;go_wp2_with(fail);generalize bu:World.setCell _ _ _=Y;obtain⟨bI,bE,bz⟩:=bA (w:=w) [.slice an aE ax,.slice bf s j,.slice bR al bc,.int .i64 S.fault] (by rfl) E.o (ah.1.trans bd.2.1) ad bu;have bC:=ag bE bz;clear bu bE bz bl aA aO aJ f o;obtain⟨bl,aA,aO⟩:=bI.two;refine Ln (v:=.agg #[.slice an aE ax,.slice bf s j,.slice bR al bc,.int .i64 S.fault]) (by simp[results,Tryz.results11,go_sem,bl]) rfl ?_;have c4:=bC.2.size;exact⟨⟨an,aE,ax,bf,s,j,bR,al,bc⟩,rfl,(bd.1.ak fun b O=>bC.2.block b O.2.1 (aD O.1)).mono fun b O=>⟨by have:=O.1;omega,by have:=O.2.1;omega⟩,bC.1⟩
 ):p:=h
theorem AY(h:p:=by
 have hd:W.drew.heap.size=W.heap.size:=rfl;have F:Ext W Z∧aq Z b6.heap.size 40 #[.slice none 0 0,.slice none 0 0,.slice none 0 0,.int .i64 0]∧W.heap.size≤b6.heap.size∧∃cB:SV,(Value.agg (ar.val S))=.agg (cB.val S)∧cB.Is Z (fun b=>W.heap.size≤b∧b<Z.heap.size∧b≠b6.heap.size) S:=⟨((Fr.aF a3).trans a7).trans e2,aR,ad,ar,rfl,(r.ak fun b O=>e2.block b O.2 fun h=>h).mono fun b O=>ad⟩
 clear bu e2 aR r a7 a3 s2 T eD hd cg bg b9;revert F;generalize b6.heap.size=az;exact zx
 ):p:=h
end C1
open C1 in
theorem wc(u:ay)(p:UV)(A:Ls)(n c:Nat)(l:List Int)(w:World)(hU:uW u)(hu:p.Ok w u)(hl:cq (EF cM) 1 w w.heap.size A n l) :
  Calls prog 11 #[.agg (p.val u),.slice A n c] w fun e ab=>∃q:SV,e=.returned (.agg (q.val (h6 u (dA u) (cf l 60))))∧q.Is ab (fresh w ab) (h6 u (dA u) (cf l 60))∧Ext w ab:=by
 obtain⟨GA,gn,gc,MA,mn,mc,PA,pn,pc⟩:=p;have hlen:(cf l 60).length≤60:=by unfold cf;rw[KK,List.length_take];omega
 have hex:∃S,h6 u (dA u) (cf l 60)=S:=⟨_,rfl⟩
 obtain⟨S,hS⟩:=hex;have z:∃m:Nat,(jJ u (dA u) (cf l 60)).length=m:=⟨_,rfl⟩
 obtain⟨m,hm⟩:=z;have cz:=bH hU hlen hS hm;have d3:∀(B:Ls) (k d:Nat) (V:World),(⟨GA,gn,gc,MA,mn,mc,PA,pn,pc⟩:UV).Ok V u→cq (EF cM) 1 V V.heap.size B k (cf l 60)→k≤60→Calls prog 34 #[.agg ((⟨GA,gn,gc,MA,mn,mc,PA,pn,pc⟩:UV).val u),.slice B k d] V (y4 V S m):=by
  intro B k d V ac av aV;have:=Jx u (cf l 60) B k d V ⟨GA,gn,gc,MA,mn,mc,PA,pn,pc⟩ cz.1 ac av ad;rw[cz.2.2.1,cz.2.2.2] at this;exact this
 have aW:=ae d3;rw[hS];have H:=ag hu hl;clear hU hu hl hlen hS hm d3;dsimp only[UV.val];go_enter func11,ntmps11;go_upto_region 1 with(fail);generalize ba:World.alloc _ _=W;have aw:=iO ba;have cX:aq W w.heap.size 30 #[.slice GA gn gc,.slice MA mn mc,.slice PA pn pc,.int .i64 u.main]:=ba▸(Lp).alloc _;have bM:=fZ ba;have ah:=aB aw cX bM;have am:=bM.lt;have g:=ag (H.1.on aw) (H.2.c4 aw.ext aw.size);obtain⟨bs,aX,a4⟩:=cX.two;clear ba aw cX bM;refine q4 (fun _=>False) [8] (.held 0 (.free 1 (.pick [2,7] (fun i=>bif i == 2 then .pick [3,7] (fun i=>bif i == 3 then .free 4 (.free 5 (.free 6 (.pick [7] (fun _=>.pick [8] (fun _=>.free 9 (.stop)))))) else .pick [3] (fun _=>.free 4 (.free 5 (.free 6 (.pick [8] (fun _=>.free 9 (.stop))))))) else .pick [2] (fun _=>.pick [3] (fun _=>.free 4 (.free 5 (.free 6 (.pick [8] (fun _=>.free 9 (.stop))))))))))) ?_;refine th ?_;refine tf ?_;refine gU (P:=?oB) (ops:=?Hu) (Q:=?Hw) (R:=?Hy) (tails:=?HI) (rest:=.pick [8] (fun _=>.free 9 (.stop))) (aa:=?G6)
  (C:=fun(az:Nat) (G:Value) (Y:Value) bT=>Ext W bT∧aq bT az 40 #[.slice none 0 0,.slice none 0 0,.slice none 0 0,.int .i64 0]∧W.heap.size≤az∧∃ar:SV,Y=.agg (ar.val S)∧ar.Is bT (fun b=>W.heap.size≤b∧b<bT.heap.size∧b≠az) S) (fun key=>?wa) ?vY
 case wa=>
  refine aY ?_ ?_
  ·
   refine aC rfl (fun K hK=>?_) rfl;go_simp;refine(rM A n c 60 l W.drew (g.2.c4 (Below.drew (Below.refl _ _)) (KG _)) ad).mono ?_;rintro e aT ⟨A2,c2,rfl,b9,cg,bg⟩;have a3:Ext W.drew aT:=rj bg;have y:(cf l 60).length≤60:=cz.2.1;generalize di:(cf l 60).length=aP at b9 cg y ⊢;clear di;refine dz hK (a3) ?_;clear hK K;refine aY ?_ ?_
   ·
    refine aC rfl (fun K hK=>?_) rfl;go_simp;refine(aW.o A2 aP c2 aT (g.1.on (Fr.aF a3)) cg y).mono ?_;exact AX
   ·
    refine dP ?_;generalize bu:World.alloc _ _=Z;have e2:=aU bu;have aR:=aG bu;refine ao ?_;refine aC rfl (fun K hK=>?_) rfl;go_simp;refine(aW.o A2 aP c2 Z (g.1.on ((Fr.aF a3).trans e2)) (cg.c4 e2.ext e2.size) y).mono ?_;rintro e cN ⟨ar,rfl,r,a7⟩;refine dz hK (a7) ?_;clear hK K
    iterate 3 refine tf ?_
    have s2:=a3.size;have T:=a7.size;have eD:=aR.lt;have hd:W.drew.heap.size=W.heap.size:=rfl;have F:Ext W cN∧aq cN aT.heap.size 40 #[.slice none 0 0,.slice none 0 0,.slice none 0 0,.int .i64 0]∧W.heap.size≤aT.heap.size∧∃cB:SV,(Value.agg (ar.val S))=.agg (cB.val S)∧cB.Is cN (fun b=>W.heap.size≤b∧b<cN.heap.size∧b≠aT.heap.size) S:=⟨((Fr.aF a3).trans e2).trans a7,aR.ai a7,ad,ar,rfl,r.mono fun b O=>ad⟩
    clear bu e2 aR r a7 a3 s2 T eD hd cg bg b9;revert F;generalize aT.heap.size=az;exact zx
  ·
   refine dP ?_;generalize bu:World.drew (World.alloc _ _)=Z;have e2:=gF bu;have aR:=kp bu;refine ao ?_;refine aC rfl (fun K hK=>?_) rfl;go_simp;refine(rM A n c 60 l Z (g.2.c4 e2.ext e2.size) ad).mono ?_;rintro e aT ⟨A2,c2,rfl,b9,cg,bg⟩;have a3:Ext Z aT:=rj bg;have y:(cf l 60).length≤60:=cz.2.1;generalize di:(cf l 60).length=aP at b9 cg y ⊢;clear di;refine dz hK (a3) ?_;clear hK K;refine ao ?_;refine aC rfl (fun K hK=>?_) rfl;go_simp;refine(aW.o A2 aP c2 aT (g.1.on (e2.trans a3)) cg y).mono ?_;rintro e b6 ⟨ar,rfl,r,a7⟩;refine dz hK (a7) ?_;clear hK K
   iterate 3 refine tf ?_
   have s2:=a3.size;have T:=a7.size;have eD:=aR.lt;have F:Ext W b6∧aq b6 W.heap.size 40 #[.slice none 0 0,.slice none 0 0,.slice none 0 0,.int .i64 0]∧W.heap.size≤W.heap.size∧∃cB:SV,(Value.agg (ar.val S))=.agg (cB.val S)∧cB.Is b6 (fun b=>W.heap.size≤b∧b<b6.heap.size∧b≠W.heap.size) S:=⟨(e2.trans a3).trans a7,(aR.ai a3).ai a7,KG _,ar,rfl,r.mono fun b O=>ad⟩
   clear bu e2 aR r a7 a3 s2 T eD cg bg b9;revert F key;generalize (Value.agg (ar.val S))=Y;generalize (Value.slice A2 aP c2)=G;intro key F;exact key W.heap.size G Y _ F
 case vY=>
  rintro az G Y bT ⟨cw,dI,gs,⟨an,aE,ax,bf,s,j,bR,al,bc⟩,rfl,I⟩;dsimp only[SV.val];obtain⟨cE,N,aF⟩:=dI.two;clear bs aX a4;exact fj
theorem nY(u:ay)(p:UV)(A:Ls)(n c:Nat)(l:List Int)(w:World)(hU:uW u)(hu:p.Ok w u)(hl:cq (EF cM) 1 w w.heap.size A n l) :
  Calls prog 11 #[.agg (p.val u),.slice A n c] w fun e ab=>∃q:SV,e=.returned (.agg (q.val (h6 u (dA u) (cf l 60))))∧q.Ok ab (h6 u (dA u) (cf l 60))∧Ext w ab:=
 (wc u p A n c l w hU hu hl).mono fun _ _ ⟨q,he,bK,aw⟩=>⟨q,he,bK.ok fun b O=>O.2,aw⟩
theorem xT(u:ay)(hU:uW u)(l:List Int):aX u 60 (h6 u (dA u) (cf l 60)):=by
 have h:=wE hU.ok (cf l 60) 0 (dA u) (oM hU.ok);have hl:(cf l 60).length≤60:=by unfold cf;rw[KK,List.length_take];omega
 exact h.mono ad
end Go.Proofs.YtnhhdaggkiomoaaGreat

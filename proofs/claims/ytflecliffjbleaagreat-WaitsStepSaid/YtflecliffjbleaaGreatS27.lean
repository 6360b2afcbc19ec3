/- Part 27 of the proof. No condition of its own. -/
import Derived.Test.YtflecliffjbleaaGreatS26
namespace Go.Proofs.YtflecliffjbleaaGreat
open Go.RowKit Go.Proofs.Tryz
set_option maxRecDepth 1000000
set_option maxHeartbeats 25600000
set_option linter.unusedVariables false
variable{m:Nat}{p:Prop}{ab w:World}{s:ai}{u:aw}
namespace DB
theorem vN(h:p:=by
 rw[bT.o];exact ft (B:=V.heap.size) bF.1 bh.2.drew (λb O=>⟨λhl=>by have:=H.o b hl;omega,ad⟩) (λb O=>by have:=H.o b O;omega) ad bh.1.drew (by rw[yl bS.2.1,List.set_set])
 ):p:=h
theorem dd(h:p:=by
 generalize hX:World.setCell _ _ _=Y;obtain⟨n,bD⟩:=aR.1.drop hX;have ar:=cJ hX;have r:=(aR.1.lo O (by simp)).1;have G:Ext V Y:=Fr.low (M:=λb=>b=O) (Fr.trans (Fr.mono aR.2.1 λ_ h=>h.elim) ar) λb O=>ad;have bF:=aA n bD (bP.trans G);have bg:=G.size;clear hX n bD ar G a0 ak af a8 am aJ d0 aK aO e0 a6 aQ c0 c1 c2 c3 J flb ab;exact vM
 ):p:=h
theorem BG(h:p:=by
 iterate 3 refine pf ?_
 exact eM
 ):p:=h
theorem sH(h:p:=by
 clear cq di ck;rcases cz.o with h|h
 all_goals
  first
   | have q1:(x.op == 1)=true:=by simpa using h
   | have q1:(x.op == 1)=false:=by simp;omega
  first
   | have cO:(x.op == 2)=true:=by simpa using h
   | have cO:(x.op == 2)=false:=by simp;omega
  first
   | have da:(x.op == 3)=true:=by simpa using h
   | have da:(x.op == 3)=false:=by simp;omega
  first
   | have db:(x.op == 4)=true:=by simpa using h
   | have db:(x.op == 4)=false:=by simp;omega
  first
   | have q5:(x.op == 5)=true:=by simpa using h
   | have q5:(x.op == 5)=false:=by simp;omega
  first
   | have dp:(x.op == 6)=true:=by simpa using h
   | have dp:(x.op == 6)=false:=by simp;omega
  first
   | have q7:(x.op == 7)=true:=by simpa using h
   | have q7:(x.op == 7)=false:=by simp;omega
  first
   | have dA:(x.op == 8)=true:=by simpa using h
   | have dA:(x.op == 8)=false:=by simp;omega
 ·
  have bT:=ae (ys (u:=u) (s:=s) (t:=t) (f:=f) h);clear h;go_upto_region 45 with(fail);generalize hX:World.setCell _ _ _=Y;have l:=aR.1.pc x.target;rw[hX] at l;have ar:=cJ hX;have G:Ext V Y:=Fr.low (M:=λb=>b=lb) (Fr.trans (Fr.mono aR.2.1 λ_ h=>h.elim) ar) λb O=>ad;have bF:=aA l.is l.o (bP.trans G);have bg:=G.size;clear hX l ar G a0 ak af a8 am aJ d0 aK aO e0 a6 aQ c0 c1 c2 c3 J flb ab;exact G1
 ·
  have bT:=ae (yt (u:=u) (s:=s) (t:=t) (f:=f) h);clear h;go_upto_region 9 with(fail);exact BF
 ):p:=h
theorem sJ(h:p:=by
 exact sG
 ):p:=h
theorem sL(h:p:=by
 exact sI
 ):p:=h
end DB
open DB in
theorem qV(u:aw)(s:ai)(t:Int)(f:an)(cp:cM)(x:ay)(N:Nat)(P:Nat->Prop)(w:World)(p:UV)(q:SV)(h:jq u s t f cp x N)(hN:N<=100000)(co:x.op=7\/x.op=8)(hu:p.Ok w u)(b2:q.Is w P s)(be:∀b,P b->b<w.heap.size) :
  Calls prog 20 #[.agg (p.val u),.agg (q.val s),.int .i64 t] w (c8 P w (b1 u s t f x).1 (b1 u s t f x).2):=by
 exact sK
theorem HC(u:aw)(s:ai)(t:Int)(N:Nat)(P:Nat->Prop)(w:World)(p:UV)(q:SV)(hU:yH u)(hS:aT u N s)(hN:N<=100000)(hu:p.Ok w u)(hs:q.Is w P s)(be:∀b,P b->b<w.heap.size) :
  Calls prog 20 #[.agg (p.val u),.agg (q.val s),.int .i64 t] w (c8 P w (cj u s t).1 (cj u s t).2):=by
 cases htop:dO s t with
 | none=>rw[qZ htop];exact w6 u s t P w p q hu hs be htop
 | some f=>
  obtain⟨cp,x,n,r⟩:=jq.of hU hS hN htop;rw[q0 htop r];have y:x.op=1\/x.op=2\/x.op=3\/x.op=4\/x.op=5\/x.op=6\/x.op=7\/x.op=8:=by
   exact zU
  rcases y with h|h|h|h|h|h|h|h
  .exact qT u s t f cp x N P w p q n hN (.inl h) hu hs be
  .exact qS u s t f cp x N P w p q n hN (.inl h) hu hs be
  .exact qS u s t f cp x N P w p q n hN (.inr h) hu hs be
  .exact qU u s t f cp x N P w p q n hN (.inl h) hu hs be
  .exact qU u s t f cp x N P w p q n hN (.inr h) hu hs be
  .exact qT u s t f cp x N P w p q n hN (.inr h) hu hs be
  .exact qV u s t f cp x N P w p q n hN (.inl h) hu hs be
  .exact qV u s t f cp x N P w p q n hN (.inr h) hu hs be
def zN(w:World)(s:ai)(m:Nat)(e:Ending)(ab:World):Prop:=∃q:SV,e=.returned (.tuple #[.agg (q.val s),.int .i64 (m:Int)])/\q.Is ab (λk=>w.heap.size<=k/\k<ab.heap.size) s/\Ext w ab
namespace DC
theorem fO(h:p:=by
 refine tf ?_;refine ck ?_;generalize hX:World.setCell _ _ _=X;obtain⟨bC,bz,ct⟩:=bs (w:=wr) [.slice aH ai T,.slice dl s r,.slice bW ay be,.int .i64 (cj u S t).1.fault] (by rfl) bV bL gP hX;have aG:(⟨aH,ai,T,dl,s,r,bW,ay,be⟩:SV).Is X (λb=>W.heap.size<=b/\b<X.heap.size/\b≠aP.heap.size) (cj u S t).1:=(L.ak λb O=>ct.block b O.2.1 O.2.2.2).mono λb O=>⟨O.1,by have:=ct.size;have:=O.2.1;omega,O.2.2.1⟩
 have cb:=a2.2.1.aj bz;have y:=aA bz aG cb;obtain⟨bU,aX,a4⟩:=bC.two;obtain⟨a8,am,aJ⟩:=cb.two;have cx:=bz.size;clear hX bV bL L ct bz aG cb bC
 cases bg:(cj u S t).2 with
 | true=>
  have b9:=ae bg;clear bg;go_wp2_with(fail);generalize bG:World.setCell _ _ _=Z;obtain⟨bt,bf⟩:=kO 0 [.slice aH ai T,.slice dl s r,.slice bW ay be,.int .i64 (cj u S t).1.fault] y.2.2 bG;have bh:=ah bt bf;clear bG bt bf bU aX a4 a8 am aJ;go_roundw
  case rel=>
   have al:Fr (λb=>b=aP.heap.size) V Z:=Fr.trans (Fr.trans a2.1 (Fr.mono y.1 λ_ h=>h.elim)) bh.2;have hs:=a2.2.2.2.2.2.1 t aR.o;have cl:(jV u S [t]).length=1:=by
    show ((if (cj u S t).2 then [t] else [])++[]).length=1
    rw[b9.o];rfl
   refine⟨k+1,⟨aH,ai,T,dl,s,r,bW,ay,be⟩,?_,by go_num,ad,al,?_,?_⟩
   .rw[hs.1,LD,cl];go_num
   .rw[hs.2];exact bh.1
   .rw[hs.2];have U:=bh.2.size;exact(y.2.1.ak λb O=>bh.2.block b O.2.1 O.2.2).mono λb O=>⟨O.1,by have:=O.2.1;omega,O.2.2⟩
  case measure=>exact aE
 | false=>
  have b9:=ae bg;clear bg;go_wp2_with(fail);clear bU aX a4 a8 am aJ;go_roundw
  case rel=>
   have al:Fr (λb=>b=aP.heap.size) V X:=Fr.trans a2.1 (Fr.mono y.1 λ_ h=>h.elim);have hs:=a2.2.2.2.2.2.1 t aR.o;have cl:(jV u S [t]).length=0:=by
    show ((if (cj u S t).2 then [t] else [])++[]).length=0
    rw[b9.o];rfl
   refine⟨k+1,⟨ac,sm,ax,bA,aC,az,bH,hm,hd⟩,?_,by go_num,ad,al,?_,?_⟩
   .rw[hs.1,LD,cl,LM]
   .rw[hs.2,mC b9.o];exact y.2.2
   .rw[hs.2,mC b9.o];exact(a2.2.2.1.Hw (λb O=>O.2.1) y.1).mono λb O=>⟨O.1,by have:=O.2.1;omega,O.2.2⟩
  case measure=>exact aE
 ):p:=h
theorem nw(h:p:=by
 have ag:=cX aF cB (cc.1.on aF) (cc.2.cS (Fr.ext aF) aF.size) aS;have cS:=aF.size;have dy:=cB.lt;obtain⟨a0,ak,af⟩:=aS.two;clear bd aF aS cB cc;go_wp2_with(fail);refine(Km u W ⟨GA,gn,gc,MA,mn,mc,PA,pn,pc⟩ cz.o ag.2.2.1).mono ?_;rintro e aP ⟨⟨bE,bK,bw,TA,tn,tc,HA,bJ,hc⟩,rfl,N,aL⟩;have H1:=ah N aL;have cg:=aL.size;clear N aL a0 ak af;dsimp only[SV.val];go_upto_region 2 with(fail);generalize hV:World.alloc _ _=V;have bo:=aZ hV;have b5:=aN hV;have b2:=b5.lt;have aI:(⟨bE,bK,bw,TA,tn,tc,HA,bJ,hc⟩:SV).Is V (λb=>W.heap.size<=b/\b<V.heap.size/\b≠aP.heap.size) (eV u):=(H1.1.ak λb O=>bo.block b (O.resolve_left λh=>h).2 λh=>h).mono λb O=>by have:=O.resolve_left λh=>h;omega
 have j:=aA aI b5 (H1.2.trans bo);clear hV bo b5 aI;go_wp2_with(fail);go_loopw [7,8] (λhk cw wr=>∃(k:Nat) (q:SV),hk=.int .i64 ((jV u (eV u) (l.take k)).length:Int)/\cw=.int .i64 k/\k<=n/\Fr (λb=>b=aP.heap.size) V wr/\ao wr aP.heap.size 30 (q.val (iZ u (eV u) (l.take k)))/\q.Is wr (λb=>W.heap.size<=b/\b<wr.heap.size/\b≠aP.heap.size) (iZ u (eV u) (l.take k))) (λ_ cw _=>n - (intOf cw).toNat)
 case atStart=>exact⟨0,_,rfl,rfl,ad,Mg,j.2.1,j.1⟩
 case round=>
  obtain⟨k,⟨ac,sm,ax,bA,aC,az,bH,hm,hd⟩,rfl,rfl,aj,hF,z,an⟩:=hrel;have J:Ext W wr:=Fr.low (M:=λb=>b=aP.heap.size) (Fr.trans (Fr.mono j.2.2 λ_ h=>h.elim) hF) λb O=>ad;have b8:=tz cz.ok (l.take k) 0 (eV u) (tk cz.ok);have aO:=ID (u:=u) (l.take k) (eV u);rw[List.length_take] at aO;have aY:(jV u (eV u) (l.take k)).length<=100000:=ad;have cW:∀t,l[k]?=some t->jV u (eV u) (l.take (k+1))=jV u (eV u) (l.take k)++jV u (iZ u (eV u) (l.take k)) [t]/\iZ u (eV u) (l.take (k+1))=(cj u (iZ u (eV u) (l.take k)) t).1:=λt ht=>by
   rw[aU ht,vq,uY];exact⟨rfl,rfl⟩
  have m:k=n->iZ u (eV u) (l.take k)=iZ u (eV u) l/\jV u (eV u) (l.take k)=jV u (eV u) l:=λh=>by
   rw[LK (aB ag.2.2.2.1.1)];exact⟨rfl,rfl⟩
  generalize hS:iZ u (eV u) (l.take k)=S at *;generalize ay:(jV u (eV u) (l.take k))=M at *;have a2:=hj hF z an J b8 cW m;have dL:=hF.size;have ab:=ae (show W.heap.size<=aP.heap.size/\aP.heap.size<V.heap.size/\V.heap.size<=wr.heap.size from ⟨cg,b2,hF.size⟩);have cf:=z.lt;clear b8 cW m hS ay aO;by_cases ap:k<n
  .have H:=ag.2.2.2.1.cS (Fr.ext J) J.size;obtain⟨b,o,t,bO,O,hx,hc⟩:=H.int ap;subst bO;obtain⟨a0,ak,af⟩:=(ag.2.2.2.2.aj J).two;obtain⟨a8,am,aJ⟩:=z.two;have aR:=ae hx;clear hF z an J H hx;go_upto_region 5 with(fail);refine tw (λ_=>False) [11] (.held 0 (.held 1 (.free 2 (.free 3 (.free 4 (.held 5 (.pick [6,10] (λi=>bif i == 6 then .free 7 (.free 8 (.free 9 (.pick [10] (λ_=>.pick [11] (λ_=>.free 12 (.stop)))))) else .pick [6] (λ_=>.free 7 (.free 8 (.free 9 (.pick [11] (λ_=>.free 12 (.stop)))))))))))))) ?_
   iterate 2 refine th ?_
   iterate 3 refine tf ?_
   refine th ?_;refine q2 (P:=?pI) (ops:=?IM) (Q:=?IP) (R:=?IQ) (tails:=?IT) (rest:=.pick [11] (λ_=>.free 12 (.stop))) (aa:=?IL)
    (C:=λ(cD:Nat) (Y:Value) fg=>Ext wr fg/\ao fg cD 30 #[.slice none 0 0,.slice none 0 0,.slice none 0 0,.int .i64 0]/\wr.heap.size<=cD/\∃ar:SV,Y=.agg (ar.val (cj u S t).1)/\ar.Is fg (λb=>W.heap.size<=b/\b<fg.heap.size/\b≠aP.heap.size/\b≠cD) (cj u S t).1) (λkey=>?ze) ?y7
   case ze=>
    refine a5 ?_ ?_
    ·
     refine aD rfl (λK hK=>?_) rfl;go_simp;refine(HC u S t _ (λb=>W.heap.size<=b/\b<wr.heap.size/\b≠aP.heap.size) wr.drew ⟨GA,gn,gc,MA,mn,mc,PA,pn,pc⟩ ⟨ac,sm,ax,bA,aC,az,bH,hm,hd⟩ cz.o a2.2.2.2.2.1 (by rw[List.length_take];omega) (ag.2.2.1.on a2.2.2.2.1.drew) (a2.2.2.1.ak λb O=>rfl) (λb O=>O.2.1)).mono ?_;rintro e aW ⟨ar,rfl,au,aT⟩;refine dP hK (aT) ?_;clear hK K
     iterate 3 refine tf ?_
     refine aq ?_;refine eu ?_;generalize bG:World.alloc _ _=Z;have e2:=aZ bG;have bP:wr.heap.size<=aW.heap.size:=aT.size;have cF:=e2.size;have F:Ext wr Z/\ao Z aW.heap.size 30 #[.slice none 0 0,.slice none 0 0,.slice none 0 0,.int .i64 0]/\wr.heap.size<=aW.heap.size/\∃cO:SV,(Value.agg (ar.val (cj u S t).1))=.agg (cO.val (cj u S t).1)/\cO.Is Z (λb=>W.heap.size<=b/\b<Z.heap.size/\b≠aP.heap.size/\b≠aW.heap.size) (cj u S t).1:=
      ⟨(Fr.aF aT).trans e2,by rw[<-bG];exact Mh,bP,ar,rfl,(au.ak λb O=>e2.block b (O.elim (λh=>ad) λh=>h.2) λh=>h).mono λb O=>by
       have hd:wr.drew.heap.size=wr.heap.size:=rfl;have:=ab.o;rcases O with O|O<;>omega⟩
     clear bG e2 bP cF au aT;revert F;generalize aW.heap.size=cD;generalize (Value.agg (ar.val (cj u S t).1))=Y;intro F;exact key cD Y _ F
    ·
     refine eu ?_;generalize bn:World.drew (World.alloc _ _)=fh;have e1:=hh bn;have cn:=lP bn;have aK:=cn.lt;refine aq ?_;refine aD rfl (λK hK=>?_) rfl;go_simp;refine(HC u S t _ (λb=>W.heap.size<=b/\b<wr.heap.size/\b≠aP.heap.size) fh ⟨GA,gn,gc,MA,mn,mc,PA,pn,pc⟩ ⟨ac,sm,ax,bA,aC,az,bH,hm,hd⟩ cz.o a2.2.2.2.2.1 (by rw[List.length_take];omega) (ag.2.2.1.on (a2.2.2.2.1.trans e1)) (a2.2.2.1.Hw (λb O=>O.2.1) e1) (λb O=>by have:=O.2.1;omega)).mono ?_;rintro e aW ⟨ar,rfl,au,aT⟩;refine dP hK (aT) ?_;clear hK K
     iterate 3 refine tf ?_
     have bP:=aT.size;have F:Ext wr aW/\ao aW wr.heap.size 30 #[.slice none 0 0,.slice none 0 0,.slice none 0 0,.int .i64 0]/\wr.heap.size<=wr.heap.size/\∃cO:SV,(Value.agg (ar.val (cj u S t).1))=.agg (cO.val (cj u S t).1)/\cO.Is aW (λb=>W.heap.size<=b/\b<aW.heap.size/\b≠aP.heap.size/\b≠wr.heap.size) (cj u S t).1:=
      ⟨e1.trans aT,cn.aj aT,Lz _,ar,rfl,au.mono λb O=>by
       have:=ab.o;rcases O with O|O<;>omega⟩
     clear bn e1 cn aK bP au aT;revert F key;generalize (Value.agg (ar.val (cj u S t).1))=Y;intro key F;exact key wr.heap.size Y _ F
   case y7=>
    rintro cD Y fg ⟨bL,bV,gP,⟨aH,ai,T,dl,s,r,bW,ay,be⟩,rfl,L⟩;dsimp only[SV.val];obtain⟨bU,aX,a4⟩:=bV.two;clear a0 ak af a8 am aJ hc;exact gr
  .have a7:k=n:=ad;have aQ:=ae a7;obtain⟨a8,am,aJ⟩:=z.two;have av:=ag.2.1.aj J;have I:=ah av (ag.1.trans J);obtain⟨bp,aM,aV⟩:=av.two;clear hF z an J a7 av;go_wp2_with(fail);generalize hX:World.setCell _ _ _=Z;obtain⟨bt,ba,bf⟩:=bs (w:=w) [.slice ac sm ax,.slice bA aC az,.slice bH hm hd,.int .i64 S.fault] (by rfl) I.1 I.2 ad hX;have bh:=ah ba bf;clear hX ba bf bp aM aV a8 am aJ;obtain⟨bp,aM,aV⟩:=bt.two;refine Mf (v:=.tuple #[.agg #[.slice ac sm ax,.slice bA aC az,.slice bH hm hd,.int .i64 S.fault],.int .i64 (M.length:Int)]) (by simp[results,Tryz.results33,go_sem,bp]) rfl ?_;have m:=a2.2.2.2.2.2.2 aQ.o;rw[<-m.1,<-m.2];have cT:=bh.2.size;exact⟨⟨ac,sm,ax,bA,aC,az,bH,hm,hd⟩,rfl,(a2.2.2.1.ak λb O=>bh.2.block b O.2.1 (aB O.1)).mono λb O=>⟨by have:=O.1;omega,by have:=O.2.1;omega⟩,bh.1⟩
 ):p:=h
end DC
open DC in
theorem JG(u:aw)(l:List Int)(A:Mk)(n c:Nat)(w:World)(p:UV)(hU:yH u)(hu:p.Ok w u)(hl:cA (EF cd) 1 w w.heap.size A n l)(hn:n<=100000) :
  Calls prog 33 #[.agg (p.val u),.slice A n c] w (zN w (iZ u (eV u) l) (jV u (eV u) l).length):=by
 obtain⟨GA,gn,gc,MA,mn,mc,PA,pn,pc⟩:=p;have cc:=ah hu hl;have cz:=ae hU;clear hU hu hl;dsimp only[UV.val];go_enter func33,ntmps33;exact nv
def FB(w:World)(r:Option (Int×Int))(e:Ending)(ab:World):Prop:=
 e=.returned (.tuple #[.int .i64 ((r.map Prod.fst).getD 0),.int .i64 ((r.map Prod.snd).getD 0),.bool r.isSome])/\Ext w ab
structure l2(u:aw)(s:ai)(N:Nat)(w:World)(p:UV)(q:SV):Prop where
 hU:yH u
 hS:aT u N s
 hN:N<=100000
 u:p.Ok w u
 s:q.Ok w s
theorem l2.on{u:aw}{s:ai}{N:Nat}{w ab:World}{p:UV}{q:SV}(h:l2 u s N w p q)(he:Ext w ab):l2 u s N ab p q:=⟨h.hU,h.hS,h.hN,h.u.on he,h.s.on he⟩
theorem Fi{t:Int}{f:an}{x:ay}(ht:dO s t=some f)(hx:dz u s t=some x):
  (x.op≠4->ek u s t=none)/\(x.op=4->(bj u s f x.place).2≠0->ek u s t=none)/\
  (x.op=4->(bj u s f x.place).2=0->free u.af s.table (bj u s f x.place).1 t=true->ek u s t=none)/\
  (x.op=4->(bj u s f x.place).2=0->free u.af s.table (bj u s f x.place).1 t=false->ek u s t=some ((bj u s f x.place).1,(jK s.table (bj u s f x.place).1).owner - 1)):=by
 unfold ek;rw[ht,hx];refine⟨λh=>?_,λac ax=>?_,λac ax a1=>?_,λac ax a1=>?_⟩
 .simp[h]
 .simp[ac,ax]
 .simp[ac,ax,a1]
 .simp[ac,ax,a1]
namespace CG
theorem Az(h:p:=by
 have cS:=ag.2.2.1.lt;have dj:=cT.2.size;have bP:=ae bo;have P:=ae (cT.1.on b5).place;have ca:=ae dc;obtain⟨a0,ak,af⟩:=(ag.2.1.aj bo).two;obtain⟨a8,am,aJ⟩:=(ag.2.2.1.aj bo).two;obtain⟨d0,aK,aO⟩:=dc.two;clear hV bo b5 dc cT;by_cases co:x.op=4
 case neg=>
  have q1:(x.op != 4)=true:=by simpa using co
  have bT:=ae (g.1 co);clear co g;go_wp2_with(fail)
  go_ret3
  exact⟨by rw[bT.o];rfl,ag.1.trans bP.o⟩
 have q1:(x.op != 4)=false:=by simpa using co
 have bk:cL (br u) cp.locals cp.ax x.place:=by
  obtain⟨len,_,al⟩:=i.ok;exact DM
 have K:=i.hS.yz;obtain⟨bN,c4,cw,_⟩:=i.th;have bO:t<=1000:=ad;have bZ:=iF (s:=s) (nl:=cp.locals) (nk:=f.ax.length) i.hU.ok i.hF (Int.le_refl _) (by rw[i.hF.qq i.hp];exact bk);have aY:=aA bZ.2 bk (i.hS.tok cC.hN);have y:=aA (g.2.1 co) (g.2.2.1 co) (g.2.2.2 co);clear co g bk bZ K bN c4 cw;go_wp2_with(fail)
 first
  | refine(mq u s t f x.place N V ⟨GA,gn,gc,MA,mn,mc,PA,pn,pc⟩ ⟨bE,bK,bw,TA,tn,tc,HA,hn,hc⟩ QA qm qc ⟨i.hU.ok,i.hS,i.sm,i.ht,⟨cp,i.hp,aY.2.1⟩,ag.2.2.2.u.on bP.o,ag.2.2.2.s.on bP.o,P.o⟩).mono ?_
  | refine(my u s t f x.place N V ⟨GA,gn,gc,MA,mn,mc,PA,pn,pc⟩ ⟨bE,bK,bw,TA,tn,tc,HA,hn,hc⟩ QA qm qc ⟨i.hU.ok,i.hS,i.sm,i.ht,⟨cp,i.hp,aY.2.1⟩,ag.2.2.2.u.on bP.o,ag.2.2.2.s.on bP.o,P.o⟩).mono ?_
 rintro e aW ⟨rfl,bg⟩;rw[gS i.ht];have aT:Ext V aW:=Fr.of bg;have b2:=ah aY.1 y.o;generalize bj u s f x.place=R at *;obtain⟨l,z⟩:=R;have o:=(ag.1.trans bP.o).trans aT;have m:=bA o ((ag.2.2.2.on bP.o).on aT) ((ag.2.1.aj bP.o).aj aT) ((ag.2.2.1.aj bP.o).aj aT);clear a0 ak af a8 am aJ d0 aK aO bg y;obtain⟨a0,ak,af⟩:=m.2.2.1.two;obtain⟨a8,am,aJ⟩:=m.2.2.2.two;clear aT o;by_cases aG:z=0
 case neg=>
  have cO:(z != 0)=true:=by simpa using aG
  have bT:=ae (b2.2.1 aG);clear aG b2;go_wp2_with(fail)
  go_ret3
  exact⟨by rw[bT.o];rfl,m.1⟩
 have cO:(z != 0)=false:=by simpa using aG
 have aI:=b2.1 aG;simp only at aI;have bz:=j0 i.hU.ok;have bi:l<=5000:=ad;have v:=aI.1;have F:=ae aI;have J:=ah (b2.2.2.1 aG) (b2.2.2.2 aG);clear aG aI bz b2;go_wp2_with(fail)
 first
  | refine(ux MA TA mn mc tn tc u.af s.table l t aW m.2.1.u.at_.m.qx i.hU.ok.zH m.2.1.s.at_.t.holds aY.2.2 ad ad).mono ?_
  | refine(oH MA TA mn mc tn tc u.af s.table l t aW m.2.1.u.at_.m.qx i.hU.ok.zH m.2.1.s.at_.t.holds aY.2.2 ad).mono ?_
 rintro e b4 ⟨rfl,aD⟩;have a3:Ext aW b4:=Fr.of aD;have ba:=ah (m.1.trans a3) (m.2.1.on a3);have bU:=m.2.2.2.aj a3;clear a0 ak af a8 am aJ aD a3;obtain⟨a8,am,aJ⟩:=bU.two;clear bU
 cases b3:free u.af s.table l t with
 | true=>
  have bT:=ae (J.1 b3);clear b3 J;go_wp2_with(fail)
  go_ret3
  exact⟨by rw[bT.o];rfl,ba.1⟩
 | false=>
  have hF:=J.2 b3;obtain⟨k,rfl⟩:=LH v;have aj:k<tn:=by
   have ac:=ba.2.s.at_.t.1;have ax:=ba.2.hS.table;have a1:=ff u.af;have aU:=F.o;simp only[LG] at ac;omega
  obtain⟨G,to,hd,rfl,an,hx,c0,c1⟩:=ba.2.s.at_.t.holds.hold aj;have bt:=(ba.2.hS.holds k hd hx).owner;have K:=ba.2.hS.yz;have az:IntKind.i64.wrap (hd.owner - 1)=hd.owner - 1:=IntWalk.i64_in _ ad;have E:(jK s.table (k:Int)).owner=hd.owner:=by simp[jK,hx]
  rw[E] at hF;have bT:=ae hF;have cK:=ah aj az;have b7:(k:Int)<(tn:Int):=ad;have bm:(0:Int)<=(k:Int):=ad;clear b3 J hF bt K E hx aj az;go_upto_region 7 with(fail);refine eK (λ_=>False) [(0,3),(1,3),(2,0),(3,3),(4,3),(5,3),(6,0),(7,3),(8,3),(9,3),(10,3)] ?_
  iterate 2 refine pf ?_
  refine ph ?_
  iterate 3 refine pf ?_
  refine ph ?_
  iterate 4 refine pf ?_
  refine aC ?_;go_wp2_with(fail)
  go_ret3
  exact⟨by rw[bT.o];simp[cK.2],ba.1.drew⟩
 ):p:=h
theorem BL(h:p:=by
 cases htop:dO s t with
 | none=>
  have bT:=ae (xu (u:=u) htop);have Q:=ae htop;clear htop;go_wp2_with(fail)
  first
   | refine(kS u s t W ⟨GA,gn,gc,MA,mn,mc,PA,pn,pc⟩ ⟨bE,bK,bw,TA,tn,tc,HA,hn,hc⟩ ag.2.2.2.s Q.o).mono ?_
   | refine(k0 u s t W ⟨GA,gn,gc,MA,mn,mc,PA,pn,pc⟩ ⟨bE,bK,bw,TA,tn,tc,HA,hn,hc⟩ ag.2.2.2.s Q.o).mono ?_
  rintro e aP ⟨rfl,aL⟩;have bu:=ae (ag.1.trans aL);clear a0 ak af a8 am aJ aL;go_wp2_with(fail)
  go_ret3
  exact⟨by rw[bT.o];rfl,bu.alloc _⟩
 | some f=>
  obtain⟨cp,x,n,r⟩:=jq.of cC.hU cC.hS cC.hN htop;have g:=ae (Fi htop r);have i:=ae n;clear htop r n;go_wp2_with(fail)
  first
   | refine(kT u s t f cp x W ⟨GA,gn,gc,MA,mn,mc,PA,pn,pc⟩ ⟨bE,bK,bw,TA,tn,tc,HA,hn,hc⟩ ⟨i.sm,i.ht,i.hp,i.hx,i.hF.proc,i.pc.1,i.il,i.kl,ag.2.2.2.u,ag.2.2.2.s⟩).mono ?_
   | refine(k1 u s t f cp x W ⟨GA,gn,gc,MA,mn,mc,PA,pn,pc⟩ ⟨bE,bK,bw,TA,tn,tc,HA,hn,hc⟩ ⟨i.sm,i.ht,i.hp,i.hx,i.hF.proc,i.pc.1,i.il,i.kl,ag.2.2.2.u,ag.2.2.2.s⟩).mono ?_
  exact Ay
 ):p:=h
theorem eZ(h:p:=by
 have cC:=ae h;clear h;dsimp only[UV.val,SV.val];cases b
 all_goals
  simp only[cond_true,cond_false]
  first
   | go_enter func17,ntmps17
   | go_enter func73,ntmps73
  exact BJ
 ):p:=h
end CG
open CG in
theorem k5(b:Bool)(u:aw)(s:ai)(t:Int)(N:Nat)(w:World)(p:UV)(q:SV)(h:l2 u s N w p q) :
  Calls prog (bif b then 73 else 17) #[.agg (p.val u),.agg (q.val s),.int .i64 t] w (FB w (ek u s t)):=by
 exact eY
theorem y6(b:Bool)(u:aw)(s:ai)(t:Int)(N:Nat)(w:World)(p:UV)(q:SV)(h:l2 u s N w p q) :
  Calls prog (bif b then 26 else 39) #[.agg (p.val u),.agg (q.val s),.int .i64 t] w λe ab=>
   ∃(x:ay) (v:IV),e=.returned (.tuple #[.agg (v.val x),.bool (dz u s t).isSome])/\Ext w ab:=by
 cases htop:dO s t with
 | none=>
  rw[oB htop];cases b
  .exact(kS u s t w p q h.s htop).mono λe ab h=>⟨⟨0,0,false,none,⟨false,0,none⟩,[],[]⟩,⟨0,0,⟨#[]⟩,none,0,0,none,0,0,none,0,0,none,0,0⟩,h.1,h.2⟩
  .exact(k0 u s t w p q h.s htop).mono λe ab h=>⟨⟨0,0,false,none,⟨false,0,none⟩,[],[]⟩,⟨0,0,⟨#[]⟩,none,0,0,none,0,0,none,0,0,none,0,0⟩,h.1,h.2⟩
 | some f=>
  obtain⟨cp,x,n,r⟩:=jq.of h.hU h.hS h.hN htop;rw[r];have al:HN u s t f cp x w p q:=⟨n.sm,n.ht,n.hp,n.hx,n.hF.proc,n.pc.1,n.il,n.kl,h.u,h.s⟩
  cases b
  .exact(kT u s t f cp x w p q al).mono λe ab ⟨v,h,_,he⟩=>⟨_,_,h,he⟩
  .exact(k1 u s t f cp x w p q al).mono λe ab ⟨v,h,_,he⟩=>⟨_,_,h,he⟩
namespace CH
theorem BL(h:p:=by
 go_wp2_with(fail)
 first
  | refine(cM.o false W ag.2.2.2).1.mono ?_
  | refine(cM.o true W ag.2.2.2).1.mono ?_
 rintro e aP ⟨x,⟨eo,en,es,EA,em,ec,QA,qm,qc,dk,j,df,KA,dg,kc⟩,rfl,aL⟩;dsimp only[IV.val];generalize al:(dz u s t).isSome=i;obtain⟨g,bu⟩:=aH al aL;clear a0 ak af a8 am aJ aL al;go_upto_region 2 with(fail);generalize hV:World.alloc _ _=V;have bo:Ext W V:=hV▸bu.alloc _;have cc:=ah (ag.1.trans bo) (ag.2.2.2.on bo);obtain⟨a0,ak,af⟩:=(ag.2.1.aj bo).two;obtain⟨a8,am,aJ⟩:=(ag.2.2.1.aj bo).two;clear hV bo;go_wp2_with(fail)
 first
  | refine(cM.o false V cc.2).2.mono ?_
  | refine(cM.o true V cc.2).2.mono ?_
 rintro e aW ⟨rfl,aT⟩;have a7:=ae (cc.1.trans aT);have f:zE u s t=(i && (ek u s t).isNone):=by rw[<-g.o];rfl
 have bg:(ek u s t).isNone=!(ek u s t).isSome:=by cases ek u s t<;>rfl
 rw[bg] at f;generalize ek u s t=r at *;have l:=ae f;clear a0 ak af a8 am aJ aT f bg;cases i<;>cases r<;>(go_wp2_with(fail);go_ret;exact⟨by rw[l.o];rfl,a7.o⟩)
 ):p:=h
theorem eZ(h:p:=by
 have cC:=ae h;have cM:=ae λ(b:Bool) (w:World) (h:l2 u s N w ⟨GA,gn,gc,MA,mn,mc,PA,pn,pc⟩ ⟨bE,bK,bw,TA,tn,tc,HA,hn,hc⟩)=>And.intro (y6 b u s t N w _ _ h) (k5 b u s t N w _ _ h);clear h;dsimp only[UV.val,SV.val] at *;cases b
 all_goals
  simp only[cond_true,cond_false]
  first
   | go_enter func25,ntmps25
   | go_enter func49,ntmps49
  exact BJ
 ):p:=h
end CH
open CH in
theorem ot(b:Bool)(u:aw)(s:ai)(t:Int)(N:Nat)(w:World)(p:UV)(q:SV)(h:l2 u s N w p q) :
  Calls prog (bif b then 49 else 25) #[.agg (p.val u),.agg (q.val s),.int .i64 t] w λe ab=>e=.returned (.bool (zE u s t))/\Ext w ab:=by
 exact eY
theorem l2.len{N:Nat}{p:UV}{q:SV}(h:l2 u s N w p q):s.threads.length=q.hn/\1<=q.hn/\q.hn<=32:=by
 have ac:=h.s.at_.h.1;have ax:=h.hS.yz;simp only[LG] at ac;omega
theorem w3(h:∀j:Nat,j<s.threads.length->zE u s (j:Int)=false):nV u s=true:=by
 unfold nV;rw[List.all_eq_true];intro j bi;rw[h j (List.mem_range.1 bi)];rfl
theorem uQ{j:Nat}(bi:j<s.threads.length)(h:zE u s (j:Int)=true):nV u s=false:=by
 unfold nV;rw[List.all_eq_false];exact⟨j,List.mem_range.2 bi,by simp[h]⟩
namespace CI
theorem Bo(h:p:=by
 go_loopw [9] (λcw wr=>∃k:Nat,cw=.int .i64 k/\k<=hn/\Ext W wr/\∀j:Nat,j<k->zE u s (j:Int)=false) (λcw _=>hn - (intOf cw).toNat)
 case atStart=>exact⟨0,rfl,ad,Mg,λj bi=>ad⟩
 case round=>
  obtain⟨k,rfl,aj,aF,P⟩:=hrel;have bj:=ah aF P;obtain⟨a0,ak,af⟩:=(ag.2.1.aj aF).two;obtain⟨a8,am,aJ⟩:=(ag.2.2.1.aj aF).two;clear aF P;by_cases ap:k<hn
  .have aU:(k:Int)<(hn:Int):=ad;go_wp2_with(fail);refine(ot false u s k N wr ⟨GA,gn,gc,MA,mn,mc,PA,pn,pc⟩ ⟨bE,bK,bw,TA,tn,tc,HA,hn,hc⟩ (ag.2.2.2.on bj.1)).mono ?_;rintro e aP ⟨rfl,aL⟩;have bu:=ae (bj.1.trans aL);clear a0 ak af a8 am aJ aL
   cases f:zE u s (k:Int) with
   | true=>
    have bT:=ae (uQ (aB cC.2) f);clear f;go_wp2_with(fail);go_ret
    exact⟨by rw[bT.o];rfl,ag.1.trans bu.o⟩
   | false=>
    have l:=ae f;clear f;go_wp2_with(fail);go_roundw
    case rel=>exact⟨k+1,by go_num,ad,bu.o,λj bi=>by
     rcases Nat.lt_or_ge j k with ac|ac
     .exact bj.2 j ac
     .rw[show j=k by omega];exact l.o⟩
    case measure=>exact aE
  .have aU:¬(k:Int)<(hn:Int):=ad;have bT:=ae (w3 (u:=u) (s:=s) λj bi=>bj.2 j (aB cC.2));go_wp2_with(fail);go_ret;exact⟨by rw[bT.o];rfl,ag.1.trans bj.1⟩
 ):p:=h
theorem eZ(h:p:=by
 obtain⟨hlen,cP,g⟩:=h.len;have cC:=ah h hlen;clear h hlen;simp only at cP g;dsimp only[UV.val,SV.val];go_enter func21,ntmps21;exact Bn
 ):p:=h
end CI
open CI in
theorem Ik(u:aw)(s:ai)(N:Nat)(w:World)(p:UV)(q:SV)(h:l2 u s N w p q) :
  Calls prog 21 #[.agg (p.val u),.agg (q.val s)] w λe ab=>e=.returned (.bool (nV u s))/\Ext w ab:=by
 exact eY
theorem s8{k:Nat}(h:k<s.threads.length):((c4 u s).take (k+1)).flatMap cd=((c4 u s).take k).flatMap cd++[.int .i64 (kQ (ek u s (k:Int)))]:=by
 have hx:(c4 u s)[k]?=some (kQ (ek u s (k:Int))):=by
  unfold c4;rw[List.getElem?_map,List.getElem?_range h];rfl
 rw[aU hx,fF]
namespace CJ
theorem Bo(h:p:=by
 go_loopw [5,13] (λv cw wr=>∃k:Nat,cw=.int .i64 k/\k<=hn/\wr.ownsRow W.heap.size 3 1 v k (((c4 u s).take k).flatMap cd)/\Below W.heap.size W wr) (λ_ cw _=>hn - (intOf cw).toNat)
 case atStart=>exact⟨0,rfl,ad,World.ownsRow_nil _ _ _ _,Below.refl _ _⟩
 case round=>
  obtain⟨k,rfl,aj,az,O⟩:=hrel;have aF:Ext W wr:=Fr.of O;have ci:=O.size;obtain⟨a0,ak,af⟩:=(ag.2.1.aj aF).two;obtain⟨a8,am,aJ⟩:=(ag.2.2.1.aj aF).two;have bj:=aA aF az O;clear aF az O;by_cases ap:k<hn
  .have aU:(k:Int)<(hn:Int):=ad;have bM:=ae (s8 (u:=u) (s:=s) (k:=k) (aB cC.2));go_wp2_with(fail);refine(k5 false u s k N wr ⟨GA,gn,gc,MA,mn,mc,PA,pn,pc⟩ ⟨bE,bK,bw,TA,tn,tc,HA,hn,hc⟩ (ag.2.2.2.on bj.1)).mono ?_;rintro e aP ⟨rfl,aL⟩;have bX:Below wr.heap.size wr aP:=Fr.ext aL;have ay:=bR bj.2.1 bX;have bg:Below W.heap.size W aP:=bj.2.2.trans (bX.mono ci);have f:=bg.size;generalize ek u s (k:Int)=r at *;clear a0 ak af a8 am aJ aL bX;cases r
   all_goals
    go_wp2_with(at_builtin;refine cy _ cU (by rfl) (.tmp 26) (.tmp 28) (by rfl) W.heap.size _ _ _ _ (by rfl) ay (by rfl) (by rfl) (jO _ _) ad ad f ?_;intro v1 aW S aI b5);go_roundw
    case rel=>exact⟨k+1,by go_num,ad,by rw[bM.o];exact S,dX bg ay aI (Lz _) f⟩
    case measure=>exact aE
  .have aU:¬(k:Int)<(hn:Int):=ad;obtain rfl:k=hn:=ad;have hl:=cC.2;skip
   have eW:(c4 u s).take k=c4 u s:=LK (by rw[jh];omega);obtain⟨cp,c1,rfl,cN,_,_,_⟩:=bH bj.2.1;have bT:=aA eW cN hl;clear eW cN hl;go_wp2_with(fail);go_ret;refine⟨cp,c1,rfl,bT.2.1,?_,ag.1.trans bj.1⟩;have:=bj.2.1;rw[bT.1] at this;exact hy this (ho _) (by rw[jh,bT.2.2])
 ):p:=h
theorem eZ(h:p:=by
 obtain⟨hlen,cP,g⟩:=h.len;have cC:=ah h hlen;clear h hlen;simp only at cP g;dsimp only[UV.val,SV.val];go_enter func34,ntmps34;exact Bn
 ):p:=h
end CJ
open CJ in
theorem sV(u:aw)(s:ai)(N:Nat)(w:World)(p:UV)(q:SV)(h:l2 u s N w p q) :
  Calls prog 34 #[.agg (p.val u),.agg (q.val s)] w λe ab=>∃A c,e=.returned (.slice A q.hn c)/\q.hn<=c/\cA (EF cd) 1 ab ab.heap.size A q.hn (c4 u s)/\Ext w ab:=by
 exact eY
def hR(w:World)(L:List Int)(e:Ending)(ab:World):Prop:=∃A c,e=.returned (.slice A L.length c)/\L.length<=c/\cA (EF cd) 1 ab ab.heap.size A L.length L/\Ext w ab
theorem hR.own{L:List Int}{v:Value}{B n:Nat}(hn:L.length=n)(h:ab.ownsRow B 3 1 v n (L.flatMap cd))(he:Ext w ab):hR w L (.returned v) ab:=by
 subst hn;obtain⟨cp,c1,rfl,cN,_,_,_⟩:=bH h;exact⟨cp,c1,rfl,cN,hy h (ho _) rfl,he⟩
theorem hR.nil(he:Ext w ab):hR w [] (.returned (.slice none 0 0)) ab:=hR.own (B:=0) rfl (World.ownsRow_nil _ _ _ _) he
def HD:Value->Nat
 | .slice _ n _=>n
 | _=>0
def p1(l:List Int)(k:Nat):List Int:=((List.range k).map Int.ofNat).filter λt=>decide (0<=eD l (l.length+1) t)
def dk(l:List Int)(t:Int):List Int:=match je l t with
 | none=>[]
 | some m=>(List.range (m+1)).map λk=>eD l k t
section
variable {l:List Int} {t:Int} {k:Nat}
theorem FL(h:0<=eD l (l.length+1) (k:Int)):p1 l (k+1)=p1 l k++[(k:Int)]:=by
 exact Ak
theorem FK(h:¬0<=eD l (l.length+1) (k:Int)):p1 l (k+1)=p1 l k:=by
 exact Ak
theorem wk(h:∀i,i<l.length->eD l (i+1) t≠t):je l t=none:=by
 unfold je;rw[List.find?_eq_none];intro i al;simpa using h i (List.mem_range.1 al)
theorem uc(h:∀i,i<m->eD l (i+1) t≠t)(hm:m<l.length)(he:eD l (m+1) t=t):je l t=some m:=by
 unfold je;rw[List.find?_range_eq_some];exact⟨by simpa using he,List.mem_range.2 hm,λj bi=>by simpa using h j bi⟩
theorem oi(h:∀i,i<l.length->eD l (i+1) t≠t):dk l t=[]:=by unfold dk;rw[wk h]
theorem tX(h:∀i,i<m->eD l (i+1) t≠t)(hm:m<l.length)(he:eD l (m+1) t=t):dk l t=(List.range (m+1)).map λk=>eD l k t:=by
 unfold dk;rw[uc h hm he]
theorem l9:(je l t).isSome=true↔dk l t≠[]:=by
 unfold dk;cases je l t<;>simp
theorem yQ(h:∀j:Nat,j<l.length->dk l (j:Int)=[]):yP l=[]:=by
 unfold yP;have:((List.range l.length).map Int.ofNat).find? (λt=>(je l t).isSome)=none:=by
  rw[List.find?_eq_none];intro x hx;obtain⟨j,bi,rfl⟩:=L5.1 hx;intro hc;exact l9.1 hc (h j (List.mem_range.1 bi))
 rw[this]
theorem wm(h:∀j:Nat,j<k->dk l (j:Int)=[])(aj:k<l.length)(hc:dk l (k:Int)≠[]):yP l=dk l (k:Int):=by
 have J:((List.range l.length).map Int.ofNat).find? (λt=>(je l t).isSome)=some (k:Int):=by
  rw[List.find?_map];have:(List.range l.length).find? ((λt=>(je l t).isSome) ∘ Int.ofNat)=some k:=by
   rw[List.find?_range_eq_some];refine⟨l9.2 hc,List.mem_range.2 aj,λj bi=>?_⟩;have ac:=h j bi;simp only[Function.comp,Bool.not_eq_true']
   cases hs:(je l (Int.ofNat j)).isSome with
   | false=>rfl
   | true=>exact absurd ac (l9.1 hs)
  rw[this];rfl
 unfold yP;rw[J];unfold dk at hc ⊢
 cases bv:je l (k:Int) with
 | none=>rw[bv] at hc;exact absurd rfl hc
 | some m=>simp only[bv,Option.getD_some]
theorem Ee:((List.range (k+1)).map λi=>eD l i t).flatMap cd=((List.range k).map λi=>eD l i t).flatMap cd++[.int .i64 (eD l k t)]:=by
 rw[List.range_succ,LJ,List.map_singleton,fF]
end
theorem v9(A:Mk)(n c:Nat)(l:List Int)(t:Int)(w:World)(h:cA (EF cd) 1 w w.heap.size A n l)(hl:dF l)(c4:0<=t)(bU:t<n)(hn:n<=32) :
  Calls prog 37 #[.slice A n c,.int .i64 t] w (hR w (dk l t)):=by
 have hlen:l.length=n:=by have:=h.1;omega
 have a9:=λk=>rY hl (t:=t) ad ad k;have cC:=bA hl a9 hlen h;clear hl a9 hlen h;go_enter func37,ntmps37;go_wp2_with(fail);go_loopw [5,6] (λv V wr=>∃k:Nat,V=.int .i64 (eD l k t)/\k<=n+1/\(∀i,i+1<k->eD l (i+1) t≠t)/\wr.ownsRow w.heap.size 3 1 v k (((List.range k).map λi=>eD l i t).flatMap cd)/\Below w.heap.size w wr) (λv _ _=>n+2 - HD v)
 case atStart=>exact⟨0,rfl,ad,λi al=>ad,World.ownsRow_nil _ _ _ _,Below.refl _ _⟩
 case round=>
  obtain⟨k,rfl,aj,P,az,O⟩:=hrel;have ci:=O.size;obtain⟨B,bc,rfl,cv,_,_,_⟩:=bH az;have J:=cC.2.1 k;rw[cC.2.2.1] at J;have bF:k=0->eD l k t=t:=λh=>by subst h;rfl
  have s:0<=eD l k t->eD l (k+1) t=rv l (eD l k t):=λh=>by rw[uv,FY h]
  have I:eD l k t<0->dk l t=[]:=λhx=>oi λi al=>by
   rcases Nat.lt_or_ge (i+1) k with ac|ac
   .exact P i ac
   .intro he;have:=dK (l:=l) (t:=t) (j:=k) (k:=i+1) ad ac;omega
  have u:¬k<=n->dk l t=[]:=λhx=>oi λi al=>P i (aB cC.2.2.1);have H:eD l k t=t->0<k->k<=n->dk l t=(List.range k).map λi=>eD l i t:=λhe h0 ac=>by
   obtain⟨m,rfl⟩:∃m,k=m+1:=⟨k - 1,ad⟩
   exact tX (λi al=>P i ad) (aB cC.2.2.1) he
  have cW:=Ee (l:=l) (t:=t) (k:=k);have r:eD l k t≠t->∀i,i+1<k+1->eD l (i+1) t≠t:=λhe i al=>by
   rcases Nat.lt_or_ge (i+1) k with ac|ac
   .exact P i ac
   .rw[show i+1=k by omega];exact he
  have cK:=hj bF s I u H cW r;clear P bF s I u H cW r;generalize cB:((List.range k).map λi=>eD l i t)=R at *;generalize hX:eD l k t=x at *;generalize bR:eD l (k+1) t=y at *;generalize bw:dk l t=L at *;have a2:=aA az O cB;have aR:=ah hX bR;clear az O cB hX bR bw;by_cases hx:0<=x
  case neg=>
   have q1:decide (x>=0)=false:=by simpa using hx
   have bT:=ae (cK.2.2.1 ad);exact Ah
  have q1:decide (x>=0)=true:=by simpa using hx
  have bi:x<(n:Int):=J.2;by_cases a7:k<=n
  case neg=>
   have bT:=ae (cK.2.2.2.1 a7);exact Ah
  by_cases ia:x=t/\0<k
  .have da:(x == t)=true:=by simpa using ia.1
   have db:0<k:=ia.2;have bT:=ae (cK.2.2.2.2.1 ia.1 ia.2 a7);clear ia cK J;go_wp2_with(fail);go_ret;rw[bT.o];exact hR.own (by rw[<-a2.2.2];simp) a2.1 (Fr.of a2.2.1)
  .have r:∀i,i+1<k+1->eD l (i+1) t≠t:=by
    rcases Nat.eq_zero_or_pos k with h0|h0
    .intro i al;omega
    .exact cK.2.2.2.2.2.2 λh=>ia ⟨h,h0⟩
   have cm:=cK.2.1 hx;have ca:=aA r cm cK.2.2.2.2.2.1;obtain⟨j,rfl⟩:=LH hx;have K:j<n:=ad;obtain⟨b,o,z,rfl,an,aG,c0⟩:=cC.2.2.2.int K;have Q:z=y:=by
    rw[cm];unfold rv;rw[if_neg ad,LZ,List.getD_eq_getElem?_getD,aG];rfl
   subst Q;have az:=a2.1;have bg:=a2.2.1;have cI:(0:Int)<=(j:Int):=ad;have T:b<wr.heap.size:=ad;have bW:=ah an c0;clear r cm aG hx J cK c0 an;by_cases N:(j:Int)=t
   case' pos=>
    have bm:k=0:=by
     refine Classical.byContradiction λh=>ia ⟨N,ad⟩
    subst bm;have da:((j:Int) == t)=true:=by simpa using N
   case' neg=>
    have da:((j:Int) == t)=false:=by simpa using N
   all_goals
    clear ia N;go_wp2_with(at_builtin;refine cy _ cU (by rfl) (.tmp 36) (.tmp 38) (by rfl) w.heap.size _ _ _ _ (by rfl) az (by rfl) (by rfl) (jO _ _) ad ad ci ?_;intro v1 aW S aI b5;have aD:=dX bg az aI (Lz _) ci;have c2:=((Fr.of (M:=λ_=>False) aD).cell (j:=o+j) bW.1 (λh=>h)).trans bW.2;have a5:=ah S aD;obtain⟨W,U,rfl,dJ,_,_,_⟩:=bH S;clear az bg S aD aI b5);go_roundw
    case rel=>exact⟨_,by rw[aR.2],ad,ca.1,by rw[ca.2.2];exact a5.1,a5.2⟩
    case measure=>simp[HD]<;>omega
namespace CK
theorem AK(h:p:=by
 go_wp2_with(fail);go_loopw [13] (λcw wr=>∃k:Nat,cw=.int .i64 k/\k<=hn/\Ext aP wr/\∀j:Nat,j<k->dk l (j:Int)=[]) (λcw _=>hn - (intOf cw).toNat)
 case atStart=>exact⟨0,rfl,ad,Mg,λj bi=>ad⟩
 case round=>
  obtain⟨k,rfl,aj,aF,P⟩:=hrel;have bj:=ah aF P;clear aF P;by_cases ap:k<hn
  .have aU:(k:Int)<(hn:Int):=ad;go_wp2_with(fail);refine(v9 A hn c l k wr (H1.1.cS (Fr.ext bj.1) bj.1.size) b2.2 ad aU g).mono ?_;rintro e aW ⟨B,bc,rfl,_,b0,aT⟩;have bM:=ah b0 (bj.1.trans aT);clear b0 aT;by_cases aG:0<(dk l (k:Int)).length
   .have hc:=wm (l:=l) (k:=k) bj.2 (by rw[b2.1];exact ap) (λh=>by rw[h] at aG;simp at aG);have bW:=ae hc;clear hc;go_wp2_with(fail);go_ret;rw[bW.o];exact⟨B,bc,rfl,by assumption,bM.1,H1.2.trans bM.2⟩
   .have h0:dk l (k:Int)=[]:=List.eq_nil_of_length_eq_zero ad;have bh:=ae h0;clear h0;go_wp2_with(fail);go_roundw
    case rel=>exact⟨k+1,by go_num,ad,bM.2,λj bi=>by
     rcases Nat.lt_or_ge j k with ac|ac
     .exact bj.2 j ac
     .rw[show j=k by omega];exact bh.o⟩
    case measure=>exact aE
  .have aU:¬(k:Int)<(hn:Int):=ad;have bW:=ae (yQ (l:=l) λj bi=>bj.2 j (aB b2.1));go_wp2_with(fail);go_ret;rw[bW.o];exact hR.nil (H1.2.trans bj.1)
 ):p:=h
theorem eZ(h:p:=by
 obtain⟨hlen,cP,g⟩:=h.len;have cC:=ah h hlen;clear h hlen;simp only at cP g;dsimp only[UV.val,SV.val];go_enter func14,ntmps14;go_upto_region 1 with(fail);generalize bd:World.alloc _ _=W;have aF:=hi bd;have bQ:=fx bd;have be:=eX bd;exact AJ
 ):p:=h
end CK
open CK in
theorem Ii(u:aw)(s:ai)(N:Nat)(w:World)(p:UV)(q:SV)(h:l2 u s N w p q) :
  Calls prog 14 #[.agg (p.val u),.agg (q.val s)] w (hR w (yP (c4 u s))):=by
 exact eY
end Go.Proofs.YtflecliffjbleaaGreat

/- Part 33 of the proof. No condition of its own. -/
import Derived.Test.YtkhnkojkplbioaaGreatQ32
namespace Go.Proofs.YtkhnkojkplbioaaGreat
open Go.RowKit Go.Proofs.Tryz
set_option maxRecDepth 1000000
set_option maxHeartbeats 25600000
set_option linter.unusedVariables false
variable{p:Prop}{w:World}
theorem xp{P:Program}{ops:Array Oper}{Q:Exit->Act->World->Prop}{R:World->World->Prop}{tails:List Nat}{α β γ δ ε ζ η:Type}{rest:PT}{aa:α->β->γ->δ->ε->ζ->η->Act}{C:α->β->γ->δ->ε->ζ->η->World->Prop}{G:Prop}
  (h:(∀a b c d e f g V,C a b c d e f g V->cR P ops Q R tails rest (aa a b c d e f g) V)->G) (key:∀a b c d e f g V,C a b c d e f g V->cR P ops Q R tails rest (aa a b c d e f g) V):G:=h key
theorem qw{P:Nat->Prop}(l:List bD):D.aQ w P (l.map eD) (l.flatMap gg):=m4 (λ_=>fh.2 rfl) l
theorem tt{A:L3}{n:Nat}{l:List bD}(h:Sl w (av w) A n (l.map eD)):Src w 3 A n (l.flatMap gg):=Src.lM (Sl.mT h) (Es _) (EJ _) ad
theorem HV:cj prog 28 100 (.agg #[.string ⟨#[]⟩,.int .i64 0,.int .i64 0,.int .i64 0,.slice none 0 0]) 5 64:=cj.mk' Tryz.underlying28 (by kernel_rfl) rfl ad
def xJ(w:World)(u:ay)(e:Ending)(ab:World):Prop:=∃(GA:L3) (gn gc:Nat) (MA:L3) (mn mc:Nat) (PA:L3) (pn pc:Nat),
 e=.returned (.tuple #[.agg #[.slice GA gn gc,.slice MA mn mc,.slice PA pn pc,.int .i64 u.main],.int .i64 0,.int .i64 0,.int .i64 0])/\(uw u).rep ab (fresh w ab) [.slice GA gn gc,.slice MA mn mc,.slice PA pn pc,.int .i64 u.main]/\Ext w ab
def HB(w:World)(x:cM)(e:Ending)(ab:World):Prop:=∃(A:L3) (n c:Nat) (bU:L3) (bW bE:Nat),
 e=.returned (.tuple #[.agg #[.string x.name,.int .i64 x.ints,.int .i64 x.au,.int .i64 x.locals,.slice A n c],.slice bU bW bE,.int .i64 0,.int .i64 0])/\(gi x).rep ab (fresh w ab) [.string x.name,.int .i64 x.ints,.int .i64 x.au,.int .i64 x.locals,.slice A n c]/\Ext w ab
def IS(p:bP):Prop:=∀(f:aK),f∈p.funcs->∀(GA:L3) (gn gc:Nat) (MA:L3) (mn mc:Nat) (FA:L3) (fn fc:Nat) (S:L3) (ln lc:Nat) (PA:L3) (pn pc:Nat) (fy:L3) (bn bc:Nat) (w:World),
  hy w (av w) p GA gn MA mn FA fn->Sl w (av w) S ln ((br p).map b2)->Sl w (av w) PA pn (f.params.map dv)->Sl w (av w) fy bn (c6 f.body)->
  Calls prog 93 #[.agg #[.slice GA gn gc,.slice MA mn mc,.slice FA fn fc],.slice S ln lc,.agg #[.string f.name,.slice PA pn pc,.slice fy bn bc]] w (HB w (ez p f))
namespace Cy
theorem dE(h:p:=by
 clear a7 am aF;generalize hX:World.setCell _ _ _=cF;have J:=cO hX;obtain⟨bH,az,cl,e1,aG⟩:=bY.o;have r1:Ext V cF:=Fr.low (M:=λb=>V.heap.size<=b) (((ck.1.trans e1).mono λ_ h=>h.elim).trans ((az.mono λb O=>by have:=j b O;omega).trans (J.mono λb O=>ad))) λ_ h=>h;have gM:aq cF u 30 #[.slice cE (k+1) c3,.slice A2 mn bS,.slice none 0 0,.int .i64 mi]:=hX▸aG.aM 0 _;have gO:=((ck.2.2.1.aj e1).dm az.size λb al hp=>az.block b al λhe=>by
  rcases hp with hp|hp
  .exact hp.elim
  .have:=j b he;have:=(cn.o b hp).2;omega).dm J.size λb al hp=>J.block b al λhe=>by
  rcases hp with hp|hp
  .exact hp.elim
  .exact(cn.o b hp).1 he
 have f0:Gr (λ_=>False) bg 3 1 cF cE (k+1) c3 (((p.globals.take (k+1)).map (·.2)).map D.i):=by
  rw[a1 aQ.o,Lr,Lr];exact bH.dm J.size λb al hp=>J.block b al λhe=>by
   rcases hp with hp|hp
   .exact hp.elim
   .have:=(bH.lt hp).1;omega
 have gT:bg<=cF.heap.size:=by have ac:=e1.size;have au:=az.size;have aY:=J.size;omega
 have a3:=cJ r1 gM gO f0 gT;clear r1 gM gO f0 gT bH az cl e1 aG J hX;go_wp2;go_roundw
 case rel=>exact⟨k+1,cE,c3,ad,by go_num,a3.o⟩
 case measure=>exact aH
 ):p:=h
theorem eU(h:p:=by
 refine b9 ?_;generalize hX:World.setCell _ _ _=X;obtain⟨dy,dB,bK,bf⟩:=bu.o;obtain⟨c2,bs,b5⟩:=bw (w:=V) [.slice none 0 0,.slice A2 mn bS,.slice none 0 0,.int .i64 mi] (by rfl) bK dy ad hX;have bI:=dB.dm b5.size λb al hp=>b5.block b al λhe=>by
  subst he;rcases hp with hp|hp
  .exact hp.elim
  .exact bf hp
 obtain⟨bg,bp⟩:∃N,N=X.heap.size:=⟨_,rfl⟩
 have aZ:∀b,(Value.slice A2 mn bS).ownBlock=some b->b≠u/\b<bg:=λb O=>⟨λe=>bf (by rw[<-e];exact O),by have:=(bI.lt O).2;omega⟩
 have cn:=ae aZ;have cw:=ae (show Ext V X/\aq X u 30 #[.slice none 0 0,.slice A2 mn bS,.slice none 0 0,.int .i64 mi]/\Gr (λ_=>False) cV 136 3 X A2 mn bS (p.af.map eD)/\Gr (λ_=>False) bg 3 1 X none 0 0 (((p.globals.take 0).map (·.2)).map D.i)/\bg<=X.heap.size from ⟨bs,c2,bI,Gr.nil _ _ _ _ _,ad⟩);have d3:u<bg:=by have:=c2.lt;omega
 clear bu hX c2 bs b5 bI dy dB bK bf aZ a7 am aF;have bR:=T.aj cw.1;obtain⟨a0,aj,af⟩:=bR.two;clear bR;go_wp2;clear a0 aj af;go_loopw [11] (λcy wr=>∃(k:Nat) (A:L3) (c:Nat),k<=gn/\cy=.int .i64 k/\Ext V wr/\aq wr u 30 #[.slice A k c,.slice A2 mn bS,.slice none 0 0,.int .i64 mi]/\Gr (λ_=>False) cV 136 3 wr A2 mn bS (p.af.map eD)/\Gr (λ_=>False) bg 3 1 wr A k c (((p.globals.take k).map (·.2)).map D.i)/\bg<=wr.heap.size) (λcy _=>gn - (intOf cy).toNat)
 case atStart=>exact⟨0,none,0,ad,rfl,cw.o⟩
 case round=>
  obtain⟨k,A,c,ap,rfl,aw,hU,ab,r,cp⟩:=hrel;clear cw;have ck:=cJ aw hU ab r cp;have cf:=T.aj aw;obtain⟨a0,aj,af⟩:=cf.two;obtain⟨a7,am,aF⟩:=hU.two;by_cases al:k<gn
  .obtain⟨b,o,g,cs,rfl,O,hx,ba,a8,Z⟩:=(ay.o _ (cc.trans aw)).g.g6 oZ al;obtain rfl:=mI.1 ba;have cr:=Z 1 _ rfl;have aT:b<wr.heap.size:=O;have aQ:=ae hx;clear aw hU ab r cf ba a8 Z O hx;go_wp2;refine eC (λ_=>False) [(0,3),(1,0),(2,3),(3,0),(4,3),(5,3),(6,3),(7,0),(8,1),(9,2),(10,3),(11,2)] ?_;refine pf ?_;refine ph ?_;refine pf ?_;refine ph ?_
   iterate 3 refine pf ?_
   refine ph ?_;refine rz ?_;generalize hV:World.drew (World.alloc _ _)=da;have e1:=gK hV;have cM:aq da wr.heap.size 3 #[.int .i64 g.2]:=hV▸(LX).drew;clear hV;refine ax rfl (λK hK=>?_);rw[if_pos (by rfl)];refine fa dh (.tmp 69) (.tmp 76) (by rfl) (ck.2.2.2.1.aj e1) cM (show (D.i g.2).rep da _ _ from by simp only[D.rep]) (by rfl) (by rfl) (by rfl) ad ad (aD e1.size) ?_;intro cE c3 cK bH az cl ca;have j:∀b,(Value.slice A k c).ownBlock=some b->bg<=b:=λb O=>(ck.2.2.2.1.lt O).1;have aG:=(ck.2.1.aj e1).on az λO=>by have:=j _ O;omega
   have bY:=cJ bH az cl e1 aG;clear bH az cl e1 cM a0 aj af a7 am aF cr aT;obtain⟨a7,am,aF⟩:=aG.two;clear aG;exact s0
  .obtain rfl:gn=k:=ad;rw[Ls (by rw[b8.1];exact Lk _)] at r;obtain⟨U,cA⟩:∃N,N=wr.heap.size:=⟨_,rfl⟩
   have dM:=hU.lt;have dY:u<U:=ad;have c7:∀b,(Value.slice A gn c).ownBlock=some b->b≠u/\b<U:=λb O=>⟨by have:=(r.lt O).1;omega,by have:=(r.lt O).2;omega⟩
   have c5:=ae c7;have dV:bg<=U:=ad;have dn:=ae (show Ext V wr/\aq wr u 30 #[.slice A gn c,.slice A2 mn bS,.slice none 0 0,.int .i64 mi]/\Gr (λ_=>False) cV 136 3 wr A2 mn bS (p.af.map eD)/\Gr (λ_=>False) bg 3 1 wr A gn c ((p.globals.map (·.2)).map D.i)/\Gr (λb=>U<=b) U 100 5 wr none 0 0 (((p.funcs.take 0).map (ez p)).map gi)/\U<=wr.heap.size from ⟨aw,hU,ab,r,Gr.nil _ _ _ _ _,ad⟩);clear ck aw hU ab r cf c7 dM a7 am aF ap al;generalize A=bZ at *;generalize c=c1 at *;go_wp2;clear a0 aj af;go_loopw [12] (λcy wr=>∃(k:Nat) (A:L3) (c:Nat),k<=fn/\cy=.int .i64 k/\Ext V wr/\aq wr u 30 #[.slice bZ gn c1,.slice A2 mn bS,.slice A k c,.int .i64 mi]/\Gr (λ_=>False) cV 136 3 wr A2 mn bS (p.af.map eD)/\Gr (λ_=>False) bg 3 1 wr bZ gn c1 ((p.globals.map (·.2)).map D.i)/\Gr (λb=>U<=b) U 100 5 wr A k c (((p.funcs.take k).map (ez p)).map gi)/\U<=wr.heap.size) (λcy _=>fn - (intOf cy).toNat)
   case atStart=>exact⟨0,none,0,ad,rfl,dn.o⟩
   case round=>
    obtain⟨k,A,c,ap,rfl,aw,hU,ab,r,bi,cp⟩:=hrel;clear dn;have ck:=cH aw hU ab r bi cp;have cf:=T.aj aw;obtain⟨a0,aj,af⟩:=cf.two;by_cases al:k<fn
    .obtain⟨b,o,f,cs,m,O,hx,ba,a8,Z⟩:=(ay.o _ (cc.trans aw)).f.g6 nD al;injection m with m;injection m with hFA1 hFA2;subst hFA1 hFA2;obtain⟨QA,co,qc,H,bj,I,rfl,dL,dW,dR,ak⟩:=k3.1 ba;have c0:=Z 0 _ rfl;have cr:=Z 1 _ rfl;have cm:=Z 2 _ rfl;simp only[Lu] at c0;have aT:cj<wr.heap.size:=O;have aQ:=aE hx dR ak;have dK:=ay.o _ (cc.trans aw);have dH:=du.on (Fr.ext aw);have s:=ag dK dH;clear aw hU ab r bi cf ba a8 Z O hx dR ak dK dH;go_upto_region 17 with(fail);refine rC (λ_=>False) [7,14] (.held 0 (.free 1 (.free 2 (.held 3 (.free 4 (.free 5 (.held 6 (.pick [7,13] (λi=>bif i == 7 then .free 8 (.free 9 (.free 10 (.free 11 (.free 12 (.pick [13] (λ_=>.pick [14] (λ_=>.free 15 (.free 16 (.free 17 (.stop)))))))))) else .pick [7] (λ_=>.free 8 (.free 9 (.free 10 (.free 11 (.free 12 (.pick [14] (λ_=>.free 15 (.free 16 (.free 17 (.stop))))))))))))))))))) ?_;refine th ?_
     iterate 2 refine tf ?_
     refine th ?_
     iterate 2 refine tf ?_
     refine th ?_;clear a0 aj af c0 cr cm;refine xp (P:=?Kh) (ops:=?Kq) (Q:=?Kr) (R:=?Ks) (tails:=?Kt) (rest:=.pick [14] (λ_=>.free 15 (.free 16 (.free 17 (.stop))))) (aa:=?Ki)
      (C:=λ(c9:Nat) (ce:L3) (a6 rc:Nat) (bU:L3) (bW bE:Nat) bD=>Ext wr bD/\aq bD c9 100 #[.string ⟨#[]⟩,.int .i64 0,.int .i64 0,.int .i64 0,.slice none 0 0]/\wr.heap.size<=c9/\(gi (ez p f)).rep bD (λb=>wr.heap.size<=b/\b<bD.heap.size/\b≠c9) [.string (ez p f).name,.int .i64 (ez p f).ints,.int .i64 (ez p f).au,.int .i64 (ez p f).locals,.slice ce a6 rc]) (λkey=>?Jf) ?Ja
     case Jf=>
      refine a2 ?_ ?_
      ·
       refine bQ rfl (λK hK=>?_) rfl;go_simp;refine(di.o f (Ln aQ.1) GA gn gc MA mn mc (some ⟨cj,cY,none⟩) fn fc S (br p).length lc QA co qc H bj I wr.drew ⟨s.1.g.on (Fr.ext LW.drew),s.1.m.on (Fr.ext LW.drew),s.1.f.on (Fr.ext LW.drew)⟩ (s.2.on (Fr.ext LW.drew)) (aQ.2.1.on (Fr.ext LW.drew)) (aQ.2.2.on (Fr.ext LW.drew))).mono ?_;rintro e aS ⟨ce,a6,rc,bU,bW,bE,rfl,b1,ar⟩;refine dP hK ?_;clear hK K
       iterate 5 refine tf ?_
       refine ao ?_;refine dT ?_;have F:Ext wr (aS.alloc (.cells #[.string ⟨#[]⟩,.int .i64 0,.int .i64 0,.int .i64 0,.slice none 0 0] 100))/\aq (aS.alloc (.cells #[.string ⟨#[]⟩,.int .i64 0,.int .i64 0,.int .i64 0,.slice none 0 0] 100)) aS.heap.size 100 #[.string ⟨#[]⟩,.int .i64 0,.int .i64 0,.int .i64 0,.slice none 0 0]/\wr.heap.size<=aS.heap.size/\(gi (ez p f)).rep (aS.alloc (.cells #[.string ⟨#[]⟩,.int .i64 0,.int .i64 0,.int .i64 0,.slice none 0 0] 100)) (λb=>wr.heap.size<=b/\b<(aS.alloc (.cells #[.string ⟨#[]⟩,.int .i64 0,.int .i64 0,.int .i64 0,.slice none 0 0] 100)).heap.size/\b≠aS.heap.size) [.string (ez p f).name,.int .i64 (ez p f).ints,.int .i64 (ez p f).au,.int .i64 (ez p f).locals,.slice ce a6 rc]:=
        ⟨(Fr.aF ar).alloc _,LX,(Fr.aF ar).size,D.aL (λb O=>⟨O.1,by have:=O.2;simp;omega,by have:=O.2;omega⟩) _ _ (D.aS (λb O=>Below.heap_alloc aS _ b O.2) _ _ b1)⟩
       clear b1 ar;revert F;generalize aS.heap.size=c9;intro F;exact key c9 ce a6 rc bU bW bE _ F
      ·
       refine dT ?_;generalize hV:World.alloc _ _=bt;have cu:=aW hV;have cf:=aI hV;clear hV;refine ao ?_;refine bQ rfl (λK hK=>?_) rfl;go_simp;refine(di.o f (Ln aQ.1) GA gn gc MA mn mc (some ⟨cj,cY,none⟩) fn fc S (br p).length lc QA co qc H bj I bt.drew ⟨s.1.g.on (Fr.ext cu.drew),s.1.m.on (Fr.ext cu.drew),s.1.f.on (Fr.ext cu.drew)⟩ (s.2.on (Fr.ext cu.drew)) (aQ.2.1.on (Fr.ext cu.drew)) (aQ.2.2.on (Fr.ext cu.drew))).mono ?_;rintro e aS ⟨ce,a6,rc,bU,bW,bE,rfl,b1,ar⟩;refine dP hK ?_;clear hK K
       iterate 5 refine tf ?_
       have cI:=cf.lt;have F:Ext wr aS/\aq aS wr.heap.size 100 #[.string ⟨#[]⟩,.int .i64 0,.int .i64 0,.int .i64 0,.slice none 0 0]/\wr.heap.size<=wr.heap.size/\(gi (ez p f)).rep aS (λb=>wr.heap.size<=b/\b<aS.heap.size/\b≠wr.heap.size) [.string (ez p f).name,.int .i64 (ez p f).ints,.int .i64 (ez p f).au,.int .i64 (ez p f).locals,.slice ce a6 rc]:=
        ⟨cu.trans (Fr.aF ar),cf.aj (Fr.aF ar),Lk _,D.aL (λb O=>⟨by have ac:bt.heap.size<=b:=O.1;omega,O.2,by have ac:bt.heap.size<=b:=O.1;omega⟩) _ _ b1⟩
       clear b1 ar cu cf cI;exact key wr.heap.size ce a6 rc bU bW bE _ F
     case Ja=>
      rintro c9 ce a6 rc bU bW bE bD ⟨dw,bb,dx,b1⟩;obtain⟨d0,aL,aM⟩:=bb.two;have ah:=aE dw bb b1;clear dw bb b1;refine ao ?_;refine bQ rfl (λK hK=>?_) rfl;go_simp;refine dP hK ?_;clear hK K
      iterate 3 refine tf ?_
      refine b9 ?_;generalize hX:World.setCell _ _ _=g9;obtain⟨dw,bb,b1⟩:=ah.o;obtain⟨cf,b0,aK⟩:=bw (w:=wr) [.string (ez p f).name,.int .i64 (ez p f).ints,.int .i64 (ez p f).au,.int .i64 (ez p f).locals,.slice ce a6 rc] (by rfl) bb dw dx hX;have cR:=ck.2.1.aj b0;have bV:=ck.2.2.2.2.1.aj b0;have cQ:∀b,(Value.slice A k c).ownBlock=some b->b<wr.heap.size:=λb O=>(ck.2.2.2.2.1.lt O).2;have d1:=aK.size;have d6:=b0.size;have hd:(gi (ez p f)).rep g9 (lL (λb=>U<=b) g9 (.slice A k c)) [.string (ez p f).name,.int .i64 (ez p f).ints,.int .i64 (ez p f).au,.int .i64 (ez p f).locals,.slice ce a6 rc]:=
       D.aL (λb O=>⟨by have:=O.1;omega,by have:=O.2.1;omega,λhc=>by have:=cQ b hc;have:=O.1;omega⟩) _ _ (D.aS (λb O=>aK.block b O.2.1 O.2.2) _ _ b1)
      have z:=aE b0 bV hd;clear hX dw bb b1 aK bV hd d0 aL aM ah cQ b0;obtain⟨d0,aL,aM⟩:=cf.two;obtain⟨a7,am,aF⟩:=cR.two;have dS:=ae cR;clear cf cR;go_wp2_with((at_builtin;refine bT HV rfl (.tmp 106) (.tmp 108) rfl z.2.1 z.2.2 rfl rfl rfl ad ad ad ?_;intro cE c3 cS bH az cl ca;have cT:=dS.on az (λO=>by have:=(z.2.1.lt O).1;omega);clear a7 am aF d0 aL aM;obtain⟨a7,am,aF⟩:=cT.two;have dU:=ae cT;clear cT));generalize hX:World.setCell _ _ _=dA;have cU:=cO hX;have b0:=z.1;have j:∀b,(Value.slice A k c).ownBlock=some b->U<=b:=λb O=>(z.2.1.lt O).1;have dO:(((p.funcs.take (k+1)).map (ez p)).map gi)=((p.funcs.take k).map (ez p)).map gi++[gi (ez p f)]:=by rw[a1 aQ.1,Lr,Lr];rfl
      have q1:Ext V dA:=Fr.low (M:=λb=>V.heap.size<=b) (((ck.1.trans b0).mono λ_ h=>h.elim).trans ((az.mono λb O=>by have:=j b O;omega).trans (cU.mono λb O=>ad))) λ_ h=>h;have cN:aq dA u 30 #[.slice bZ gn c1,.slice A2 mn bS,.slice cE (k+1) c3,.int .i64 mi]:=hX▸dU.aM 2 _;have df:=((ck.2.2.1.aj b0).dm az.size λb al hp=>az.block b al λhe=>by
       rcases hp with hp|hp
       .exact hp.elim
       .have:=j b he;have:=(cn.o b hp).2;omega).dm cU.size λb al hp=>cU.block b al λhe=>by
       rcases hp with hp|hp
       .exact hp.elim
       .exact(cn.o b hp).1 he
      have dd:=((ck.2.2.2.1.aj b0).dm az.size λb al hp=>az.block b al λhe=>by
       rcases hp with hp|hp
       .exact hp.elim
       .have:=j b he;have:=(c5.o b hp).2;omega).dm cU.size λb al hp=>cU.block b al λhe=>by
       rcases hp with hp|hp
       .exact hp.elim
       .exact(c5.o b hp).1 he
      have q5:Gr (λb=>U<=b) U 100 5 dA cE (k+1) c3 (((p.funcs.take (k+1)).map (ez p)).map gi):=by
       rw[dO];exact bH.dm cU.size λb al hp=>cU.block b al λhe=>by
        rcases hp with hp|hp
        .omega
        .have:=(bH.lt hp).1;omega
      have dk:U<=dA.heap.size:=by have ac:=b0.size;have au:=az.size;have aY:=cU.size;omega
      have a3:=cH q1 cN df dd q5 dk;clear q1 cN df dd q5 dk bH az cl b0 cU hX j dO a7 am aF;go_wp2;go_roundw
      case rel=>exact⟨k+1,cE,c3,ad,by go_num,a3.o⟩
      case measure=>exact aH
    .obtain rfl:fn=k:=ad;rw[Ls (by rw[b8.2.2];exact Lk _)] at bi;have bk:=bA.aj aw;have d5:w.heap.size+1<V.heap.size:=bA.lt;have cD:=ae hU;obtain⟨a7,am,aF⟩:=hU.two;obtain⟨d0,aL,aM⟩:=bk.two;obtain⟨dg,dl⟩:=aJ bk bi;clear aw hU ab r bi cf bk;go_wp2;generalize hX:World.setCell _ _ _=gP;obtain⟨gr,ct,b7⟩:=bw (w:=w) [.slice bZ gn c1,.slice A2 mn bS,.slice A fn c,.int .i64 mi] (by rfl) dg.o (cc.trans ck.1) (Nat.le_succ _) hX;obtain⟨bl,aA,aO⟩:=gr.two;clear a7 am aF d0 aL aM a0 aj af;refine LU (v:=.tuple #[.agg #[.slice bZ gn c1,.slice A2 mn bS,.slice A fn c,.int .i64 mi],.int .i64 0,.int .i64 0,.int .i64 0]) (by simp[results,Tryz.results45,go_sem,bl]) rfl ?_;have bm:(gq p).main=(mi:Int):=by
      show jn (br p) iJ=_
      unfold jn;rw[show iJ=⟨#[109,97,105,110]⟩ from rfl,dm.o]
     have eE:=cc.size;have d7:=b7.size;have bv:∀b,V.heap.size<=b->b<wr.heap.size->gP.heap[b]?=wr.heap[b]?:=λb ac au=>b7.block b au ad;have de:=ck.2.2.1.dm b7.size λb al hp=>by
      rcases hp with hp|hp
      .exact hp.elim
      .exact bv b (by have:=(ck.2.2.1.lt hp).1;omega) al
     have cC:=ck.2.2.2.1.dm b7.size λb al hp=>by
      rcases hp with hp|hp
      .exact hp.elim
      .exact bv b (by have:=(ck.2.2.2.1.lt hp).1;omega) al
     have bz:=dl.dm b7.size λb al hp=>by
      rcases hp with hp|hp
      .exact bv b ad al
      .exact bv b (by have:=(dl.lt hp).1;omega) al
     refine⟨bZ,gn,c1,A2,mn,bS,A,fn,c,by rw[bm],?_,ct⟩;unfold uw;rw[bm,bM];exact aN.2 ⟨bZ,gn,c1,_,rfl,cC.cap.1,cC.sl (λb _ h=>h.elim) (λb ac au=>⟨ad,ac⟩),aN.2 ⟨A2,mn,bS,_,rfl,de.cap.1,de.sl (λb _ h=>h.elim) (λb ac au=>⟨ad,ac⟩),
      aN.2 ⟨A,fn,c,_,rfl,bz.cap.1,bz.sl (λb ac au=>⟨ad,ac⟩) (λb ac au=>⟨ad,ac⟩),bq.2 ⟨_,rfl,aP.2 rfl⟩⟩⟩⟩
 ):p:=h
theorem sZ(h:p:=by
 have cB:(br p).length<=100:=by rw[k1];omega
 obtain⟨mi,bF,a9,b3,ai⟩:=hp.main;have cZ:dD (br p) ⟨#[109,97,105,110]⟩=some ⟨⟨#[109,97,105,110]⟩,3,(mi:Int)⟩:=by
  have:=la (oa hp) (Ln (x4 a9));rw[b3] at this;exact this
 have aV:mi<fn:=by have:=(List.getElem?_eq_some_iff.1 a9).1;omega
 obtain⟨cz,cq,di,dm⟩:=iX h hp dG cZ;have dv:=ag a9 ai;have b8:=aE ds lm lf;have dX:=ae cB;clear h hp dG cZ a9 b3 ai ds lm lf cB;go_enter func45,ntmps45;go_upto_region 1 with(fail);generalize be:World.alloc _ _=W;have aw:=iS be;have aR:=gG be;have dF:=gf be;obtain⟨bo,bO,dr⟩:=ek aw aR dF;obtain⟨a0,aj,af⟩:=aR.two;have dQ:∀(aS:World),Ext w aS->hy aS (av aS) p GA gn MA mn FA fn:=λ_ he=>⟨cz.g.on (Fr.ext he),cz.m.on (Fr.ext he),cz.f.on (Fr.ext he)⟩
 have ay:=ae dQ;clear be aw aR dF dQ;go_wp2_with(fail);refine(Gx p cq.o GA gn gc MA mn mc FA fn fc W (ay.o _ bo.o)).mono ?_;rintro e aS ⟨rfl,ar⟩;have bx:=ae (bo.trans ar);have cG:=bO.aj ar;have G:=ae cG;have c6:=ae (dr.aj ar);clear a0 aj af ar;obtain⟨a0,aj,af⟩:=cG.two;clear cG;go_wp2_with(fail);refine(s9 p cq.o GA gn gc MA mn mc FA fn fc aS (ay.o _ bx.o)).mono ?_;rintro e aU ⟨S,lc,rfl,y,bL⟩;have aX:=ae (bx.trans bL);have bC:=G.aj bL;have bB:=ae bC;have c8:=ae (c6.aj bL);have ci:Sl aU (av aU) S (br p).length ((br p).map b2):=y.mono λb O=>O.2;have ch:=ae ci;clear a0 aj af bL y ci;obtain⟨a0,aj,af⟩:=bC.two;clear bC;go_wp2_with(fail);refine(dZ S (br p).length lc (br p) ⟨#[109,97,105,110]⟩ aU ch.o (aD dX.o)).mono ?_;rintro e b6 ⟨rfl,bX⟩;rw[dm.o];simp only[iZ,rv];have bd:=ae (aX.trans bX);have a4:=ae (bB.aj bX);have dc:=ae (c8.aj bX);have dt:=ae (ch.on (Fr.ext bX));clear a0 aj af bX;go_upto_region 7 with(fail);generalize hV:World.alloc _ _=V;have L:=aW hV;have dp:=aI hV;have cc:=ae (bd.trans L);have b4:=a4.aj L;have T:=ae b4;have bA:=ae (dc.aj L);have du:=ae (dt.on (Fr.ext L));have d2:=ae dp;obtain⟨cj,cY,a5,cs,rfl,cx,an,cd,cW,bh⟩:=(ay.o _ cc.o).f.g6 nD aV;rw[dv.1] at an;injection an with an;subst an;obtain⟨PA,pn,pc,fy,bn,bc,rfl,db,cv,cg,_⟩:=k3.1 cd;have f4:=bh 1 _ rfl;have bN:cj<V.heap.size:=cx;obtain rfl:0=pn:=by have:=cg.1;rw[dv.2] at this;exact this
 clear hV L cd cW bh cg cx;obtain⟨a0,aj,af⟩:=b4.two;obtain⟨a7,am,aF⟩:=dp.two;clear b4 dp;go_upto_region 9 with(fail);have cX:=ae (ay.o _ cc.o).m;obtain⟨cV,dz⟩:∃N,N=V.heap.size:=⟨_,rfl⟩
 have gD:¬cV<=w.heap.size:=ad;have gE:¬cV<=b6.heap.size:=ad;clear f4 bN;refine rC (λb=>cV<=b) [8] (.free 0 (.held 1 (.free 3 (.held 4 (.pick [2,7] (λi=>bif i == 2 then .pick [5,7] (λi=>bif i == 5 then .free 6 (.pick [7] (λ_=>.pick [8] (λ_=>.stop))) else .pick [5] (λ_=>.free 6 (.pick [8] (λ_=>.stop)))) else .pick [2] (λ_=>.pick [5] (λ_=>.free 6 (.pick [8] (λ_=>.stop)))))))))) ?_;refine tf ?_;refine nh ?_;refine tf ?_;refine nh ?_;clear a0 aj af a7 am aF;refine iQ (P:=?oU) (ops:=?Ie) (Q:=?Ih) (R:=?Ij) (tails:=?Iu) (rest:=.pick [8] (λ_=>.stop)) (aa:=?HP)
  (C:=λ(_:Nat) u A2 bS bD=>Ext V bD/\Gr (λ_=>False) cV 136 3 bD A2 mn bS (p.af.map eD)/\aq bD u 30 #[.slice none 0 0,.slice none 0 0,.slice none 0 0,.int .i64 0]/\(Value.slice A2 mn bS).ownBlock≠some u/\cV<=u) (λkey=>?wP) ?wI
 case wP=>
  refine a2 ?_ ?_
  ·
   refine dT ?_;generalize hV:World.drew (World.alloc _ _)=bt;have e1:=gK hV;have cL:Gr (λ_=>False) cV 136 3 bt (some ⟨V.heap.size,0,none⟩) 0 0 []:=by rw[<-hV,dz];exact(Gr.lit (w:=V) (n:=0) (l:=[]) rfl (by rfl) ad (by simp only[D.aQ])).aj LW.drew
   clear hV;refine a2 ?_ ?_
   ·
    refine aB rfl (λK hK=>?_) rfl;rw[if_pos (by rfl)];refine js l0 (.tmp 56) (.tmp 58) (by rfl) cL (qw p.af) cX.1 (tt (cX.on (Fr.ext e1))) (λh=>by subst h;exact Sl.none_ cX.o) (by rfl) (by rfl) ad ad (by rw[dz];exact e1.size) ?_;intro A2 bS cS cb f1 o1 c1;refine dq hK (f1.mono λb O=>ad) ?_;clear hK K;refine tf ?_;refine ao ?_;refine dT ?_;have e2:Ext V cS:=Fr.low (M:=λb=>V.heap.size<=b) ((e1.mono λ_ h=>h.elim).trans (f1.mono λb O=>ad)) λ_ h=>h;have F:Ext V (cS.alloc (.cells #[.slice none 0 0,.slice none 0 0,.slice none 0 0,.int .i64 0] 30))/\Gr (λ_=>False) cV 136 3 (cS.alloc (.cells #[.slice none 0 0,.slice none 0 0,.slice none 0 0,.int .i64 0] 30)) A2 mn bS (p.af.map eD)/\aq (cS.alloc (.cells #[.slice none 0 0,.slice none 0 0,.slice none 0 0,.int .i64 0] 30)) cS.heap.size 30 #[.slice none 0 0,.slice none 0 0,.slice none 0 0,.int .i64 0]/\(Value.slice A2 mn bS).ownBlock≠some cS.heap.size/\cV<=cS.heap.size:=
     ⟨e2.alloc _,cb.aj (LW.alloc _),LX,λO=>by have:=(cb.lt O).2;omega,by have:=e2.size;omega⟩
    clear cb cL f1 o1 e1 e2;revert F;generalize cS.heap.size=u;generalize V.heap.size=eQ;intro F;exact key eQ u A2 bS _ F
   ·
    refine dT ?_;generalize hV:World.alloc _ _=eN;have e2:=aW hV;have bG:aq eN bt.heap.size 30 #[.slice none 0 0,.slice none 0 0,.slice none 0 0,.int .i64 0]:=hV▸LX;have dI:V.heap.size<bt.heap.size:=(cL.lt (g:=V.heap.size) rfl).2;clear hV;refine ao ?_;refine aB rfl (λK hK=>?_) rfl;rw[if_pos (by rfl)];refine js l0 (.tmp 56) (.tmp 58) (by rfl) (cL.aj e2) (qw p.af) cX.1 (tt (cX.on (Fr.ext (e1.trans e2)))) (λh=>by subst h;exact Sl.none_ cX.o) (by rfl) (by rfl) ad ad (by rw[dz];exact(e1.trans e2).size) ?_;intro A2 bS cS cb f1 o1 c1;refine dq hK (f1.mono λb O=>ad) ?_;clear hK K;refine tf ?_;have e3:Ext V cS:=Fr.low (M:=λb=>V.heap.size<=b) (((e1.trans e2).mono λ_ h=>h.elim).trans (f1.mono λb O=>ad)) λ_ h=>h;have dN:=bG.lt;have F:Ext V cS/\Gr (λ_=>False) cV 136 3 cS A2 mn bS (p.af.map eD)/\aq cS bt.heap.size 30 #[.slice none 0 0,.slice none 0 0,.slice none 0 0,.int .i64 0]/\(Value.slice A2 mn bS).ownBlock≠some bt.heap.size/\cV<=bt.heap.size:=⟨e3,cb,bG.on f1 ad,λO=>by
     rcases o1 _ O with h|h
     .omega
     .omega,ad⟩
    clear cb cL f1 o1 e1 e2 e3 bG dI dN;revert F;generalize bt.heap.size=u;generalize V.heap.size=eQ;intro F;exact key eQ u A2 bS _ F
  ·
   refine dT ?_;generalize hV:World.drew (World.alloc _ _)=bt;have e1:=gK hV;have bG:aq bt V.heap.size 30 #[.slice none 0 0,.slice none 0 0,.slice none 0 0,.int .i64 0]:=hV▸(LX).drew;clear hV;refine ao ?_;refine dT ?_;generalize hV:World.alloc _ _=eN;have e2:=aW hV;have cL:Gr (λ_=>False) bt.heap.size 136 3 eN (some ⟨bt.heap.size,0,none⟩) 0 0 []:=hV▸Gr.lit (w:=bt) (n:=0) (l:=[]) rfl (by rfl) ad (by simp only[D.aQ]);have dj:=bG.aj e2;have dI:V.heap.size<bt.heap.size:=bG.lt;have dC:bt.heap.size<=eN.heap.size:=e2.size;clear hV bG;refine ao ?_;refine aB rfl (λK hK=>?_) rfl;rw[if_pos (by rfl)];refine js l0 (.tmp 56) (.tmp 58) (by rfl) cL (qw p.af) cX.1 (tt (cX.on (Fr.ext (e1.trans e2)))) (λh=>by subst h;exact Sl.none_ cX.o) (by rfl) (by rfl) ad ad dC ?_;intro A2 bS cS cb f1 o1 c1;refine dq hK (f1.mono λb O=>ad) ?_;clear hK K;refine tf ?_;have e3:Ext V cS:=Fr.low (M:=λb=>V.heap.size<=b) (((e1.trans e2).mono λ_ h=>h.elim).trans (f1.mono λb O=>ad)) λ_ h=>h;have F:Ext V cS/\Gr (λ_=>False) cV 136 3 cS A2 mn bS (p.af.map eD)/\aq cS V.heap.size 30 #[.slice none 0 0,.slice none 0 0,.slice none 0 0,.int .i64 0]/\(Value.slice A2 mn bS).ownBlock≠some V.heap.size/\cV<=V.heap.size:=⟨e3,cb.base ad,dj.on f1 ad,λO=>by have:=(cb.lt O).1;omega,ad⟩
   clear cb cL f1 o1 e1 e2 e3 dj dI dC;revert F;generalize bt.heap.size=eQ;generalize V.heap.size=u;intro F;exact key eQ u A2 bS _ F
 case wI=>
  rintro eQ u A2 bS Y ⟨dy,dB,bK,bf,d4⟩;obtain⟨a7,am,aF⟩:=bK.two;have bu:=bJ dy dB bK bf;clear dy dB bK bf;exact fp
 ):p:=h
end Cy
open Cy in
theorem y5(p:bP)(hp:oR p)(dG:IS p)(GA:L3)(gn gc:Nat)(MA:L3)(mn mc:Nat)(FA:L3)(fn fc:Nat)(w:World)(h:hy w (av w) p GA gn MA mn FA fn) :
  Calls prog 45 #[.agg #[.slice GA gn gc,.slice MA mn mc,.slice FA fn fc]] w (xJ w (gq p)):=by
 have ds:p.globals.length=gn:=by rw[<-h.g.1,Lo]
 have lm:p.af.length=mn:=by rw[<-h.m.1,Lo]
 have lf:p.funcs.length=fn:=by rw[<-h.f.1,Lo]
 exact sY
theorem JQ(p:bP)(hp:oR p):IS p:=λf J GA gn gc MA mn mc FA fn fc S ln lc PA pn pc fy bn bc w h hl cg bl=>
 (tj (λU nk F b=>yI Gg U nk F b) p hp f J GA gn gc MA mn mc FA fn fc S ln lc PA pn pc fy bn bc w h hl cg bl).mono λ_ _ h=>h
theorem Ey(p:bP)(hp:oR p)(GA:L3)(gn gc:Nat)(MA:L3)(mn mc:Nat)(FA:L3)(fn fc:Nat)(w:World)(h:hy w (av w) p GA gn MA mn FA fn) :
  Calls prog 45 #[.agg #[.slice GA gn gc,.slice MA mn mc,.slice FA fn fc]] w (xJ w (gq p)):=y5 p hp (JQ p hp) GA gn gc MA mn mc FA fn fc w h
end Go.Proofs.YtkhnkojkplbioaaGreat

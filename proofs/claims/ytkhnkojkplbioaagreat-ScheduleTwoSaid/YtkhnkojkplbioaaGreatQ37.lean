/- Part 37 of the proof. No condition of its own. -/
import Derived.Test.YtkhnkojkplbioaaGreatQ36
namespace Go.Proofs.YtkhnkojkplbioaaGreat
open Go.RowKit Go.Proofs.Tryz
set_option maxRecDepth 1000000
set_option maxHeartbeats 25600000
set_option linter.unusedVariables false
variable{p:Prop}
namespace Ci
theorem sT(h:p:=by
 refine aC ?_;generalize hX:World.setCell _ _ _=X;have J:Fr (λb=>b=S.heap.size) aU X:=hX▸((((((Fr.refl (λb=>b=S.heap.size) aU).setCell (.inl rfl) _).setCell (.inl rfl) _).setCell (.inl rfl) _).setCell (.inl rfl) _).setCell (.inl rfl) _).setCell (.inl rfl) _;have bw:aq X S.heap.size 207 #[.int .i64 2,.string nm,.int .i64 x.bg,.int .i64 x.numOf,.string x.bA,.slice cw cc cC,.string ⟨#[]⟩,.slice none 0 0,.slice none 0 0,.slice none 0 0,.slice none 0 0]:=hX▸(((((a3.2.1.aM 0 _).aM 1 _).aM 2 _).aM 3 _).aM 4 _).aM 5 _;clear hX d0 aL aM;go_wp2_with(fail);obtain⟨an,_,hx,aN,bo,bN⟩:=a3.o;have b6:=J.size;have a6:=bV.2.2.lt
 try refine hN _ _ ?_
 unfold lT;apply Exists.intro
 refine⟨bi,aX,bM,on,b4,?_⟩
 iterate 240 apply Exists.intro
 refine⟨?_,rfl⟩;exact g5.simple (st:=.set false nm x) ⟨s,wb,sA,bW,bE,sl,GA,gn,gc,MA,mn,mc,FA,fn,fc,M,F,ar⟩ bL B eQ bX d ps V T ls N L aw bm QA co qc bS a4.1 dR dL a4.2.2.2.1 ce.1 b3 c2 aR (an.fresh a4.1 J λb O=>ad) bw (eG (a5.2 ⟨cw,cc,cC,rfl,aN,(bo.al λb O=>J.block b O.2 (aD O.1)).mono λb O=>⟨by have:=O.1;omega,by have:=O.2;omega⟩⟩) kP (Sl.bR _) (Lk _) (Sl.bR _) (Lk _) (Sl.bR _) (Lk _)) ⟨ce.1 cR.o,dN ce.1 2 x hx⟩ (λn hn=>by simp[aA.all] at hn) (by simp only[aA.num];omega) (Lk _) bu.2.2 a4.2.1
 ):p:=h
theorem lV(h:p:=by
 have o:(0:Int)<(bi:Int):=ad;have gP:¬(wb=s\/wb=S.heap.size):=ad;go_upto_region 22 with(fail);refine eC (λb=>b=s\/b=S.heap.size) [(0,3),(1,3),(2,3),(3,3),(4,0),(5,3),(6,3),(10,3),(11,3),(13,3),(7,1),(8,3),(9,0),(12,1),(14,1),(15,3),(16,2),(17,3),(18,2)] ?_
 iterate 4 refine pf ?_
 refine oQ ?_
 iterate 5 refine pf ?_
 refine aG rfl (λK hK=>?_);go_simp;refine(a9 wr.drew s sA bW bE sl bi (bV.1.aj bf LW.drew).src ad ad).mono ?_;rintro e aS ⟨cv,rfl,aZ,b1,h,he⟩;obtain⟨j,rfl⟩:=Lp aZ;have ai:Fr (λb=>b=s) wr aS:=Fr.aF he.fr;have u:=bV.1.next bf h ai;obtain⟨i,t,nm,cs,g,O,hm,ba,a8,hc⟩:=Sl.g6 (z:=1) a4.2.2.2.2.1 (λ_=>rfl) (k:=j) ad;subst g;obtain rfl:=vf.1 ba;have c0:=(u.fr.cell O.1 O.2).trans (hc 0 _ rfl);simp only[Nat.mul_one,Lu] at c0;have r:¬(i=s\/i=S.heap.size):=λh=>by
  rcases h with h|h
  .exact O.2 (.inl h)
  .have:=O.1;omega
 have m:i<aS.heap.size:=by have:=u.fr.size;have:=O.1;omega
 have fa:(0:Int)<=(j:Int):=ad;have f0:(j:Int)<(bi:Int):=ad;have cR:=ae (Ln hm);have H1:=ag u (bV.2.2.on ai ad);have cr:=ai.size;refine dq hK (he.fr.mono λ_ h=>.inl h) ?_;clear hK K;clear a0 aj af a7 am aF d0 aL aM ba a8 hc hm h he ai u O aZ b1;refine pf ?_;refine KQ ?_;refine aG rfl (λK hK=>?_);go_simp;refine(jQ ⟨s,wb,sA,bW,bE,sl,GA,gn,gc,MA,mn,mc,FA,fn,fc,M,F,ar⟩ L bl _ bi aX aS (H1.1.wr a4.1) ((Sl.c8 a4.2.2.2.2.1 H1.1.fr).mono λb O=>⟨O.1,λh=>O.2 (.inl h)⟩) ad).mono ?_;rintro e aU ⟨x,cw,cc,cC,rfl,hx,aN,bo,h,he⟩;simp only at h he;have l:=H1.2.on he ad;have a3:=cH (H1.1.next bf h he) l hx aN bo he.size;obtain⟨d0,aL,aM⟩:=l.two;refine dq hK (he.mono λ_ h=>.inl h) ?_;clear hK K;clear l hx aN bo h he c0;refine aG rfl (λK hK=>?_);go_simp;refine dq hK (LW.setCell (.inl (.inr rfl)) _) ?_;clear hK K;refine pf ?_;exact sS
 ):p:=h
end Ci
open Ci in
theorem Ip(d bi:Nat)(bD:0<bi):SK 8 d bi:=by
 exact lU
namespace Cj
theorem pL(h:p:=by
 exact g5.simple (st:=.ret) ⟨s,wb,sA,bW,bE,sl,GA,gn,gc,MA,mn,mc,FA,fn,fc,M,F,ar⟩ bL B eQ bX d ps V T ls N L aw bm QA co qc bS a4.1 dR dL a4.2.2.2.1 ce.1 b3 c2 aR (cb.1.fresh a4.1 J λb O=>ad) bw (eG mm kP (Sl.bR _) (Lk _) (Sl.bR _) (Lk _) (Sl.bR _) (Lk _)) trivial (λn hn=>by simp[aA.all] at hn) (by simp only[aA.num];omega) (Lk _) bu.2.2 a4.2.1
 ):p:=h
theorem lV(h:p:=by
 first
  | subst bs
    have cb:=bV
  | revert bD
    intro bD;have dF:decide ((bi:Int) > 0)=false:=by simp;omega
    have cj:¬(0:Int)<(bi:Int):=ad;clear bD
    have cb:=bV
  | have cn:S.heap.size<wr.heap.size:=bV.2.2.lt
    go_wp2_with(fail);refine(a9 wr s sA bW bE sl 3 bV.1.src ad ad).mono ?_;rintro e wr ⟨cv,rfl,aZ,b1,h,he⟩;have ai:=he.fr;have cb:=aE (bV.1.next bf h ai) (bV.2.1.on ai ad) (bV.2.2.on ai ad);clear a0 aj af a7 am aF d0 aL aM h he ai aZ b1;by_cases ap:cv=1
    case pos=>
     have q:(cv == 1)=true:=by simpa using ap
     clear ap;obtain⟨d0,aL,aM⟩:=cb.2.2.two;go_wp2_with(fail);generalize hX:World.setCell _ _ _=X;have J:=cO hX;have bw:aq X S.heap.size 207 #[.int .i64 9,.string ⟨#[]⟩,.int .i64 0,.int .i64 0,.string ⟨#[]⟩,.slice none 0 0,.string ⟨#[]⟩,.slice none 0 0,.slice none 0 0,.slice none 0 0,.slice none 0 0]:=hX▸cb.2.2.aM 0 _;exact pK
    have q:(cv == 1)=false:=by simpa using ap
    clear ap;obtain⟨a0,aj,af⟩:=cb.1.blk.two;obtain⟨a7,am,aF⟩:=cb.2.1.two;obtain⟨d0,aL,aM⟩:=cb.2.2.two
 go_wp2_with(fail);refine(rf ⟨s,wb,sA,bW,bE,sl,GA,gn,gc,MA,mn,mc,FA,fn,fc,M,F,ar⟩ L bl av bi aX bm ps QA co qc bS wr (cb.1.wr a4.1) ((Sl.c8 a4.2.2.2.2.1 cb.1.fr).mono λb O=>⟨O.1,λh=>O.2 (.inl h)⟩) ad ((Sl.c8 a4.2.2.1 cb.1.fr).mono λb O=>⟨O.1,λh=>O.2 (.inl h)⟩) bA).mono ?_;rintro e aU ⟨r,IA,i,ic,rfl,a1,b0,ax,ay,ai⟩;simp only at a1 ay ai;have a6:S.heap.size<wr.heap.size:=cb.2.2.lt;have l:=cb.2.2.on ai ad;have aP:=cb.2.1.on ai ad;have a3:=h2 (cb.1.next bf ay ai) l aP (a1 (F.map λf=>(f.name,f.params))) b0 ax ai.size;clear a0 aj af a7 am aF d0 aL aM a1 b0 ax ay ai aP;obtain⟨d0,aL,aM⟩:=l.two;clear l;go_upto_region 10 with(fail);generalize hX:World.setCell _ _ _=X;have J:=FC hX;have br:aq X S.heap.size 207 #[.int .i64 5,.string ⟨#[]⟩,.int .i64 0,.int .i64 0,.string ⟨#[]⟩,.slice none 0 0,.string r.name,.slice IA i ic,.slice none 0 0,.slice none 0 0,.slice none 0 0]:=hX▸(a3.2.1.aM 6 _).aM 7 _;have cf:Sl X (fresh wr X) IA i (r.idx.toList.map bp):=(a3.2.2.2.2.2.1.al λb O=>J.block b O.2 (aD O.1)).mono λb O=>⟨O.1,by have:=O.2;have:=J.size;omega⟩
 have aQ:=cJ (a3.1.fresh a4.1 J λb O=>ad) br (a3.2.2.1.on J ad) cf (by have:=J.size;have:=a3.2.2.2.2.2.2;omega:wr.heap.size<=X.heap.size);clear hX d0 aL aM J br cf;obtain⟨d0,aL,aM⟩:=aQ.2.1.two;go_upto_region 11 with(fail);generalize hU:World.alloc _ _=U;have cw:=aW hU;have bO:=aI hU;have bC:=aQ.1.aj bf cw;have b2:Gr (λb=>(B<=b/\(Value.slice av bi aX).ownBlock≠some b)/\b≠S.heap.size) B 207 11 U bM on b4 (ls.map bj):=(a4.2.2.2.1.two.mono λb ac au=>⟨au,ad⟩).c8 bC.fr λb O hl=>⟨λh=>by have:=a4.2.2.2.2.2 b O;have:=h.1.1;omega,a4.2.2.2.2.2 b O⟩
 have a8:Gr (λ_=>False) B 9 1 U av bi aX (bl.map D.s):=(Gr.strs a4.2.2.2.1.one).c8 bC.fr λb O hl=>⟨λh=>h,a4.2.2.2.2.2 b O⟩
 have j:∀b,(Value.slice av bi aX).ownBlock=some b->b<S.heap.size:=λb O=>(a4.2.2.2.1.one.lt O).2;have m:∀b,(Value.slice bM on b4).ownBlock=some b->B<=b/\b<S.heap.size:=λb O=>a4.2.2.2.1.two.lt O;have aC:∀b,(Value.slice av bi aX).ownBlock=some b->(Value.slice bM on b4).ownBlock≠some b:=a4.2.2.2.1.ne;have cA:X.heap.size<U.heap.size:=bO.lt;have a2:wr.heap.size<=X.heap.size:=aQ.2.2.2.2;have bQ:Sl U (λb=>wr.heap.size<=b/\b<X.heap.size) IA i (r.idx.toList.map bp):=aQ.2.2.2.1.al λb O=>cw.block b O.2 λh=>h;have hD:(bj (.lock false r)).rep U (lL (λb=>(B<=b/\(Value.slice av bi aX).ownBlock≠some b)/\b≠S.heap.size) U (.slice bM on b4)) [.int .i64 5,.string ⟨#[]⟩,.int .i64 0,.int .i64 0,.string ⟨#[]⟩,.slice none 0 0,.string r.name,.slice IA i ic,.slice none 0 0,.slice none 0 0,.slice none 0 0]:=by
  refine eG mm (jD.2 ⟨IA,i,ic,rfl,a3.2.2.2.2.1,bQ.mono λb O=>⟨⟨⟨by have:=O.1;omega,λh=>by have:=j b h;have:=O.1;omega⟩,by have:=O.1;omega⟩,by have:=O.2;omega,λh=>by have:=(m b h).2;have:=O.1;omega⟩⟩) (Sl.bR _) (Lk _) (Sl.bR _) (Lk _) (Sl.bR _) (Lk _)
 have cD:=pH bC (aQ.2.1.aj cw) (aQ.2.2.1.aj cw) bO b2 a8 bQ hD;have bq:=aE j m aC;have ak:B<=U.heap.size:=ad;have bd:B<=X.heap.size:=ad;clear hU cw bO bC b2 a8 bQ hD j m aC d0 aL aM;obtain⟨d0,aL,aM⟩:=cD.2.1.two;obtain⟨a7,am,aF⟩:=cD.2.2.1.two;go_upto_region 12 with(at_builtin;refine bT oW rfl (.tmp 59) (.tmp 61) rfl cD.2.2.2.2.1 cD.2.2.2.2.2.2.2 rfl rfl rfl ad ad ak ?_;intro bY bo b6 bH az cl ca;have bh:=aE bH az cl;clear bH az cl ca d0 aL aM);obtain⟨dv,ao,bz⟩:=bh.o;obtain⟨j,m,aC⟩:=bq.o;have ck:aw.heap.size<B:=ad;have bB:¬(Value.slice bM on b4).ownBlock=some X.heap.size:=λh=>by have:=(m _ h).2;omega
 have aV:¬(Value.slice bM on b4).ownBlock=some S.heap.size:=λh=>by have:=(m _ h).2;omega
 have aO:¬(Value.slice bM on b4).ownBlock=some bL:=λh=>by have:=(m _ h).1;omega
 have aH:oT ⟨s,wb,sA,bW,bE,sl,GA,gn,gc,MA,mn,mc,FA,fn,fc,M,F,ar⟩ aw b6 L:=(oT.mk cD.1.src cD.1.blk (bu.2.2.trans cD.1.fr) cD.1.le).fresh bu.1 ao λb O=>by have:=(m b O).1;omega
 have bI:=cD.2.2.2.2.2.1.dm ao.size λb al hp=>ao.block b al (hp.elim (λh=>h.elim) λhp=>aC b hp);have e1:Sl b6 (λb=>wr.heap.size<=b/\b<X.heap.size) IA i (r.idx.toList.map bp):=cD.2.2.2.2.2.2.1.al λb O=>ao.block b (aD O.2) λh=>by have:=(m b h).2;have:=O.1;omega
 have bP:=h2 aH (cD.2.1.on ao aV) (cD.2.2.1.on ao aO) (cD.2.2.2.1.on ao bB) dv bI e1;have Z:∀b,(Value.slice bY (on+1) bo).ownBlock=some b->(B<=b/\b<S.heap.size/\(Value.slice bM on b4).ownBlock=some b)\/U.heap.size<=b:=λb O=>(bz b O).imp (λh=>⟨(m b h).1,(m b h).2,h⟩) id;have aN:=ag Z ao.size;clear dv ao bz j m aC bB aV aO aH bI e1 Z cD bh a7 am aF;obtain⟨a7,am,aF⟩:=bP.2.2.1.two;have hi:Sl b6 (off (λb=>b=s\/b=wb) b6) av bi (bl.map D.s):=bP.2.2.2.2.2.1.sl (λ_ _ h=>h.elim) (λb O aR=>⟨O,λh=>ad⟩);go_wp2_with(fail);refine(ce.2.2 L ad 0 2 bl (T++decls ls) av bi aX bm ps QA co qc bS b6 ad ad (bP.1.wr bu.1) hi ad (λk ap=>ce.2.1 k ad) (Sl.c8 bu.2.1 bP.1.fr) bA).mono ?_;rintro e cK ⟨R,ba,ct,aB,bG,rfl,ah,dE,cr,b7,aa⟩
 try simp only at aa
 clear a7 am aF hi;have bg:=ah.le;have ch:L<=24:=bP.1.le;have cp:aB<=48:=by
  have ac:=ah.num;have au:=uJ R;have aY:=cr.1;simp only[Lo] at aY;omega
 have Z:=aN.1;have cz:=aN.2;have P:∀b,(b=s\/b=wb)->b<aw.heap.size:=λb O=>by
  have ac:=bu.1.src.lt;have au:=bu.1.blk.lt;simp only at ac au;rcases O with O|O<;>omega
 have ck:aw.heap.size<B:=ad;have b9:=bP.2.2.2.2.1.c8 aa λb O hl=>⟨λh=>by have:=P b O;have:=h.1.1;omega,by have:=P b O;omega⟩
 have bJ:=bP.2.2.2.2.2.1.c8 aa λb O hl=>⟨λh=>h,by have:=P b O;omega⟩
 have cc:Sl cK (λb=>wr.heap.size<=b/\b<X.heap.size) IA i (r.idx.toList.map bp):=bP.2.2.2.2.2.2.al λb O=>aa.block b (aD O.2) λh=>by have:=P b h;have:=O.1;omega
 have cN:=bq.1;have ab:Sl cK (lL (λb=>(B<=b/\(Value.slice av bi aX).ownBlock≠some b)/\b≠S.heap.size) cK (.slice bY (on+1) bo)) ct aB (R.map bj):=cr.mono λb O=>⟨⟨⟨by have:=O.1;omega,λh=>by have:=cN b h;have:=O.1;omega⟩,by have:=O.1;omega⟩,O.2,λh=>by
  have ac:=O.1;rcases Z b h with au|au
  .omega
  .have:=(bP.2.2.2.2.1.lt h).2;omega⟩
 have b5:=xK (bP.1.Ic b7 aa) (bP.2.1.on aa λh=>by have:=P _ h;omega) (bP.2.2.1.on aa λh=>by have:=P _ h;omega) (bP.2.2.2.1.on aa λh=>by have:=P _ h;omega) b9 bJ cc ab ah;have bv:∀d∈R.map bj,d.sz=11:=λd hd=>by obtain⟨x,_,rfl⟩:=LL.1 hd;exact wv x
 have b8:B<=cK.heap.size:=by have:=aa.size;omega
 have aG:U.heap.size<=cK.heap.size:=by have:=aa.size;omega
 clear ah dE cr b7 aa b9 bJ cc ab bP Z cN;go_upto_region 13 with(at_builtin;refine xA oW rfl (.tmp 63) (.tmp 67) rfl b5.2.2.2.2.1 b5.2.2.2.2.2.2.2.1 bv rfl rfl ad ad b8 ?_;intro cg bF c7 bH az cl ca;have ds:=aE bH az cl;clear bH az cl ca);obtain⟨be,aK,bk⟩:=ds.o;have Z:=aN.1;obtain⟨j,m,aC⟩:=bq.o;have bc:∀b,(Value.slice av bi aX).ownBlock=some b->(Value.slice bY (on+1) bo).ownBlock≠some b:=λb O h=>by
  rcases Z b h with au|au
  .exact aC b O au.2.2
  .have:=j b O;omega
 have bB:¬(Value.slice bY (on+1) bo).ownBlock=some X.heap.size:=λh=>by rcases Z _ h with au|au<;>omega
 have aV:¬(Value.slice bY (on+1) bo).ownBlock=some S.heap.size:=λh=>by rcases Z _ h with au|au<;>omega
 have aO:¬(Value.slice bY (on+1) bo).ownBlock=some bL:=λh=>by rcases Z _ h with au|au<;>omega
 have bZ:=b5.1.fresh bu.1 aK λb O=>by rcases Z _ O with au|au<;>omega
 have bN:=b5.2.2.2.2.2.1.dm aK.size λb al hp=>aK.block b al (hp.elim (λh=>h.elim) λhp=>bc b hp);have cd:Sl c7 (λb=>wr.heap.size<=b/\b<X.heap.size) IA i (r.idx.toList.map bp):=b5.2.2.2.2.2.2.1.al λb O=>aK.block b (aD O.2) λh=>by have ac:=O.1;have aY:=O.2;rcases Z _ h with au|au<;>omega
 have z:=h2 bZ (b5.2.1.on aK aV) (b5.2.2.1.on aK aO) (b5.2.2.2.1.on aK bB) be bN cd;have aS:∀b,(Value.slice cg (on+1+aB) bF).ownBlock=some b->(B<=b/\b<S.heap.size/\(Value.slice bM on b4).ownBlock=some b)\/U.heap.size<=b:=λb O=>by
  rcases bk b O with ac|ac
  .exact Z b ac
  .exact .inr ad
 have ci:=ae aS;clear be aK bk Z j m aC bc bB aV aO bZ bN cd aS ds;obtain⟨d0,aL,aM⟩:=z.2.1.two;obtain⟨bx,a5,aT⟩:=z.2.2.2.1.two;go_wp2_with(fail);generalize cu:World.setCell _ _ _=Y;have bU:aw.heap.size<=S.heap.size:=bu.2.2.size;obtain⟨bK,bt,bR⟩:=dY (M:=λb=>b=s\/b=wb) (w:=aw) [.int .i64 6,.string ⟨#[]⟩,.int .i64 0,.int .i64 0,.string ⟨#[]⟩,.slice none 0 0,.string r.name,.slice IA i ic,.slice none 0 0,.slice none 0 0,.slice none 0 0] (by rfl) z.2.1 z.1.fr bU cu;have j:=bq.1;have aS:=ci.o;have r3:=z.2.2.2.2.2.1;have cT:=z.2.2.2.2.1;have ah:=b5.2.2.2.2.2.2.2.2;have cm:Sl Y (λb=>wr.heap.size<=b/\b<X.heap.size) IA i (r.idx.toList.map bp):=z.2.2.2.2.2.2.al λb O=>bR.block b (lY O.2 z.2.2.2.1.lt) (aD O.1);have dl:c7.heap.size<=Y.heap.size:=bR.size;have cx:X.heap.size<c7.heap.size:=z.2.2.2.1.lt
 try refine hN _ _ ?_
 unfold lT;refine⟨av,bi,aX,cg,on+1+aB,bF,?_⟩
 iterate 240 apply Exists.intro
 refine⟨?_,rfl⟩;refine⟨bl,.lock false r::R,.lock true r,ba,_,z.1.fresh bu.1 bR (λb O=>ad),z.2.2.1.on bR ad,⟨?_,?_,λb O h=>?_⟩,bK,?_,FK a3.2.2.2.1 ce.1 ah.wf,?_,?_,bg,?_,ad,ad⟩
 .exact Gr.strs (r3.dm bR.size λb al hp=>bR.block b al (hp.elim (λh=>h.elim) λhp=>by have:=j b hp;omega))
 .have ac:=(cT.dm bR.size λb al hp=>bR.block b al (by
   rcases hp with hp|hp
   .exact hp.2
   .rcases aS b hp with au|au<;>omega)).mono λb _ hp=>hp.1
  have he:(ls++(aA.lock false r::R)).map bj=(ls.map bj++[bj (.lock false r)])++R.map bj:=by simp
  rw[he];exact ac
 .rcases aS b h with au|au
  .exact bq.2.2 b O au.2.2
  .have:=j b O;omega
 .exact eG mm (jD.2 ⟨IA,i,ic,rfl,a3.2.2.2.2.1,cm.mono λb O=>⟨⟨by have:=O.1;omega,λh=>by have:=j b h;have:=O.1;omega⟩,by have:=O.2;omega,λh=>by have ac:=O.1;have aY:=O.2;rcases aS b h with au|au<;>omega⟩⟩) (Sl.bR _) (Lk _) (Sl.bR _) (Lk _) (Sl.bR _) (Lk _)
 .intro n hn;rw[Lz,all_cons,xW,all_cons] at hn;simp only[aA.all,an.eQ,an.all,LN,LM] at hn;obtain⟨k,ac,au,aY⟩:=ah.all n hn;exact⟨k,ac,ad,aY⟩
 .rw[Lz,kL,yk,tw];have:=ah.num;simp only[aA.num];omega
 .intro y bb;have:=ce.1 bb;exact Al
 ):p:=h
end Cj
open Cj in
theorem yu(k:Int)(d bi:Nat)(h:k=8/\bi=0\/k=11/\d=0\/k=12/\d=0\/k=13):SK k d bi:=by
 rcases h with⟨rfl,bD⟩|⟨rfl,bs⟩|⟨rfl,bs⟩|rfl
 all_goals
  exact lU
namespace Ck
theorem pL(h:p:=by
 have b0:=bR.o;subst b0;exact g5.simple (st:=.call bb g.name aV) ⟨s,wb,sA,bW,bE,sl,GA,gn,gc,MA,mn,mc,_,fn,fc,M,F,ar⟩ bL B eQ bX d ps V T ls N L aw bm QA co qc bS a4.1 dR dL a4.2.2.2.1 ce.1 b3 c2 aR (an.fresh a4.1 J λb O=>ad) bw (eG mm kP ((b7.al λb O=>J.block b O.2 (aD O.1)).mono λb O=>⟨by have:=O.1;omega,by have:=O.2;omega⟩) aN (Sl.bR _) (Lk _) (Sl.bR _) (Lk _)) ⟨g.params,LL.2 ⟨g,bO.o,rfl⟩,nX ce.1 _ _ (a1 _)⟩ (λn hn=>by simp[aA.all] at hn) (by simp only[aA.num];omega) (Lk _) bu.2.2 a4.2.1
 ):p:=h
theorem sT(h:p:=by
 refine aC ?_;generalize b6:World.setCell _ _ _=Y;have J:=FC b6;have bw:aq Y S.heap.size 207 #[.int .i64 bP,.string g.name,.int .i64 0,.int .i64 0,.string ⟨#[]⟩,.slice none 0 0,.string ⟨#[]⟩,.slice none 0 0,.slice KA k kc,.slice none 0 0,.slice none 0 0]:=b6▸(a3.2.1.aM 1 _).aM 8 _;clear b6 d0 aL aM;go_wp2_with(fail);obtain⟨an,_,a1,aN,b7,bN⟩:=a3.o;have b6:=J.size;exact pK
 ):p:=h
theorem eU(h:p:=by
 refine b9 ?_;generalize bF:World.setCell _ _ _=Z;obtain⟨bk,bd,bg⟩:=dY (M:=λb=>b=s) [.string g.name,.slice bU bT bY,.slice H bj I] (by rfl) bC ai gt bF;have a6:S.heap.size<X.heap.size:=aQ.2.1.lt;have cm:s<X.heap.size:=ad;have bK:cn Z s sA bW bE sl:=ay.cS bg λb O h=>ad;have bp:=aQ.1.next bf bK bd;have bh:=cH bp (aQ.2.1.on bd ad) (aQ.2.2.1.on bd ad) bk bt bz;have b8:¬az=s:=ad;have bv:=bd.size;clear bF bk bd bg bK bp bt bz ai ay bC bx a5 aT;obtain⟨a7,am,aF⟩:=bh.2.2.1.two;obtain⟨bx,a5,aT⟩:=bh.2.2.2.1.two;have b5:¬bL=s:=ad;have bH:bT<=2:=by
  have ac:=bh.2.2.2.2.2.1;have au:=bs g bh.2.2.2.2.1;simp at ac;omega
 go_upto_region 28 with(fail);refine eC (λb=>b=s) [(0,3),(1,0),(2,3),(3,0),(4,0),(5,3),(7,3),(6,1),(8,2),(9,3),(10,2)] ?_;refine pf ?_;refine oQ ?_;refine pf ?_
 iterate 2 refine oQ ?_
 iterate 2 refine pf ?_
 refine aG rfl (λK hK=>?_);go_simp;refine(zp ⟨s,wb,sA,bW,bE,sl,GA,gn,gc,MA,mn,mc,_,fn,fc,M,F,ar⟩ L bl av bi aX bm ps QA co qc bS g.name g.params bU bT bY (.slice H bj I) Z.drew ((bh.1.aj bf LW.drew).wr a4.1) ((Sl.c8 a4.2.2.2.2.1 (bh.1.aj bf LW.drew).fr).mono λb O=>⟨O.1,λh=>O.2 (.inl h)⟩) ad ((Sl.c8 a4.2.2.1 (bh.1.aj bf LW.drew).fr).mono λb O=>⟨O.1,λh=>O.2 (.inl h)⟩) bA ((Sl.c8 bh.2.2.2.2.2 (bh.1.aj bf LW.drew).fr).mono λb O=>⟨O.1,λh=>O.2 (.inl h)⟩) bH).mono ?_;rintro e aU ⟨aV,KA,k,kc,rfl,a1,aN,b7,ay,ai⟩;simp only at a1 ay ai;have U:Fr (λb=>b=s) Z aU:=Fr.aF ai;have l:=bh.2.1.on U ad;have a3:=cH (bh.1.next bf ay U) l a1 aN b7 U.size;have bO:=ae bh.2.2.2.2.1;have b2:X.heap.size<=Z.drew.heap.size:=bv;refine dq hK (ai) ?_;clear hK K;clear a7 am aF bx a5 aT ai ay b7 aN a1 U;obtain⟨d0,aL,aM⟩:=l.two;clear l;exact sS
 ):p:=h
theorem lV(h:p:=by
 have bI:=a4.1.nf;have bs:=a4.1.jF;simp only at bI bs;have gP:¬wb=s:=ad;obtain⟨cj,cY,be,_⟩:=a4.1.fs.some_ bI.1;simp only at be;subst be;go_upto_region 27 with(fail);generalize hX:World.setCell _ _ _=X;have J:Fr (λb=>b=S.heap.size) wr X:=by rw[<-hX];first|exact(Fr.refl (λb=>b=S.heap.size) wr).setCell (.inl rfl) _|exact((Fr.refl (λb=>b=S.heap.size) wr).setCell (.inl rfl) _).setCell (.inl rfl) _
 have br:aq X S.heap.size 207 #[.int .i64 bP,.string ⟨#[]⟩,.int .i64 0,.int .i64 0,.string ⟨#[]⟩,.slice none 0 0,.string ⟨#[]⟩,.slice none 0 0,.slice none 0 0,.slice none 0 0,.slice none 0 0]:=by rw[<-hX,aI.o];first|exact(bV.2.2.aM 0 _)|exact(bV.2.2.aM 0 _).aM 0 _
 have ab:=bV.1.fresh a4.1 J λb O=>ad;have bc:=bV.2.1.on J ad;have aQ:=bJ ab br bc J.size;clear hX a0 aj af a7 am aF d0 aL aM J br ab bc;obtain⟨a0,aj,af⟩:=aQ.1.blk.two;refine rC (λb=>b=s) [19] (.free 0 (.free 1 (.free 2 (.free 3 (.held 4 (.free 5 (.free 6 (.free 7 (.held 8 (.free 9 (.free 10 (.free 11 (.free 12 (.held 13 (.free 14 (.pick [15,18] (λi=>bif i == 15 then .free 16 (.held 17 (.pick [18] (λ_=>.pick [19] (λ_=>.stop)))) else .pick [15] (λ_=>.free 16 (.held 17 (.pick [19] (λ_=>.stop))))))))))))))))))))) ?_
 iterate 4 refine tf ?_
 refine nh ?_
 iterate 3 refine tf ?_
 refine nh ?_
 iterate 4 refine tf ?_
 refine nh ?_;refine tf ?_;clear a0 aj af;refine g0 (P:=?_) (ops:=?_) (Q:=?_) (R:=?_) (tails:=?_) (rest:=.pick [19] (λ_=>.stop)) (aa:=?_)
  (C:=λ(az:Nat) (j:Nat) (ak:Value) bD=>Fr (λb=>b=s) X bD/\cn bD s sA bW bE sl/\aq bD az 157 #[.string ⟨#[]⟩,.slice none 0 0,.slice none 0 0]/\X.heap.size<=az/\∃(g:aK) (bU:L3) (bT bY:Nat) (H:L3) (bj I:Nat),ak=.agg #[.string g.name,.slice bU bT bY,.slice H bj I]/\g∈F/\Sl S (off (λb=>b=s\/b=wb) S) bU bT (g.params.map dv)) (λkey=>?_) ?_
 rotate_left 6
 ·
  refine a2 ?_ ?_
  ·
   refine aB rfl (λK hK=>?_) rfl;go_simp;refine(a9 X.drew s sA bW bE sl fn (aQ.1.aj bf LW.drew).src ad ad).mono ?_;rintro e aS ⟨cv,rfl,aZ,b1,h,he⟩;obtain⟨j,rfl⟩:=Lp aZ;have bq:j<fn:=ad;have ai:Fr (λb=>b=s) X aS:=Fr.aF he.fr;have y:Fr (λb=>b=s\/b=wb) S aS:=aQ.1.fr.trans (ai.mono λ_ h=>.inl h);refine dq hK (he.fr) ?_;clear hK K;obtain⟨bo,bZ,g,cs,m,cx,r,aP,a8,hc⟩:=Sl.g6 (z:=3) a4.1.fs (λ_=>rfl) (k:=j) (by simpa using bq);injection m with m;injection m with hFA1 hFA2;subst hFA1 hFA2;obtain⟨bU,bT,bY,H,bj,I,rfl,bB,bz⟩:=EW aP;have e0:=(y.cell cx.1 cx.2).trans (hc 0 _ rfl);have e1:=(y.cell cx.1 cx.2).trans (hc 1 _ rfl);have e2:=(y.cell cx.1 cx.2).trans (hc 2 _ rfl);simp only[Lu] at e0;have cg:cj<aS.heap.size:=by have:=y.size;have:=cx.1;omega
   have bG:¬cj=s:=λh=>cx.2 (.inl h);have fa:(0:Int)<=(j:Int):=ad;have f0:(j:Int)<(fn:Int):=ad;have ba:=Ln r;skip
   refine tf ?_;refine Ku ?_;refine ao ?_;refine dT ?_;generalize bF:World.alloc _ _=Z;have e3:=aW bF;have ah:Fr (λb=>b=s) X Z/\cn Z s sA bW bE sl/\aq Z aS.heap.size 157 #[.string ⟨#[]⟩,.slice none 0 0,.slice none 0 0]/\X.heap.size<=aS.heap.size/\∃(ag:aK) (aH:L3) (G aY:Nat) (al:L3) (aO ap:Nat),(Value.agg #[.string g.name,.slice bU bT bY,.slice H bj I])=.agg #[.string ag.name,.slice aH G aY,.slice al aO ap]/\ag∈F/\Sl S (off (λb=>b=s\/b=wb) S) aH G (ag.params.map dv):=
    ⟨ai.trans (e3.mono λ_ h=>h.elim),h.cS e3 λ_ _ h=>h,by rw[<-bF];exact LX,ai.size,g,bU,bT,bY,_,_,_,rfl,ba,bz⟩
   clear bF e3 bz aP a8 hc e0 e1 e2;revert ah;generalize aS.heap.size=az;generalize (Value.agg #[.string g.name,.slice bU bT bY,.slice H bj I])=ak;intro ah;exact key az j ak _ ah
  ·
   refine dT ?_;generalize hV:World.drew (World.alloc _ _)=e6;have e1:=gK hV;have cG:=kx hV;have cr:=cG.lt;refine ao ?_;refine aB rfl (λK hK=>?_) rfl;go_simp;refine(a9 e6 s sA bW bE sl fn (aQ.1.aj bf e1).src ad ad).mono ?_;rintro e aS ⟨cv,rfl,aZ,b1,h,he⟩;obtain⟨j,rfl⟩:=Lp aZ;have bq:j<fn:=ad;have ai:Fr (λb=>b=s) X aS:=(e1.mono λ_ h=>h.elim).trans he.fr;have y:Fr (λb=>b=s\/b=wb) S aS:=aQ.1.fr.trans (ai.mono λ_ h=>.inl h);have dI:s<X.heap.size:=by have:=aQ.2.2.2;omega
   refine dq hK (he.fr) ?_;clear hK K;obtain⟨bo,bZ,g,cs,m,cx,r,aP,a8,hc⟩:=Sl.g6 (z:=3) a4.1.fs (λ_=>rfl) (k:=j) (by simpa using bq);injection m with m;injection m with hFA1 hFA2;subst hFA1 hFA2;obtain⟨bU,bT,bY,H,bj,I,rfl,bB,bz⟩:=EW aP;have e0:=(y.cell cx.1 cx.2).trans (hc 0 _ rfl);have e1:=(y.cell cx.1 cx.2).trans (hc 1 _ rfl);have e2:=(y.cell cx.1 cx.2).trans (hc 2 _ rfl);simp only[Lu] at e0;have cg:cj<aS.heap.size:=by have:=y.size;have:=cx.1;omega
   have bG:¬cj=s:=λh=>cx.2 (.inl h);have fa:(0:Int)<=(j:Int):=ad;have f0:(j:Int)<(fn:Int):=ad;have ba:=Ln r;skip
   refine tf ?_;refine Ku ?_;have ah:Fr (λb=>b=s) X aS/\cn aS s sA bW bE sl/\aq aS X.heap.size 157 #[.string ⟨#[]⟩,.slice none 0 0,.slice none 0 0]/\X.heap.size<=X.heap.size/\∃(ag:aK) (aH:L3) (G aY:Nat) (al:L3) (aO ap:Nat),(Value.agg #[.string g.name,.slice bU bT bY,.slice H bj I])=.agg #[.string ag.name,.slice aH G aY,.slice al aO ap]/\ag∈F/\Sl S (off (λb=>b=s\/b=wb) S) aH G (ag.params.map dv):=
    ⟨ai,h,cG.on he.fr ad,Lk _,g,bU,bT,bY,_,_,_,rfl,ba,bz⟩
   clear hV bz aP a8 hc e0 e1 e2;revert ah;generalize (Value.agg #[.string g.name,.slice bU bT bY,.slice H bj I])=ak;intro ah;exact key X.heap.size j ak _ ah
 ·
  rintro az j ak bD ⟨ai,ay,bC,gt,g,bU,bT,bY,H,bj,I,rfl,bt,bz⟩;obtain⟨bx,a5,aT⟩:=bC.two;exact fp
 ):p:=h
end Ck
open Ck in
theorem Fb(bb:Bool)(k:Int)(d bi:Nat)(h:bb=false/\k=9\/bb=true/\k=10):SK k d bi:=by
 obtain⟨bP,aE⟩:∃bP:Int,bP=if bb then 4 else 3:=⟨_,rfl⟩
 have bR:=ae aE;rcases h with⟨O,rfl⟩|⟨O,rfl⟩
 all_goals
  rw[O] at aE;have aI:=ae aE;clear aE O;exact lU
namespace Cl
theorem pL(h:p:=by
 exact g5.simple (st:=.ite x (.eQ R) .nil) ⟨s,wb,sA,bW,bE,sl,GA,gn,gc,MA,mn,mc,FA,fn,fc,M,F,ar⟩ bL B eQ bX d ps V T ls N L aw bm QA co qc bS a4.1 dR dL a4.2.2.2.1 ce.1 b3 c2 aR bP.1 bw (eG (a5.2 ⟨cw,cc,cC,rfl,a3.2.2.2.1,bP.2.2.2.1⟩) kP (Sl.bR _) (Lk _) bP.2.2.2.2 bq.2.2.2.1 (Sl.bR _) (Lk _)) ⟨i,j.1,dN ce.1 2 x a3.2.2.1,(dg _ i i bl _ _ _ ce.1 (λ_ _ h=>h) (Lk _) bq.2.2.1.wf),np⟩ (λn hn=>by simp only[aA.all,an.all,LM] at hn;obtain⟨k,ac,au,aY⟩:=bq.2.2.1.all n hn;exact⟨k,ac,ad,aY⟩) (by simp only[aA.num,an.num];omega) dF bu.2.2 a4.2.1
 ):p:=h
theorem As(h:p:=by
 obtain⟨a0,aj,af⟩:=aQ.1.blk.two;go_wp2_with(fail);refine(a9 X s sA bW bE sl 2 aQ.1.src ad ad).mono ?_;rintro e b6 ⟨cv,rfl,aZ,b1,h,he⟩;have ai:=he.fr;have dI:s<X.heap.size:=aQ.1.src.lt;have aH:=aQ.1.next bf h ai;have bD:=aQ.2.1.on ai ad;have bP:=cJ aH bD (aQ.2.2.1.on ai W) (aQ.2.2.2.1.Ek ai λb O=>ad) (aQ.2.2.2.2.Ek ai λb O=>ad);have bt:S.heap.size<b6.heap.size:=bD.lt;have bh:=ag ai.size (λb (ac:b<X.heap.size) (au:¬b=s)=>ai.block b ac au);clear a0 aj af h he ai aH aZ b1 bD;have ak:=bq.2.2.1.num;by_cases ap:cv=1
 case neg=>
  have q:(cv == 1)=false:=by simpa using ap
  clear ap;go_wp2_with(fail);have bw:=bP.2.1;exact pK
 case pos=>
  have q:(cv == 1)=true:=by simpa using ap
  clear ap;obtain⟨a7,am,aF⟩:=bP.2.2.1.two;go_wp2_with(fail)
  first
   | rw[j.2,show IntKind.i64.wrap ((i:Nat):Int)=((i:Nat):Int) from IntWalk.i64_in _ ad]
   | rw[j.2]
  refine(ce.2.2 ba ad i 3 bl (T++decls ls) av bi aX bm ps QA co qc bS b6 ad ad (bP.1.wr a4.1) (Sl.c8 a4.2.2.2.2.1 bP.1.fr) ad (λk ap=>ce.2.1 k ad) (Sl.c8 a4.2.2.1 bP.1.fr) bA).mono ?_;rintro e cK ⟨t,dO,az,a8,bg,rfl,ci,ca,bN,aI,P⟩;have u:¬(S.heap.size=s\/S.heap.size=wb):=ad;have z:=bP.2.1.on P u;have bj:dO<=ba:=ci.le;have bZ:=cH (bP.1.Ic aI P) z ci ca bN P;clear ci ca bN aI P a7 am aF;obtain⟨d0,aL,aM⟩:=z.two;clear z;go_wp2_with(fail);generalize cu:World.setCell _ _ _=Y;have J:=cO cu;have bw:aq Y S.heap.size 207 #[.int .i64 7,.string ⟨#[]⟩,.int .i64 x.bg,.int .i64 x.numOf,.string x.bA,.slice cw cc cC,.string ⟨#[]⟩,.slice none 0 0,.slice none 0 0,.slice m aB bG,.slice az a8 bg]:=cu▸bZ.2.1.aM 10 _;clear cu d0 aL aM;have aa:=bZ.2.2.2.2.2;have bb:=bZ.2.2.1.num;have bI:∀b,S.heap.size<=b->¬(b=s\/b=wb):=λb O h=>ad;have a2:Sl X (λb=>S.heap.size<b/\b<X.heap.size) cw cc (x.args.map bp):=ao.1;have aV:Sl X (λb=>S.heap.size<b/\b<X.heap.size) m aB (c6 (.eQ R)):=ao.2;have cd:∀b,S.heap.size<b->b<X.heap.size->Y.heap[b]?=X.heap[b]?:=λb ac au=>(J.block b (lY bh.1 aa.size) ad).trans ((aa.block b (aD bh.1) (bI b ad)).trans (bh.2 b au ad));have H:X.heap.size<=Y.heap.size:=by have:=bh.1;have:=aa.size;have:=J.size;omega
  have be:Sl Y (fresh S Y) cw cc (x.args.map bp):=(a2.al λb O=>cd b O.1 O.2).mono λb O=>⟨by have:=O.1;omega,by have:=O.2;omega⟩
  have bd:Sl Y (fresh S Y) m aB (c6 (.eQ R)):=(aV.al λb O=>cd b O.1 O.2).mono λb O=>⟨by have:=O.1;omega,by have:=O.2;omega⟩
  have aO:Sl Y (fresh S Y) az a8 (c6 (.eQ t)):=by
   rw[mH];exact(bZ.2.2.2.2.1.al λb O=>J.block b O.2 (aD O.1)).mono λb O=>⟨by have:=O.1;omega,by have:=O.2;have:=J.size;omega⟩
  try refine hN _ _ ?_
  unfold lT;refine⟨av,bi,aX,bM,on,b4,?_⟩
  iterate 240 apply Exists.intro
  refine⟨?_,rfl⟩;exact g5.simple (st:=.ite x (.eQ R) (.eQ t)) ⟨s,wb,sA,bW,bE,sl,GA,gn,gc,MA,mn,mc,FA,fn,fc,M,F,ar⟩ bL B eQ bX d ps V T ls N L aw bm QA co qc bS a4.1 dR dL a4.2.2.2.1 ce.1 b3 c2 aR (bZ.1.fresh a4.1 J λb O=>ad) bw (eG (a5.2 ⟨cw,cc,cC,rfl,a3.2.2.2.1,be⟩) kP (Sl.bR _) (Lk _) bd bq.2.2.2.1 aO bZ.2.2.2.1) ⟨i,j.1,dN ce.1 2 x a3.2.2.1,(dg _ i i bl _ _ _ ce.1 (λ_ _ h=>h) (Lk _) bq.2.2.1.wf),(dg _ i i bl _ _ _ ce.1 (λ_ _ h=>h) (Lk _) bZ.2.2.1.wf)⟩ (λn hn=>by simp only[aA.all] at hn;exact(Lt.1 hn).elim (λhn=>by obtain⟨k,ac,au,aY⟩:=bq.2.2.1.all n hn;exact⟨k,ad,ad,aY⟩) (λhn=>by obtain⟨k,ac,au,aY⟩:=bZ.2.2.1.all n hn;exact⟨k,ac,ad,aY⟩)) (by simp only[aA.num];omega) ad bu.2.2 a4.2.1
 ):p:=h
theorem Ao(h:p:=by
 have br:aq X S.heap.size 207 #[.int .i64 7,.string ⟨#[]⟩,.int .i64 x.bg,.int .i64 x.numOf,.string x.bA,.slice cw cc cC,.string ⟨#[]⟩,.slice none 0 0,.slice none 0 0,.slice m aB bG,.slice none 0 0]:=hX▸(((((bq.2.1.aM 0 _).aM 2 _).aM 3 _).aM 4 _).aM 5 _).aM 9 _;exact Ar
 ):p:=h
theorem Bl(h:p:=by
 go_upto_region 30 with(fail);exact BM
 ):p:=h
theorem lV(h:p:=by
 exact Bk
 ):p:=h
end Cl
open Cl in
theorem Js(d bi:Nat)(bs:0<d):SK 11 d bi:=by
 exact lU
namespace Cm
theorem pL(h:p:=by
 exact g5.simple (st:=.gz x (.eQ R)) ⟨s,wb,sA,bW,bE,sl,GA,gn,gc,MA,mn,mc,FA,fn,fc,M,F,ar⟩ bL B eQ bX d ps V T ls N L aw bm QA co qc bS a4.1 dR dL a4.2.2.2.1 ce.1 b3 c2 aR aQ.1 bw (eG (a5.2 ⟨cw,cc,cC,rfl,a3.2.2.2.1,aQ.2.2.2.1⟩) kP (Sl.bR _) (Lk _) aQ.2.2.2.2 bq.2.2.2.1 (Sl.bR _) (Lk _)) ⟨i,j.1,dN ce.1 2 x a3.2.2.1,(dg _ i i bl _ _ _ ce.1 (λ_ _ h=>h) (Lk _) bq.2.2.1.wf)⟩ (λn hn=>by obtain⟨k,ac,au,aY⟩:=bq.2.2.1.all n hn;exact⟨k,ac,ad,aY⟩) (by simp only[aA.num];omega) dF bu.2.2 a4.2.1
 ):p:=h
theorem As(h:p:=by
 go_wp2_with(fail);have ak:=bq.2.2.1.num;have bw:=aQ.2.1;exact pK
 ):p:=h
theorem Ao(h:p:=by
 have br:aq X S.heap.size 207 #[.int .i64 8,.string ⟨#[]⟩,.int .i64 x.bg,.int .i64 x.numOf,.string x.bA,.slice cw cc cC,.string ⟨#[]⟩,.slice none 0 0,.slice none 0 0,.slice m aB bG,.slice none 0 0]:=hX▸(((((bq.2.1.aM 0 _).aM 2 _).aM 3 _).aM 4 _).aM 5 _).aM 9 _;exact Ar
 ):p:=h
theorem Bl(h:p:=by
 go_upto_region 34 with(fail);exact BM
 ):p:=h
theorem lV(h:p:=by
 exact Bk
 ):p:=h
end Cm
open Cm in
theorem Jt(d bi:Nat)(bs:0<d):SK 12 d bi:=by
 exact lU
theorem Jr(cv:Int)(br:0<=cv)(ay:cv<14)(d bi:Nat):SK cv d bi:=by
 by_cases bR:cv<4
 .exact Fe false cv d bi (.inl ⟨rfl,bR⟩)
 by_cases g:cv<7
 .exact Fe true cv d bi (.inr ⟨rfl,bR,g⟩)
 have ap:cv=7\/cv=8\/cv=9\/cv=10\/cv=11\/cv=12\/cv=13:=ad;rcases ap with rfl|rfl|rfl|rfl|rfl|rfl|rfl
 .exact Iq d bi
 .by_cases bG:0<bi
  .exact Ip d bi ad
  .exact yu 8 d bi ad
 .exact Fb false 9 d bi (by simp)
 .exact Fb true 10 d bi (by simp)
 .by_cases hd:0<d
  .exact Js d bi ad
  .exact yu 11 d bi ad
 .by_cases hd:0<d
  .exact Jt d bi ad
  .exact yu 12 d bi ad
 .exact yu 13 d bi ad
end Go.Proofs.YtkhnkojkplbioaaGreat

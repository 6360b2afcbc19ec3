/- Part 41 of the proof. No condition of its own. -/
import Derived.Test.YtglbpimocmhojaaGreatQ40
namespace Go.Proofs.YtglbpimocmhojaaGreat
open Go.RowKit Go.Proofs.Tryz
set_option maxRecDepth 1000000
set_option maxHeartbeats 25600000
set_option linter.unusedVariables false
variable{p:Prop}
namespace Bx
theorem se(h:p:=by
 refine aE ?_;generalize hX:World.setCell _ _ _=X;have J:Fr (λb=>b=S.heap.size) aT X:=hX▸((((((Fr.refl (λb=>b=S.heap.size) aT).setCell (.inl rfl) _).setCell (.inl rfl) _).setCell (.inl rfl) _).setCell (.inl rfl) _).setCell (.inl rfl) _).setCell (.inl rfl) _;have br:aq X S.heap.size 174 #[.int .i64 2,.string nm,.int .i64 x.a9,.int .i64 x.numOf,.string x.bu,.slice cA cj cF,.string ⟨#[]⟩,.slice none 0 0,.slice none 0 0,.slice none 0 0,.slice none 0 0]:=hX▸(((((aW.2.1.aM 0 _).aM 1 _).aM 2 _).aM 3 _).aM 4 _).aM 5 _;clear hX d0 aL aM;go_wp2_with(fail);obtain⟨an,_,hx,aN,ca,bN⟩:=aW.o;have bB:=J.size;have b4:=bQ.2.2.lt
 try refine hN _ _ ?_
 unfold lE;apply Exists.intro
 refine⟨bi,ba,bq,on,b6,?_⟩
 iterate 240 apply Exists.intro
 refine⟨?_,rfl⟩;exact gZ.simple (st:=.set false nm x) ⟨s,wb,sA,bV,bC,sl,GA,gn,gc,MA,mn,mc,FA,fn,fc,M,F,ar⟩ bZ B bO bT d ps V T ls N L aw aZ QA cg qc bx a7.1 cI b0 a7.2.2.2.1 cc.1 bK c2 aR (an.fresh a7.1 J λb O=>ad) br (eC (a1.2 ⟨cA,cj,cF,rfl,aN,(ca.ak λb O=>J.block b O.2 (aC O.1)).mono λb O=>⟨by have:=O.1;omega,by have:=O.2;omega⟩⟩) kF (Sl.bN _) (KD _) (Sl.bN _) (KD _) (Sl.bN _) (KD _)) ⟨cc.1 cQ.o,dK cc.1 2 x hx⟩ (λn hn=>by simp[aA.all] at hn) (by simp only[aA.num];omega) (KD _) bl.2.2 a7.2.1
 ):p:=h
theorem lH(h:p:=by
 have o:(0:Int)<(bi:Int):=ad;have c3:¬(wb=s\/wb=S.heap.size):=ad;go_upto_region 22 with(fail);refine eK (λb=>b=s\/b=S.heap.size) [(0,3),(1,3),(2,3),(3,3),(4,0),(5,3),(6,3),(10,3),(11,3),(13,3),(7,1),(8,3),(9,0),(12,1),(14,1),(15,3),(16,2),(17,3),(18,2)] ?_
 iterate 4 refine pf ?_
 refine oq ?_
 iterate 5 refine pf ?_
 refine aI rfl (λK hK=>?_);go_simp;refine(a2 wr.drew s sA bV bC sl bi (bQ.1.ai be Ll.drew).src ad ad).mono ?_;rintro e aS ⟨cv,rfl,a3,bS,h,he⟩;obtain⟨j,rfl⟩:=KI a3;have aj:Fr (λb=>b=s) wr aS:=Fr.aF he.fr;have u:=bQ.1.next be h aj;obtain⟨i,t,nm,cs,g,O,hm,a5,bj,hc⟩:=Sl.g0 (z:=1) a7.2.2.2.2.1 (λ_=>rfl) (k:=j) ad;subst g;obtain rfl:=um.1 a5;have c0:=(u.fr.cell O.1 O.2).trans (hc 0 _ rfl);simp only[Nat.mul_one,KN] at c0;have r:¬(i=s\/i=S.heap.size):=λh=>by
  rcases h with h|h
  .exact O.2 (.inl h)
  .have:=O.1;omega
 have m:i<aS.heap.size:=by have:=u.fr.size;have:=O.1;omega
 have dH:(0:Int)<=(j:Int):=ad;have dL:(j:Int)<(bi:Int):=ad;have cQ:=ae (KG hm);have H1:=ah u (bQ.2.2.on aj ad);have cp:=aj.size;refine dz hK (he.fr.mono λ_ h=>.inl h) ?_;clear hK K;clear a0 ai af a8 am aF d0 aL aM a5 bj hc hm h he aj u O a3 bS;refine pf ?_;refine J8 ?_;refine aI rfl (λK hK=>?_);go_simp;refine(jK ⟨s,wb,sA,bV,bC,sl,GA,gn,gc,MA,mn,mc,FA,fn,fc,M,F,ar⟩ L aH _ bi ba aS (H1.1.wr a7.1) ((Sl.c8 a7.2.2.2.2.1 H1.1.fr).mono λb O=>⟨O.1,λh=>O.2 (.inl h)⟩) ad).mono ?_;rintro e aT ⟨x,cA,cj,cF,rfl,hx,aN,ca,h,he⟩;simp only at h he;have l:=H1.2.on he ad;have aW:=cS (H1.1.next be h he) l hx aN ca he.size;obtain⟨d0,aL,aM⟩:=l.two;refine dz hK (he.mono λ_ h=>.inl h) ?_;clear hK K;clear l hx aN ca h he c0;refine aI rfl (λK hK=>?_);go_simp;refine dz hK (Ll.setCell (.inl (.inr rfl)) _) ?_;clear hK K;refine pf ?_;exact sd
 ):p:=h
end Bx
open Bx in
theorem Hz(d bi:Nat)(bD:0<bi):SK 8 d bi:=by
 exact lG
namespace By
theorem pe(h:p:=by
 exact gZ.simple (st:=.ret) ⟨s,wb,sA,bV,bC,sl,GA,gn,gc,MA,mn,mc,FA,fn,fc,M,F,ar⟩ bZ B bO bT d ps V T ls N L aw aZ QA cg qc bx a7.1 cI b0 a7.2.2.2.1 cc.1 bK c2 aR (cw.1.fresh a7.1 J λb O=>ad) br (eC l5 kF (Sl.bN _) (KD _) (Sl.bN _) (KD _) (Sl.bN _) (KD _)) trivial (λn hn=>by simp[aA.all] at hn) (by simp only[aA.num];omega) (KD _) bl.2.2 a7.2.1
 ):p:=h
theorem lH(h:p:=by
 first
  | subst bw
    have cw:=bQ
  | revert bD
    intro bD;have dI:decide ((bi:Int) > 0)=false:=by simp;omega
    have cT:¬(0:Int)<(bi:Int):=ad;clear bD
    have cw:=bQ
  | have cy:S.heap.size<wr.heap.size:=bQ.2.2.lt
    go_wp2_with(fail);refine(a2 wr s sA bV bC sl 3 bQ.1.src ad ad).mono ?_;rintro e wr ⟨cv,rfl,a3,bS,h,he⟩;have aj:=he.fr;have cw:=aD (bQ.1.next be h aj) (bQ.2.1.on aj ad) (bQ.2.2.on aj ad);clear a0 ai af a8 am aF d0 aL aM h he aj a3 bS;by_cases ap:cv=1
    case pos=>
     have q:(cv == 1)=true:=by simpa using ap
     clear ap;obtain⟨d0,aL,aM⟩:=cw.2.2.two;go_wp2_with(fail);generalize hX:World.setCell _ _ _=X;have J:=cJ hX;have br:aq X S.heap.size 174 #[.int .i64 9,.string ⟨#[]⟩,.int .i64 0,.int .i64 0,.string ⟨#[]⟩,.slice none 0 0,.string ⟨#[]⟩,.slice none 0 0,.slice none 0 0,.slice none 0 0,.slice none 0 0]:=hX▸cw.2.2.aM 0 _;exact pd
    have q:(cv == 1)=false:=by simpa using ap
    clear ap;obtain⟨a0,ai,af⟩:=cw.1.blk.two;obtain⟨a8,am,aF⟩:=cw.2.1.two;obtain⟨d0,aL,aM⟩:=cw.2.2.two
 go_wp2_with(fail);refine(qG ⟨s,wb,sA,bV,bC,sl,GA,gn,gc,MA,mn,mc,FA,fn,fc,M,F,ar⟩ L aH av bi ba aZ ps QA cg qc bx wr (cw.1.wr a7.1) ((Sl.c8 a7.2.2.2.2.1 cw.1.fr).mono λb O=>⟨O.1,λh=>O.2 (.inl h)⟩) ad ((Sl.c8 a7.2.2.1 cw.1.fr).mono λb O=>⟨O.1,λh=>O.2 (.inl h)⟩) bv).mono ?_;rintro e aT ⟨r,IA,i,ic,rfl,a4,aN,ax,ay,aj⟩;simp only at a4 ay aj;have b4:S.heap.size<wr.heap.size:=cw.2.2.lt;have l:=cw.2.2.on aj ad;have aP:=cw.2.1.on aj ad;have aW:=hP (cw.1.next be ay aj) l aP (a4 (F.map λf=>(f.name,f.params))) aN ax aj.size;clear a0 ai af a8 am aF d0 aL aM a4 aN ax ay aj aP;obtain⟨d0,aL,aM⟩:=l.two;clear l;go_upto_region 10 with(fail);generalize hX:World.setCell _ _ _=X;have J:=EM hX;have bz:aq X S.heap.size 174 #[.int .i64 5,.string ⟨#[]⟩,.int .i64 0,.int .i64 0,.string ⟨#[]⟩,.slice none 0 0,.string r.name,.slice IA i ic,.slice none 0 0,.slice none 0 0,.slice none 0 0]:=hX▸(aW.2.1.aM 6 _).aM 7 _;have cj:Sl X (fresh wr X) IA i (r.idx.toList.map bk):=(aW.2.2.2.2.2.1.ak λb O=>J.block b O.2 (aC O.1)).mono λb O=>⟨O.1,by have:=O.2;have:=J.size;omega⟩
 have aQ:=cK (aW.1.fresh a7.1 J λb O=>ad) bz (aW.2.2.1.on J ad) cj (by have:=J.size;have:=aW.2.2.2.2.2.2;omega:wr.heap.size<=X.heap.size);clear hX d0 aL aM J bz cj;obtain⟨d0,aL,aM⟩:=aQ.2.1.two;go_upto_region 11 with(fail);generalize hU:World.alloc _ _=U;have cl:=aX hU;have b1:=aK hU;have bB:=aQ.1.ai be cl;have ca:Gr (λb=>(B<=b/\(Value.slice av bi ba).ownBlock≠some b)/\b≠S.heap.size) B 174 11 U bq on b6 (ls.map bg):=(a7.2.2.2.1.two.mono λb ac au=>⟨au,ad⟩).c8 bB.fr λb O hl=>⟨λh=>by have:=a7.2.2.2.2.2 b O;have:=h.1.1;omega,a7.2.2.2.2.2 b O⟩
 have a5:Gr (λ_=>False) B 9 1 U av bi ba (aH.map D.s):=(Gr.strs a7.2.2.2.1.one).c8 bB.fr λb O hl=>⟨λh=>h,a7.2.2.2.2.2 b O⟩
 have j:∀b,(Value.slice av bi ba).ownBlock=some b->b<S.heap.size:=λb O=>(a7.2.2.2.1.one.lt O).2;have m:∀b,(Value.slice bq on b6).ownBlock=some b->B<=b/\b<S.heap.size:=λb O=>a7.2.2.2.1.two.lt O;have aE:∀b,(Value.slice av bi ba).ownBlock=some b->(Value.slice bq on b6).ownBlock≠some b:=a7.2.2.2.1.ne;have cF:X.heap.size<U.heap.size:=b1.lt;have aY:wr.heap.size<=X.heap.size:=aQ.2.2.2.2;have b3:Sl U (λb=>wr.heap.size<=b/\b<X.heap.size) IA i (r.idx.toList.map bk):=aQ.2.2.2.1.ak λb O=>cl.block b O.2 λh=>h;have hD:(bg (.lock false r)).rep U (lu (λb=>(B<=b/\(Value.slice av bi ba).ownBlock≠some b)/\b≠S.heap.size) U (.slice bq on b6)) [.int .i64 5,.string ⟨#[]⟩,.int .i64 0,.int .i64 0,.string ⟨#[]⟩,.slice none 0 0,.string r.name,.slice IA i ic,.slice none 0 0,.slice none 0 0,.slice none 0 0]:=by
  refine eC l5 (jw.2 ⟨IA,i,ic,rfl,aW.2.2.2.2.1,b3.mono λb O=>⟨⟨⟨by have:=O.1;omega,λh=>by have:=j b h;have:=O.1;omega⟩,by have:=O.1;omega⟩,by have:=O.2;omega,λh=>by have:=(m b h).2;have:=O.1;omega⟩⟩) (Sl.bN _) (KD _) (Sl.bN _) (KD _) (Sl.bN _) (KD _)
 have cz:=o5 bB (aQ.2.1.ai cl) (aQ.2.2.1.ai cl) b1 ca a5 b3 hD;have bp:=aD j m aE;have b2:B<=U.heap.size:=ad;have ag:B<=X.heap.size:=ad;clear hU cl b1 bB ca a5 b3 hD j m aE d0 aL aM;obtain⟨d0,aL,aM⟩:=cz.2.1.two;obtain⟨a8,am,aF⟩:=cz.2.2.1.two;go_upto_region 12 with(at_builtin;refine bP oy rfl (.tmp 59) (.tmp 61) rfl cz.2.2.2.2.1 cz.2.2.2.2.2.2.2 rfl rfl rfl ad ad b2 ?_;intro b8 bo bX bF az al ci;have bf:=aD bF az al;clear bF az al ci d0 aL aM);obtain⟨eN,ao,bI⟩:=bf.o;obtain⟨j,m,aE⟩:=bp.o;have cq:aw.heap.size<B:=ad;have bA:¬(Value.slice bq on b6).ownBlock=some X.heap.size:=λh=>by have:=(m _ h).2;omega
 have a9:¬(Value.slice bq on b6).ownBlock=some S.heap.size:=λh=>by have:=(m _ h).2;omega
 have Z:¬(Value.slice bq on b6).ownBlock=some bZ:=λh=>by have:=(m _ h).1;omega
 have bh:ov ⟨s,wb,sA,bV,bC,sl,GA,gn,gc,MA,mn,mc,FA,fn,fc,M,F,ar⟩ aw bX L:=(ov.mk cz.1.src cz.1.blk (bl.2.2.trans cz.1.fr) cz.1.le).fresh bl.1 ao λb O=>by have:=(m b O).1;omega
 have bN:=cz.2.2.2.2.2.1.dj ao.size λb ak hp=>ao.block b ak (hp.elim (λh=>h.elim) λhp=>aE b hp);have e2:Sl bX (λb=>wr.heap.size<=b/\b<X.heap.size) IA i (r.idx.toList.map bk):=cz.2.2.2.2.2.2.1.ak λb O=>ao.block b (aC O.2) λh=>by have:=(m b h).2;have:=O.1;omega
 have bW:=hP bh (cz.2.1.on ao a9) (cz.2.2.1.on ao Z) (cz.2.2.2.1.on ao bA) eN bN e2;have ab:∀b,(Value.slice b8 (on+1) bo).ownBlock=some b->(B<=b/\b<S.heap.size/\(Value.slice bq on b6).ownBlock=some b)\/U.heap.size<=b:=λb O=>(bI b O).imp (λh=>⟨(m b h).1,(m b h).2,h⟩) id;have a6:=ah ab ao.size;clear eN ao bI j m aE bA a9 Z bh bN e2 ab cz bf a8 am aF;obtain⟨a8,am,aF⟩:=bW.2.2.1.two;have hh:Sl bX (off (λb=>b=s\/b=wb) bX) av bi (aH.map D.s):=bW.2.2.2.2.2.1.sl (λ_ _ h=>h.elim) (λb O aR=>⟨O,λh=>ad⟩);go_wp2_with(fail);refine(cc.2.2 L ad 0 2 aH (T++decls ls) av bi ba aZ ps QA cg qc bx bX ad ad (bW.1.wr bl.1) hh ad (λk ap=>cc.2.1 k ad) (Sl.c8 bl.2.1 bW.1.fr) bv).mono ?_;rintro e cL ⟨R,bJ,cB,aO,bL,rfl,aB,dB,cp,cb,aa⟩
 try simp only at aa
 clear a8 am aF hh;have bd:=aB.le;have cm:L<=24:=bW.1.le;have cA:aO<=48:=by
  have ac:=aB.num;have au:=tP R;have aU:=cp.1;simp only[KH] at aU;omega
 have ab:=a6.1;have cD:=a6.2;have P:∀b,(b=s\/b=wb)->b<aw.heap.size:=λb O=>by
  have ac:=bl.1.src.lt;have au:=bl.1.blk.lt;simp only at ac au;rcases O with O|O<;>omega
 have cq:aw.heap.size<B:=ad;have ce:=bW.2.2.2.2.1.c8 aa λb O hl=>⟨λh=>by have:=P b O;have:=h.1.1;omega,by have:=P b O;omega⟩
 have bR:=bW.2.2.2.2.2.1.c8 aa λb O hl=>⟨λh=>h,by have:=P b O;omega⟩
 have cf:Sl cL (λb=>wr.heap.size<=b/\b<X.heap.size) IA i (r.idx.toList.map bk):=bW.2.2.2.2.2.2.ak λb O=>aa.block b (aC O.2) λh=>by have:=P b h;have:=O.1;omega
 have cr:=bp.1;have bj:Sl cL (lu (λb=>(B<=b/\(Value.slice av bi ba).ownBlock≠some b)/\b≠S.heap.size) cL (.slice b8 (on+1) bo)) cB aO (R.map bg):=cp.mono λb O=>⟨⟨⟨by have:=O.1;omega,λh=>by have:=cr b h;have:=O.1;omega⟩,by have:=O.1;omega⟩,O.2,λh=>by
  have ac:=O.1;rcases ab b h with au|au
  .omega
  .have:=(bW.2.2.2.2.1.lt h).2;omega⟩
 have bY:=w6 (bW.1.Hp cb aa) (bW.2.1.on aa λh=>by have:=P _ h;omega) (bW.2.2.1.on aa λh=>by have:=P _ h;omega) (bW.2.2.2.1.on aa λh=>by have:=P _ h;omega) ce bR cf bj aB;have bt:∀d∈R.map bg,d.sz=11:=λd hd=>by obtain⟨x,_,rfl⟩:=Lc.1 hd;exact vG x
 have cd:B<=cL.heap.size:=by have:=aa.size;omega
 have aI:U.heap.size<=cL.heap.size:=by have:=aa.size;omega
 clear aB dB cp cb aa ce bR cf bj bW ab cr;go_upto_region 13 with(at_builtin;refine wW oy rfl (.tmp 63) (.tmp 67) rfl bY.2.2.2.2.1 bY.2.2.2.2.2.2.2.1 bt rfl rfl ad ad cd ?_;intro co bM c7 bF az al ci;have dv:=aD bF az al;clear bF az al ci);obtain⟨bm,aJ,bn⟩:=dv.o;have ab:=a6.1;obtain⟨j,m,aE⟩:=bp.o;have a1:∀b,(Value.slice av bi ba).ownBlock=some b->(Value.slice b8 (on+1) bo).ownBlock≠some b:=λb O h=>by
  rcases ab b h with au|au
  .exact aE b O au.2.2
  .have:=j b O;omega
 have bA:¬(Value.slice b8 (on+1) bo).ownBlock=some X.heap.size:=λh=>by rcases ab _ h with au|au<;>omega
 have a9:¬(Value.slice b8 (on+1) bo).ownBlock=some S.heap.size:=λh=>by rcases ab _ h with au|au<;>omega
 have Z:¬(Value.slice b8 (on+1) bo).ownBlock=some bZ:=λh=>by rcases ab _ h with au|au<;>omega
 have b9:=bY.1.fresh bl.1 aJ λb O=>by rcases ab _ O with au|au<;>omega
 have bU:=bY.2.2.2.2.2.1.dj aJ.size λb ak hp=>aJ.block b ak (hp.elim (λh=>h.elim) λhp=>a1 b hp);have ch:Sl c7 (λb=>wr.heap.size<=b/\b<X.heap.size) IA i (r.idx.toList.map bk):=bY.2.2.2.2.2.2.1.ak λb O=>aJ.block b (aC O.2) λh=>by have ac:=O.1;have aU:=O.2;rcases ab _ h with au|au<;>omega
 have z:=hP b9 (bY.2.1.on aJ a9) (bY.2.2.1.on aJ Z) (bY.2.2.2.1.on aJ bA) bm bU ch;have aS:∀b,(Value.slice co (on+1+aO) bM).ownBlock=some b->(B<=b/\b<S.heap.size/\(Value.slice bq on b6).ownBlock=some b)\/U.heap.size<=b:=λb O=>by
  rcases bn b O with ac|ac
  .exact ab b ac
  .exact .inr ad
 have ck:=ae aS;clear bm aJ bn ab j m aE a1 bA a9 Z b9 bU ch aS dv;obtain⟨d0,aL,aM⟩:=z.2.1.two;obtain⟨bs,aV,bu⟩:=z.2.2.2.1.two;go_wp2_with(fail);generalize ct:World.setCell _ _ _=Y;have b5:aw.heap.size<=S.heap.size:=bl.2.2.size;obtain⟨bE,bG,bH⟩:=dU (M:=λb=>b=s\/b=wb) (w:=aw) [.int .i64 6,.string ⟨#[]⟩,.int .i64 0,.int .i64 0,.string ⟨#[]⟩,.slice none 0 0,.string r.name,.slice IA i ic,.slice none 0 0,.slice none 0 0,.slice none 0 0] (by rfl) z.2.1 z.1.fr b5 ct;have j:=bp.1;have aS:=ck.o;have ry:=z.2.2.2.2.2.1;have c8:=z.2.2.2.2.1;have aB:=bY.2.2.2.2.2.2.2.2;have cx:Sl Y (λb=>wr.heap.size<=b/\b<X.heap.size) IA i (r.idx.toList.map bk):=z.2.2.2.2.2.2.ak λb O=>bH.block b (lK O.2 z.2.2.2.1.lt) (aC O.1);have cE:c7.heap.size<=Y.heap.size:=bH.size;have cC:X.heap.size<c7.heap.size:=z.2.2.2.1.lt
 try refine hN _ _ ?_
 unfold lE;refine⟨av,bi,ba,co,on+1+aO,bM,?_⟩
 iterate 240 apply Exists.intro
 refine⟨?_,rfl⟩;refine⟨aH,.lock false r::R,.lock true r,bJ,_,z.1.fresh bl.1 bH (λb O=>ad),z.2.2.1.on bH ad,⟨?_,?_,λb O h=>?_⟩,bE,?_,EV aW.2.2.2.1 cc.1 aB.wf,?_,?_,bd,?_,ad,ad⟩
 .exact Gr.strs (ry.dj bH.size λb ak hp=>bH.block b ak (hp.elim (λh=>h.elim) λhp=>by have:=j b hp;omega))
 .have ac:=(c8.dj bH.size λb ak hp=>bH.block b ak (by
   rcases hp with hp|hp
   .exact hp.2
   .rcases aS b hp with au|au<;>omega)).mono λb _ hp=>hp.1
  have he:(ls++(aA.lock false r::R)).map bg=(ls.map bg++[bg (.lock false r)])++R.map bg:=by simp
  rw[he];exact ac
 .rcases aS b h with au|au
  .exact bp.2.2 b O au.2.2
  .have:=j b O;omega
 .exact eC l5 (jw.2 ⟨IA,i,ic,rfl,aW.2.2.2.2.1,cx.mono λb O=>⟨⟨by have:=O.1;omega,λh=>by have:=j b h;have:=O.1;omega⟩,by have:=O.2;omega,λh=>by have ac:=O.1;have aU:=O.2;rcases aS b h with au|au<;>omega⟩⟩) (Sl.bN _) (KD _) (Sl.bN _) (KD _) (Sl.bN _) (KD _)
 .intro n hn;rw[KS,all_cons,xi,all_cons] at hn;simp only[aA.all,an.eM,an.all,Le,Ld] at hn;obtain⟨k,ac,au,aU⟩:=aB.all n hn;exact⟨k,ac,ad,aU⟩
 .rw[KS,kC,xG,sS];have:=aB.num;simp only[aA.num];omega
 .intro y bb;have:=cc.1 bb;exact zE
 ):p:=h
end By
open By in
theorem xQ(k:Int)(d bi:Nat)(h:k=8/\bi=0\/k=11/\d=0\/k=12/\d=0\/k=13):SK k d bi:=by
 rcases h with⟨rfl,bD⟩|⟨rfl,bw⟩|⟨rfl,bw⟩|rfl
 all_goals
  exact lG
namespace Bz
theorem pe(h:p:=by
 have b2:=bY.o;subst b2;exact gZ.simple (st:=.call bb g.name a1) ⟨s,wb,sA,bV,bC,sl,GA,gn,gc,MA,mn,mc,_,fn,fc,M,F,ar⟩ bZ B bO bT d ps V T ls N L aw aZ QA cg qc bx a7.1 cI b0 a7.2.2.2.1 cc.1 bK c2 aR (an.fresh a7.1 J λb O=>ad) br (eC l5 kF ((b8.ak λb O=>J.block b O.2 (aC O.1)).mono λb O=>⟨by have:=O.1;omega,by have:=O.2;omega⟩) aO (Sl.bN _) (KD _) (Sl.bN _) (KD _)) ⟨g.params,Lc.2 ⟨g,bX.o,rfl⟩,nG cc.1 _ _ (a4 _)⟩ (λn hn=>by simp[aA.all] at hn) (by simp only[aA.num];omega) (KD _) bl.2.2 a7.2.1
 ):p:=h
theorem se(h:p:=by
 refine aE ?_;generalize bB:World.setCell _ _ _=Y;have J:=EM bB;have br:aq Y S.heap.size 174 #[.int .i64 bE,.string g.name,.int .i64 0,.int .i64 0,.string ⟨#[]⟩,.slice none 0 0,.string ⟨#[]⟩,.slice none 0 0,.slice KA k kc,.slice none 0 0,.slice none 0 0]:=bB▸(aW.2.1.aM 1 _).aM 8 _;clear bB d0 aL aM;go_wp2_with(fail);obtain⟨an,_,a4,aO,b8,bN⟩:=aW.o;have bB:=J.size;exact pd
 ):p:=h
theorem eQ(h:p:=by
 refine b3 ?_;generalize bI:World.setCell _ _ _=Z;obtain⟨bh,a9,bd⟩:=dU (M:=λb=>b=s) [.string g.name,.slice bR bn bP,.slice H bg I] (by rfl) bF aj gr bI;have b4:S.heap.size<X.heap.size:=aQ.2.1.lt;have cf:s<X.heap.size:=ad;have bU:cm Z s sA bV bC sl:=ay.cO bd λb O h=>ad;have bw:=aQ.1.next be bU a9;have bf:=cS bw (aQ.2.1.on a9 ad) (aQ.2.2.1.on a9 ad) bh bD co;have ca:¬az=s:=ad;have bm:=a9.size;clear bI bh a9 bd bU bw bD co aj ay bF bs aV bu;obtain⟨a8,am,aF⟩:=bf.2.2.1.two;obtain⟨bs,aV,bu⟩:=bf.2.2.2.1.two;have b9:¬bZ=s:=ad;have bH:bn<=2:=by
  have ac:=bf.2.2.2.2.2.1;have au:=bA g bf.2.2.2.2.1;simp at ac;omega
 go_upto_region 28 with(fail);refine eK (λb=>b=s) [(0,3),(1,0),(2,3),(3,0),(4,0),(5,3),(7,3),(6,1),(8,2),(9,3),(10,2)] ?_;refine pf ?_;refine oq ?_;refine pf ?_
 iterate 2 refine oq ?_
 iterate 2 refine pf ?_
 refine aI rfl (λK hK=>?_);go_simp;refine(yI ⟨s,wb,sA,bV,bC,sl,GA,gn,gc,MA,mn,mc,_,fn,fc,M,F,ar⟩ L aH av bi ba aZ ps QA cg qc bx g.name g.params bR bn bP (.slice H bg I) Z.drew ((bf.1.ai be Ll.drew).wr a7.1) ((Sl.c8 a7.2.2.2.2.1 (bf.1.ai be Ll.drew).fr).mono λb O=>⟨O.1,λh=>O.2 (.inl h)⟩) ad ((Sl.c8 a7.2.2.1 (bf.1.ai be Ll.drew).fr).mono λb O=>⟨O.1,λh=>O.2 (.inl h)⟩) bv ((Sl.c8 bf.2.2.2.2.2 (bf.1.ai be Ll.drew).fr).mono λb O=>⟨O.1,λh=>O.2 (.inl h)⟩) bH).mono ?_;rintro e aT ⟨a1,KA,k,kc,rfl,a4,aO,b8,ay,aj⟩;simp only at a4 ay aj;have U:Fr (λb=>b=s) Z aT:=Fr.aF aj;have l:=bf.2.1.on U ad;have aW:=cS (bf.1.next be ay U) l a4 aO b8 U.size;have bX:=ae bf.2.2.2.2.1;have b5:X.heap.size<=Z.drew.heap.size:=bm;refine dz hK (aj) ?_;clear hK K;clear a8 am aF bs aV bu aj ay b8 aO a4 U;obtain⟨d0,aL,aM⟩:=l.two;clear l;exact sd
 ):p:=h
theorem lH(h:p:=by
 have bJ:=a7.1.nf;have bA:=a7.1.jy;simp only at bJ bA;have c3:¬wb=s:=ad;obtain⟨ch,c5,bo,_⟩:=a7.1.fs.some_ bJ.1;simp only at bo;subst bo;go_upto_region 27 with(fail);generalize hX:World.setCell _ _ _=X;have J:Fr (λb=>b=S.heap.size) wr X:=by rw[<-hX];first|exact(Fr.refl (λb=>b=S.heap.size) wr).setCell (.inl rfl) _|exact((Fr.refl (λb=>b=S.heap.size) wr).setCell (.inl rfl) _).setCell (.inl rfl) _
 have bz:aq X S.heap.size 174 #[.int .i64 bE,.string ⟨#[]⟩,.int .i64 0,.int .i64 0,.string ⟨#[]⟩,.slice none 0 0,.string ⟨#[]⟩,.slice none 0 0,.slice none 0 0,.slice none 0 0,.slice none 0 0]:=by rw[<-hX,aK.o];first|exact(bQ.2.2.aM 0 _)|exact(bQ.2.2.aM 0 _).aM 0 _
 have ab:=bQ.1.fresh a7.1 J λb O=>ad;have bp:=bQ.2.1.on J ad;have aQ:=bL ab bz bp J.size;clear hX a0 ai af a8 am aF d0 aL aM J bz ab bp;obtain⟨a0,ai,af⟩:=aQ.1.blk.two;refine qY (λb=>b=s) [19] (.free 0 (.free 1 (.free 2 (.free 3 (.held 4 (.free 5 (.free 6 (.free 7 (.held 8 (.free 9 (.free 10 (.free 11 (.free 12 (.held 13 (.free 14 (.pick [15,18] (λi=>bif i == 15 then .free 16 (.held 17 (.pick [18] (λ_=>.pick [19] (λ_=>.stop)))) else .pick [15] (λ_=>.free 16 (.held 17 (.pick [19] (λ_=>.stop))))))))))))))))))))) ?_
 iterate 4 refine tf ?_
 refine mU ?_
 iterate 3 refine tf ?_
 refine mU ?_
 iterate 4 refine tf ?_
 refine mU ?_;refine tf ?_;clear a0 ai af;refine gV (P:=?_) (ops:=?_) (Q:=?_) (R:=?_) (tails:=?_) (rest:=.pick [19] (λ_=>.stop)) (aa:=?_)
  (C:=λ(az:Nat) (j:Nat) (ap:Value) eN=>Fr (λb=>b=s) X eN/\cm eN s sA bV bC sl/\aq eN az 136 #[.string ⟨#[]⟩,.slice none 0 0,.slice none 0 0]/\X.heap.size<=az/\∃(g:aJ) (bR:Lp) (bn bP:Nat) (H:Lp) (bg I:Nat),ap=.agg #[.string g.name,.slice bR bn bP,.slice H bg I]/\g∈F/\Sl S (off (λb=>b=s\/b=wb) S) bR bn (g.params.map ds)) (λkey=>?_) ?_
 rotate_left 6
 ·
  refine aY ?_ ?_
  ·
   refine aB rfl (λK hK=>?_) rfl;go_simp;refine(a2 X.drew s sA bV bC sl fn (aQ.1.ai be Ll.drew).src ad ad).mono ?_;rintro e aS ⟨cv,rfl,a3,bS,h,he⟩;obtain⟨j,rfl⟩:=KI a3;have aU:j<fn:=ad;have aj:Fr (λb=>b=s) X aS:=Fr.aF he.fr;have y:Fr (λb=>b=s\/b=wb) S aS:=aQ.1.fr.trans (aj.mono λ_ h=>.inl h);refine dz hK (he.fr) ?_;clear hK K;obtain⟨bt,b1,g,cs,m,cw,r,aP,bj,hc⟩:=Sl.g0 (z:=3) a7.1.fs (λ_=>rfl) (k:=j) (by simpa using aU);injection m with m;injection m with hFA1 hFA2;subst hFA1 hFA2;obtain⟨bR,bn,bP,H,bg,I,rfl,bG,co⟩:=D7 aP;have e0:=(y.cell cw.1 cw.2).trans (hc 0 _ rfl);have e1:=(y.cell cw.1 cw.2).trans (hc 1 _ rfl);have e2:=(y.cell cw.1 cw.2).trans (hc 2 _ rfl);simp only[KN] at e0;have cd:ch<aS.heap.size:=by have:=y.size;have:=cw.1;omega
   have bW:¬ch=s:=λh=>cw.2 (.inl h);have dH:(0:Int)<=(j:Int):=ad;have dL:(j:Int)<(fn:Int):=ad;have bk:=KG r;skip
   refine tf ?_;refine JN ?_;refine ao ?_;refine dP ?_;generalize bI:World.alloc _ _=Z;have e3:=aX bI;have ag:Fr (λb=>b=s) X Z/\cm Z s sA bV bC sl/\aq Z aS.heap.size 136 #[.string ⟨#[]⟩,.slice none 0 0,.slice none 0 0]/\X.heap.size<=aS.heap.size/\∃(ah:aJ) (al:Lp) (G a6:Nat) (ak:Lp) (a5 aN:Nat),(Value.agg #[.string g.name,.slice bR bn bP,.slice H bg I])=.agg #[.string ah.name,.slice al G a6,.slice ak a5 aN]/\ah∈F/\Sl S (off (λb=>b=s\/b=wb) S) al G (ah.params.map ds):=
    ⟨aj.trans (e3.mono λ_ h=>h.elim),h.cO e3 λ_ _ h=>h,by rw[<-bI];exact Lm,aj.size,g,bR,bn,bP,_,_,_,rfl,bk,co⟩
   clear bI e3 co aP bj hc e0 e1 e2;revert ag;generalize aS.heap.size=az;generalize (Value.agg #[.string g.name,.slice bR bn bP,.slice H bg I])=ap;intro ag;exact key az j ap _ ag
  ·
   refine dP ?_;generalize hV:World.drew (World.alloc _ _)=cC;have e1:=gG hV;have cE:=kp hV;have cp:=cE.lt;refine ao ?_;refine aB rfl (λK hK=>?_) rfl;go_simp;refine(a2 cC s sA bV bC sl fn (aQ.1.ai be e1).src ad ad).mono ?_;rintro e aS ⟨cv,rfl,a3,bS,h,he⟩;obtain⟨j,rfl⟩:=KI a3;have aU:j<fn:=ad;have aj:Fr (λb=>b=s) X aS:=(e1.mono λ_ h=>h.elim).trans he.fr;have y:Fr (λb=>b=s\/b=wb) S aS:=aQ.1.fr.trans (aj.mono λ_ h=>.inl h);have dJ:s<X.heap.size:=by have:=aQ.2.2.2;omega
   refine dz hK (he.fr) ?_;clear hK K;obtain⟨bt,b1,g,cs,m,cw,r,aP,bj,hc⟩:=Sl.g0 (z:=3) a7.1.fs (λ_=>rfl) (k:=j) (by simpa using aU);injection m with m;injection m with hFA1 hFA2;subst hFA1 hFA2;obtain⟨bR,bn,bP,H,bg,I,rfl,bG,co⟩:=D7 aP;have e0:=(y.cell cw.1 cw.2).trans (hc 0 _ rfl);have e1:=(y.cell cw.1 cw.2).trans (hc 1 _ rfl);have e2:=(y.cell cw.1 cw.2).trans (hc 2 _ rfl);simp only[KN] at e0;have cd:ch<aS.heap.size:=by have:=y.size;have:=cw.1;omega
   have bW:¬ch=s:=λh=>cw.2 (.inl h);have dH:(0:Int)<=(j:Int):=ad;have dL:(j:Int)<(fn:Int):=ad;have bk:=KG r;skip
   refine tf ?_;refine JN ?_;have ag:Fr (λb=>b=s) X aS/\cm aS s sA bV bC sl/\aq aS X.heap.size 136 #[.string ⟨#[]⟩,.slice none 0 0,.slice none 0 0]/\X.heap.size<=X.heap.size/\∃(ah:aJ) (al:Lp) (G a6:Nat) (ak:Lp) (a5 aN:Nat),(Value.agg #[.string g.name,.slice bR bn bP,.slice H bg I])=.agg #[.string ah.name,.slice al G a6,.slice ak a5 aN]/\ah∈F/\Sl S (off (λb=>b=s\/b=wb) S) al G (ah.params.map ds):=
    ⟨aj,h,cE.on he.fr ad,KD _,g,bR,bn,bP,_,_,_,rfl,bk,co⟩
   clear hV co aP bj hc e0 e1 e2;revert ag;generalize (Value.agg #[.string g.name,.slice bR bn bP,.slice H bg I])=ap;intro ag;exact key X.heap.size j ap _ ag
 ·
  rintro az j ap eN ⟨aj,ay,bF,gr,g,bR,bn,bP,H,bg,I,rfl,bD,co⟩;obtain⟨bs,aV,bu⟩:=bF.two;exact fj
 ):p:=h
end Bz
open Bz in
theorem Em(bb:Bool)(k:Int)(d bi:Nat)(h:bb=false/\k=9\/bb=true/\k=10):SK k d bi:=by
 obtain⟨bE,aD⟩:∃bE:Int,bE=if bb then 4 else 3:=⟨_,rfl⟩
 have bY:=ae aD;rcases h with⟨O,rfl⟩|⟨O,rfl⟩
 all_goals
  rw[O] at aD;have aK:=ae aD;clear aD O;exact lG
namespace BA
theorem pe(h:p:=by
 exact gZ.simple (st:=.ite x (.eM R) .nil) ⟨s,wb,sA,bV,bC,sl,GA,gn,gc,MA,mn,mc,FA,fn,fc,M,F,ar⟩ bZ B bO bT d ps V T ls N L aw aZ QA cg qc bx a7.1 cI b0 a7.2.2.2.1 cc.1 bK c2 aR bW.1 br (eC (a1.2 ⟨cA,cj,cF,rfl,aW.2.2.2.1,bW.2.2.2.1⟩) kF (Sl.bN _) (KD _) bW.2.2.2.2 bo.2.2.2.1 (Sl.bN _) (KD _)) ⟨i,j.1,dK cc.1 2 x aW.2.2.1,(dd _ i i aH _ _ _ cc.1 (λ_ _ h=>h) (KD _) bo.2.2.1.wf),mY⟩ (λn hn=>by simp only[aA.all,an.all,Ld] at hn;obtain⟨k,ac,au,aU⟩:=bo.2.2.1.all n hn;exact⟨k,ac,ad,aU⟩) (by simp only[aA.num,an.num];omega) dD bl.2.2 a7.2.1
 ):p:=h
theorem zL(h:p:=by
 obtain⟨a0,ai,af⟩:=aQ.1.blk.two;go_wp2_with(fail);refine(a2 X s sA bV bC sl 2 aQ.1.src ad ad).mono ?_;rintro e bX ⟨cv,rfl,a3,bS,h,he⟩;have aj:=he.fr;have dJ:s<X.heap.size:=aQ.1.src.lt;have bh:=aQ.1.next be h aj;have bD:=aQ.2.1.on aj ad;have bW:=cK bh bD (aQ.2.2.1.on aj W) (aQ.2.2.2.1.Dy aj λb O=>ad) (aQ.2.2.2.2.Dy aj λb O=>ad);have bt:S.heap.size<bX.heap.size:=bD.lt;have bf:=ah aj.size (λb (ac:b<X.heap.size) (au:¬b=s)=>aj.block b ac au);clear a0 ai af h he aj bh a3 bS bD;have al:=bo.2.2.1.num;by_cases ap:cv=1
 case neg=>
  have q:(cv == 1)=false:=by simpa using ap
  clear ap;go_wp2_with(fail);have br:=bW.2.1;exact pd
 case pos=>
  have q:(cv == 1)=true:=by simpa using ap
  clear ap;obtain⟨a8,am,aF⟩:=bW.2.2.1.two;go_wp2_with(fail)
  first
   | rw[j.2,show IntKind.i64.wrap ((i:Nat):Int)=((i:Nat):Int) from IntWalk.i64_in _ ad]
   | rw[j.2]
  refine(cc.2.2 bJ ad i 3 aH (T++decls ls) av bi ba aZ ps QA cg qc bx bX ad ad (bW.1.wr a7.1) (Sl.c8 a7.2.2.2.2.1 bW.1.fr) ad (λk ap=>cc.2.1 k ad) (Sl.c8 a7.2.2.1 bW.1.fr) bv).mono ?_;rintro e cL ⟨t,a6,az,bb,bm,rfl,ck,ci,bN,aK,P⟩;have u:¬(S.heap.size=s\/S.heap.size=wb):=ad;have z:=bW.2.1.on P u;have b1:a6<=bJ:=ck.le;have bU:=cS (bW.1.Hp aK P) z ck ci bN P;clear ck ci bN aK P a8 am aF;obtain⟨d0,aL,aM⟩:=z.two;clear z;go_wp2_with(fail);generalize ct:World.setCell _ _ _=Y;have J:=cJ ct;have br:aq Y S.heap.size 174 #[.int .i64 7,.string ⟨#[]⟩,.int .i64 x.a9,.int .i64 x.numOf,.string x.bu,.slice cA cj cF,.string ⟨#[]⟩,.slice none 0 0,.slice none 0 0,.slice m aO bL,.slice az bb bm]:=ct▸bU.2.1.aM 10 _;clear ct d0 aL aM;have aa:=bU.2.2.2.2.2;have bd:=bU.2.2.1.num;have ag:∀b,S.heap.size<=b->¬(b=s\/b=wb):=λb O h=>ad;have a9:Sl X (λb=>S.heap.size<b/\b<X.heap.size) cA cj (x.args.map bk):=ao.1;have aX:Sl X (λb=>S.heap.size<b/\b<X.heap.size) m aO (c4 (.eM R)):=ao.2;have bn:∀b,S.heap.size<b->b<X.heap.size->Y.heap[b]?=X.heap[b]?:=λb ac au=>(J.block b (lK bf.1 aa.size) ad).trans ((aa.block b (aC bf.1) (ag b ad)).trans (bf.2 b au ad));have H:X.heap.size<=Y.heap.size:=by have:=bf.1;have:=aa.size;have:=J.size;omega
  have bj:Sl Y (fresh S Y) cA cj (x.args.map bk):=(a9.ak λb O=>bn b O.1 O.2).mono λb O=>⟨by have:=O.1;omega,by have:=O.2;omega⟩
  have bg:Sl Y (fresh S Y) m aO (c4 (.eM R)):=(aX.ak λb O=>bn b O.1 O.2).mono λb O=>⟨by have:=O.1;omega,by have:=O.2;omega⟩
  have aV:Sl Y (fresh S Y) az bb (c4 (.eM t)):=by
   rw[mr];exact(bU.2.2.2.2.1.ak λb O=>J.block b O.2 (aC O.1)).mono λb O=>⟨by have:=O.1;omega,by have:=O.2;have:=J.size;omega⟩
  try refine hN _ _ ?_
  unfold lE;refine⟨av,bi,ba,bq,on,b6,?_⟩
  iterate 240 apply Exists.intro
  refine⟨?_,rfl⟩;exact gZ.simple (st:=.ite x (.eM R) (.eM t)) ⟨s,wb,sA,bV,bC,sl,GA,gn,gc,MA,mn,mc,FA,fn,fc,M,F,ar⟩ bZ B bO bT d ps V T ls N L aw aZ QA cg qc bx a7.1 cI b0 a7.2.2.2.1 cc.1 bK c2 aR (bU.1.fresh a7.1 J λb O=>ad) br (eC (a1.2 ⟨cA,cj,cF,rfl,aW.2.2.2.1,bj⟩) kF (Sl.bN _) (KD _) bg bo.2.2.2.1 aV bU.2.2.2.1) ⟨i,j.1,dK cc.1 2 x aW.2.2.1,(dd _ i i aH _ _ _ cc.1 (λ_ _ h=>h) (KD _) bo.2.2.1.wf),(dd _ i i aH _ _ _ cc.1 (λ_ _ h=>h) (KD _) bU.2.2.1.wf)⟩ (λn hn=>by simp only[aA.all] at hn;exact(KM.1 hn).elim (λhn=>by obtain⟨k,ac,au,aU⟩:=bo.2.2.1.all n hn;exact⟨k,ad,ad,aU⟩) (λhn=>by obtain⟨k,ac,au,aU⟩:=bU.2.2.1.all n hn;exact⟨k,ac,ad,aU⟩)) (by simp only[aA.num];omega) ad bl.2.2 a7.2.1
 ):p:=h
theorem zH(h:p:=by
 have bz:aq X S.heap.size 174 #[.int .i64 7,.string ⟨#[]⟩,.int .i64 x.a9,.int .i64 x.numOf,.string x.bu,.slice cA cj cF,.string ⟨#[]⟩,.slice none 0 0,.slice none 0 0,.slice m aO bL,.slice none 0 0]:=hX▸(((((bo.2.1.aM 0 _).aM 2 _).aM 3 _).aM 4 _).aM 5 _).aM 9 _;exact zK
 ):p:=h
theorem AA(h:p:=by
 go_upto_region 30 with(fail);exact A1
 ):p:=h
theorem lH(h:p:=by
 exact Az
 ):p:=h
end BA
open BA in
theorem IG(d bi:Nat)(bw:0<d):SK 11 d bi:=by
 exact lG
namespace BB
theorem pe(h:p:=by
 exact gZ.simple (st:=.gv x (.eM R)) ⟨s,wb,sA,bV,bC,sl,GA,gn,gc,MA,mn,mc,FA,fn,fc,M,F,ar⟩ bZ B bO bT d ps V T ls N L aw aZ QA cg qc bx a7.1 cI b0 a7.2.2.2.1 cc.1 bK c2 aR aQ.1 br (eC (a1.2 ⟨cA,cj,cF,rfl,aW.2.2.2.1,aQ.2.2.2.1⟩) kF (Sl.bN _) (KD _) aQ.2.2.2.2 bo.2.2.2.1 (Sl.bN _) (KD _)) ⟨i,j.1,dK cc.1 2 x aW.2.2.1,(dd _ i i aH _ _ _ cc.1 (λ_ _ h=>h) (KD _) bo.2.2.1.wf)⟩ (λn hn=>by obtain⟨k,ac,au,aU⟩:=bo.2.2.1.all n hn;exact⟨k,ac,ad,aU⟩) (by simp only[aA.num];omega) dD bl.2.2 a7.2.1
 ):p:=h
theorem zL(h:p:=by
 go_wp2_with(fail);have al:=bo.2.2.1.num;have br:=aQ.2.1;exact pd
 ):p:=h
theorem zH(h:p:=by
 have bz:aq X S.heap.size 174 #[.int .i64 8,.string ⟨#[]⟩,.int .i64 x.a9,.int .i64 x.numOf,.string x.bu,.slice cA cj cF,.string ⟨#[]⟩,.slice none 0 0,.slice none 0 0,.slice m aO bL,.slice none 0 0]:=hX▸(((((bo.2.1.aM 0 _).aM 2 _).aM 3 _).aM 4 _).aM 5 _).aM 9 _;exact zK
 ):p:=h
theorem AA(h:p:=by
 go_upto_region 34 with(fail);exact A1
 ):p:=h
theorem lH(h:p:=by
 exact Az
 ):p:=h
end BB
open BB in
theorem IH(d bi:Nat)(bw:0<d):SK 12 d bi:=by
 exact lG
theorem IF(cv:Int)(bz:0<=cv)(ay:cv<14)(d bi:Nat):SK cv d bi:=by
 by_cases bE:cv<4
 .exact Eo false cv d bi (.inl ⟨rfl,bE⟩)
 by_cases j:cv<7
 .exact Eo true cv d bi (.inr ⟨rfl,bE,j⟩)
 have ap:cv=7\/cv=8\/cv=9\/cv=10\/cv=11\/cv=12\/cv=13:=ad;rcases ap with rfl|rfl|rfl|rfl|rfl|rfl|rfl
 .exact HB d bi
 .by_cases bI:0<bi
  .exact Hz d bi ad
  .exact xQ 8 d bi ad
 .exact Em false 9 d bi (by simp)
 .exact Em true 10 d bi (by simp)
 .by_cases hd:0<d
  .exact IG d bi ad
  .exact xQ 11 d bi ad
 .by_cases hd:0<d
  .exact IH d bi ad
  .exact xQ 12 d bi ad
 .exact xQ 13 d bi ad
end Go.Proofs.YtglbpimocmhojaaGreat

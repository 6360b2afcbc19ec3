/- Part 39 of the proof. No condition of its own. -/
import Derived.Test.YtflecliffjbleaaGreatS38
namespace Go.Proofs.YtflecliffjbleaaGreat
open Go.RowKit Go.Proofs.Tryz
set_option maxRecDepth 1000000
set_option maxHeartbeats 25600000
set_option linter.unusedVariables false
variable{p:Prop}
namespace CW
theorem dd(h:p:=by
 generalize hX:World.setCell _ _ _=X;have J:Fr (λb=>b=S.heap.size) aW X:=hX▸((((((Fr.refl (λb=>b=S.heap.size) aW).setCell (.inl rfl) _).setCell (.inl rfl) _).setCell (.inl rfl) _).setCell (.inl rfl) _).setCell (.inl rfl) _).setCell (.inl rfl) _;have bs:ao X S.heap.size 188 #[.int .i64 2,.string nm,.int .i64 x.a2,.int .i64 x.numOf,.string x.bt,.slice cr cd cC,.string ⟨#[]⟩,.slice none 0 0,.slice none 0 0,.slice none 0 0,.slice none 0 0]:=hX▸(((((a2.2.1.aJ 0 _).aJ 1 _).aJ 2 _).aJ 3 _).aJ 4 _).aJ 5 _;clear hX d0 aK aO;go_wp2_with(fail);obtain⟨al,_,hx,aL,ce,bP⟩:=a2.o;have bR:=J.size;have bd:=bW.2.2.lt
 try refine hN _ _ ?_
 unfold l1;apply Exists.intro
 refine⟨bi,a7,bH,on,bB,?_⟩
 iterate 240 apply Exists.intro
 refine⟨?_,rfl⟩;exact g8.simple (st:=.set false nm x) ⟨s,wb,sA,bK,bw,sl,GA,gn,gc,MA,mn,mc,FA,fn,fc,M,F,ar⟩ bj B bQ bT d ps V T ls N L aE bc QA b8 qc br a3.1 cO bO a3.2.2.2.1 cc.1 cb b7 aS (al.fresh a3.1 J λb O=>ad) bs (eG (aX.2 ⟨cr,cd,cC,rfl,aL,(ce.ak λb O=>J.block b O.2 (aB O.1)).mono λb O=>⟨by have:=O.1;omega,by have:=O.2;omega⟩⟩) kZ (Sl.bT _) (Lz _) (Sl.bT _) (Lz _) (Sl.bT _) (Lz _)) ⟨cc.1 eV.o,dN cc.1 2 x hx⟩ (λn hn=>by simp[az.all] at hn) (by simp only[az.num];omega) (Lz _) aF.2.2 a3.2.1
 ):p:=h
theorem l5(h:p:=by
 have o:(0:Int)<(bi:Int):=ad;have cy:¬(wb=s\/wb=S.heap.size):=ad;go_upto_region 22 with(fail);refine eK (λb=>b=s\/b=S.heap.size) [(0,3),(1,3),(2,3),(3,3),(4,0),(5,3),(6,3),(10,3),(11,3),(13,3),(7,1),(8,3),(9,0),(12,1),(14,1),(15,3),(16,2),(17,3),(18,2)] ?_
 iterate 4 refine pf ?_
 refine oG ?_
 iterate 5 refine pf ?_
 refine aI rfl (λK hK=>?_);go_simp;refine(aY wr.drew s sA bK bw sl bi (bW.1.aj bl Mg.drew).src ad ad).mono ?_;rintro e aP ⟨cv,rfl,bm,bX,h,he⟩;obtain⟨j,rfl⟩:=LH bm;have ai:Fr (λb=>b=s) wr aP:=Fr.aF he.fr;have u:=bW.1.next bl h ai;obtain⟨i,t,nm,cs,g,O,hm,a9,bq,hc⟩:=Sl.g9 (z:=1) a3.2.2.2.2.1 (λ_=>rfl) (k:=j) ad;subst g;obtain rfl:=uX.1 a9;have c0:=(u.fr.cell O.1 O.2).trans (hc 0 _ rfl);simp only[Nat.mul_one,LM] at c0;have r:¬(i=s\/i=S.heap.size):=λh=>by
  rcases h with h|h
  .exact O.2 (.inl h)
  .have:=O.1;omega
 have m:i<aP.heap.size:=by have:=u.fr.size;have:=O.1;omega
 have cI:(0:Int)<=(j:Int):=ad;have fm:(j:Int)<(bi:Int):=ad;have eV:=ae (LF hm);have H1:=ah u (bW.2.2.on ai ad);have cg:=ai.size;refine dP hK (he.fr.mono λ_ h=>.inl h) ?_;clear hK K;clear a0 ak af a8 am aJ d0 aK aO a9 bq hc hm h he ai u O bm bX;refine pf ?_;refine K5 ?_;refine aI rfl (λK hK=>?_);go_simp;refine(jW ⟨s,wb,sA,bK,bw,sl,GA,gn,gc,MA,mn,mc,FA,fn,fc,M,F,ar⟩ L aV _ bi a7 aP (H1.1.wr a3.1) ((Sl.cS a3.2.2.2.2.1 H1.1.fr).mono λb O=>⟨O.1,λh=>O.2 (.inl h)⟩) ad).mono ?_;rintro e aW ⟨x,cr,cd,cC,rfl,hx,aL,ce,h,he⟩;simp only at h he;have l:=H1.2.on he ad;have a2:=dI (H1.1.next bl h he) l hx aL ce he.size;obtain⟨d0,aK,aO⟩:=l.two;refine dP hK (he.mono λ_ h=>.inl h) ?_;clear hK K;clear l hx aL ce h he c0;refine aI rfl (λK hK=>?_);go_simp;refine dP hK (Mg.setCell (.inl (.inr rfl)) _) ?_;clear hK K;refine pf ?_;refine au rfl (λK hK=>?_);go_simp;exact ny
 ):p:=h
end CW
open CW in
theorem Ix(d bi:Nat)(bL:0<bi):SK 8 d bi:=by
 exact l4
namespace CX
theorem pO(h:p:=by
 exact g8.simple (st:=.ret) ⟨s,wb,sA,bK,bw,sl,GA,gn,gc,MA,mn,mc,FA,fn,fc,M,F,ar⟩ bj B bQ bT d ps V T ls N L aE bc QA b8 qc br a3.1 cO bO a3.2.2.2.1 cc.1 cb b7 aS (dQ.1.fresh a3.1 J λb O=>ad) bs (eG mz kZ (Sl.bT _) (Lz _) (Sl.bT _) (Lz _) (Sl.bT _) (Lz _)) trivial (λn hn=>by simp[az.all] at hn) (by simp only[az.num];omega) (Lz _) aF.2.2 a3.2.1
 ):p:=h
theorem l5(h:p:=by
 first
  | subst bG
    have dQ:=bW
  | revert bL
    intro bL;have dA:decide ((bi:Int) > 0)=false:=by simp;omega
    have cZ:¬(0:Int)<(bi:Int):=ad;clear bL
    have dQ:=bW
  | have cy:S.heap.size<wr.heap.size:=bW.2.2.lt
    go_wp2_with(fail);refine(aY wr s sA bK bw sl 3 bW.1.src ad ad).mono ?_;rintro e wr ⟨cv,rfl,bm,bX,h,he⟩;have ai:=he.fr;have dQ:=aA (bW.1.next bl h ai) (bW.2.1.on ai ad) (bW.2.2.on ai ad);clear a0 ak af a8 am aJ d0 aK aO h he ai bm bX;by_cases aj:cv=1
    case pos=>
     have q:(cv == 1)=true:=by simpa using aj
     clear aj;obtain⟨d0,aK,aO⟩:=dQ.2.2.two;go_wp2_with(fail);generalize hX:World.setCell _ _ _=X;have J:=cJ hX;have bs:ao X S.heap.size 188 #[.int .i64 9,.string ⟨#[]⟩,.int .i64 0,.int .i64 0,.string ⟨#[]⟩,.slice none 0 0,.string ⟨#[]⟩,.slice none 0 0,.slice none 0 0,.slice none 0 0,.slice none 0 0]:=hX▸dQ.2.2.aJ 0 _;exact pN
    have q:(cv == 1)=false:=by simpa using aj
    clear aj;obtain⟨a0,ak,af⟩:=dQ.1.blk.two;obtain⟨a8,am,aJ⟩:=dQ.2.1.two;obtain⟨d0,aK,aO⟩:=dQ.2.2.two
 go_wp2_with(fail);refine(rb ⟨s,wb,sA,bK,bw,sl,GA,gn,gc,MA,mn,mc,FA,fn,fc,M,F,ar⟩ L aV av bi a7 bc ps QA b8 qc br wr (dQ.1.wr a3.1) ((Sl.cS a3.2.2.2.2.1 dQ.1.fr).mono λb O=>⟨O.1,λh=>O.2 (.inl h)⟩) ad ((Sl.cS a3.2.2.1 dQ.1.fr).mono λb O=>⟨O.1,λh=>O.2 (.inl h)⟩) bv).mono ?_;rintro e aW ⟨r,IA,i,ic,rfl,aU,aL,R,aw,ai⟩;simp only at aU aw ai;have bd:S.heap.size<wr.heap.size:=dQ.2.2.lt;have l:=dQ.2.2.on ai ad;have aM:=dQ.2.1.on ai ad;have a2:=hj (dQ.1.next bl aw ai) l aM (aU (F.map λf=>(f.name,f.params))) aL R ai.size;clear a0 ak af a8 am aJ d0 aK aO aU aL R aw ai aM;obtain⟨d0,aK,aO⟩:=l.two;clear l;go_upto_region 10 with(fail);generalize hX:World.setCell _ _ _=X;have J:=FD hX;have bC:ao X S.heap.size 188 #[.int .i64 5,.string ⟨#[]⟩,.int .i64 0,.int .i64 0,.string ⟨#[]⟩,.slice none 0 0,.string r.name,.slice IA i ic,.slice none 0 0,.slice none 0 0,.slice none 0 0]:=hX▸(a2.2.1.aJ 6 _).aJ 7 _;have co:Sl X (fresh wr X) IA i (r.idx.toList.map bk):=(a2.2.2.2.2.2.1.ak λb O=>J.block b O.2 (aB O.1)).mono λb O=>⟨O.1,by have:=O.2;have:=J.size;omega⟩
 have aR:=cX (a2.1.fresh a3.1 J λb O=>ad) bC (a2.2.2.1.on J ad) co (by have:=J.size;have:=a2.2.2.2.2.2.2;omega:wr.heap.size<=X.heap.size);clear hX d0 aK aO J bC co;obtain⟨d0,aK,aO⟩:=aR.2.1.two;go_upto_region 11 with(fail);generalize hU:World.alloc _ _=U;have cl:=aZ hU;have bV:=aN hU;have bF:=aR.1.aj bl cl;have b9:Gr (λb=>(B<=b/\(Value.slice av bi a7).ownBlock≠some b)/\b≠S.heap.size) B 188 11 U bH on bB (ls.map bg):=(a3.2.2.2.1.two.mono λb ac ax=>⟨ax,ad⟩).cS bF.fr λb O hl=>⟨λh=>by have:=a3.2.2.2.2.2 b O;have:=h.1.1;omega,a3.2.2.2.2.2 b O⟩
 have ba:Gr (λ_=>False) B 9 1 U av bi a7 (aV.map D.s):=(Gr.strs a3.2.2.2.1.one).cS bF.fr λb O hl=>⟨λh=>h,a3.2.2.2.2.2 b O⟩
 have j:∀b,(Value.slice av bi a7).ownBlock=some b->b<S.heap.size:=λb O=>(a3.2.2.2.1.one.lt O).2;have m:∀b,(Value.slice bH on bB).ownBlock=some b->B<=b/\b<S.heap.size:=λb O=>a3.2.2.2.1.two.lt O;have au:∀b,(Value.slice av bi a7).ownBlock=some b->(Value.slice bH on bB).ownBlock≠some b:=a3.2.2.2.1.ne;have cF:X.heap.size<U.heap.size:=bV.lt;have ck:wr.heap.size<=X.heap.size:=aR.2.2.2.2;have bZ:Sl U (λb=>wr.heap.size<=b/\b<X.heap.size) IA i (r.idx.toList.map bk):=aR.2.2.2.1.ak λb O=>cl.block b O.2 λh=>h;have hD:(bg (.lock false r)).rep U (ly (λb=>(B<=b/\(Value.slice av bi a7).ownBlock≠some b)/\b≠S.heap.size) U (.slice bH on bB)) [.int .i64 5,.string ⟨#[]⟩,.int .i64 0,.int .i64 0,.string ⟨#[]⟩,.slice none 0 0,.string r.name,.slice IA i ic,.slice none 0 0,.slice none 0 0,.slice none 0 0]:=by
  refine eG mz (jH.2 ⟨IA,i,ic,rfl,a2.2.2.2.2.1,bZ.mono λb O=>⟨⟨⟨by have:=O.1;omega,λh=>by have:=j b h;have:=O.1;omega⟩,by have:=O.1;omega⟩,by have:=O.2;omega,λh=>by have:=(m b h).2;have:=O.1;omega⟩⟩) (Sl.bT _) (Lz _) (Sl.bT _) (Lz _) (Sl.bT _) (Lz _)
 have cz:=rE bF (aR.2.1.aj cl) (aR.2.2.1.aj cl) bV b9 ba bZ hD;have bz:=aA j m au;have ci:B<=U.heap.size:=ad;have a5:B<=X.heap.size:=ad;clear hU cl bV bF b9 ba bZ hD j m au d0 aK aO;obtain⟨d0,aK,aO⟩:=cz.2.1.two;obtain⟨a8,am,aJ⟩:=cz.2.2.1.two;go_upto_region 12 with(at_builtin;refine bI o2 rfl (.tmp 59) (.tmp 61) rfl cz.2.2.2.2.1 cz.2.2.2.2.2.2.2 rfl rfl rfl ad ad ci ?_;intro b2 bq b4 an ay b1 cf;have aD:=aA an ay b1;clear an ay b1 cf d0 aK aO);obtain⟨fh,aP,bu⟩:=aD.o;obtain⟨j,m,au⟩:=bz.o;have ct:aE.heap.size<B:=ad;have bA:¬(Value.slice bH on bB).ownBlock=some X.heap.size:=λh=>by have:=(m _ h).2;omega
 have aT:¬(Value.slice bH on bB).ownBlock=some S.heap.size:=λh=>by have:=(m _ h).2;omega
 have aI:¬(Value.slice bH on bB).ownBlock=some bj:=λh=>by have:=(m _ h).1;omega
 have aQ:oX ⟨s,wb,sA,bK,bw,sl,GA,gn,gc,MA,mn,mc,FA,fn,fc,M,F,ar⟩ aE b4 L:=(oX.mk cz.1.src cz.1.blk (aF.2.2.trans cz.1.fr) cz.1.le).fresh aF.1 aP λb O=>by have:=(m b O).1;omega
 have bP:=cz.2.2.2.2.2.1.dh aP.size λb ap hp=>aP.block b ap (hp.elim (λh=>h.elim) λhp=>au b hp);have e1:Sl b4 (λb=>wr.heap.size<=b/\b<X.heap.size) IA i (r.idx.toList.map bk):=cz.2.2.2.2.2.2.1.ak λb O=>aP.block b (aB O.2) λh=>by have:=(m b h).2;have:=O.1;omega
 have bY:=hj aQ (cz.2.1.on aP aT) (cz.2.2.1.on aP aI) (cz.2.2.2.1.on aP bA) fh bP e1;have ab:∀b,(Value.slice b2 (on+1) bq).ownBlock=some b->(B<=b/\b<S.heap.size/\(Value.slice bH on bB).ownBlock=some b)\/U.heap.size<=b:=λb O=>(bu b O).imp (λh=>⟨(m b h).1,(m b h).2,h⟩) id;have bf:=ah ab aP.size;clear fh aP bu j m au bA aT aI aQ bP e1 ab cz aD a8 am aJ;obtain⟨a8,am,aJ⟩:=bY.2.2.1.two;have hg:Sl b4 (off (λb=>b=s\/b=wb) b4) av bi (aV.map D.s):=bY.2.2.2.2.2.1.sl (λ_ _ h=>h.elim) (λb O aS=>⟨O,λh=>ad⟩);go_wp2_with(fail);refine(cc.2.2 L ad 0 2 aV (T++decls ls) av bi a7 bc ps QA b8 qc br b4 ad ad (bY.1.wr aF.1) hg ad (λk aj=>cc.2.1 k ad) (Sl.cS aF.2.1 bY.1.fr) bv).mono ?_;rintro e cI ⟨Z,a9,cC,aq,bN,rfl,ag,cN,cg,cd,z⟩
 try simp only at z
 clear a8 am aJ hg;have bp:=ag.le;have cw:L<=24:=bY.1.le;have cB:aq<=48:=by
  have ac:=ag.num;have ax:=uC Z;have a1:=cg.1;simp only[LG] at a1;omega
 have ab:=bf.1;have cE:=bf.2;have aa:∀b,(b=s\/b=wb)->b<aE.heap.size:=λb O=>by
  have ac:=aF.1.src.lt;have ax:=aF.1.blk.lt;simp only at ac ax;rcases O with O|O<;>omega
 have ct:aE.heap.size<B:=ad;have ch:=bY.2.2.2.2.1.cS z λb O hl=>⟨λh=>by have:=aa b O;have:=h.1.1;omega,by have:=aa b O;omega⟩
 have bR:=bY.2.2.2.2.2.1.cS z λb O hl=>⟨λh=>h,by have:=aa b O;omega⟩
 have cm:Sl cI (λb=>wr.heap.size<=b/\b<X.heap.size) IA i (r.idx.toList.map bk):=bY.2.2.2.2.2.2.ak λb O=>z.block b (aB O.2) λh=>by have:=aa b h;have:=O.1;omega
 have b5:=bz.1;have bh:Sl cI (ly (λb=>(B<=b/\(Value.slice av bi a7).ownBlock≠some b)/\b≠S.heap.size) cI (.slice b2 (on+1) bq)) cC aq (Z.map bg):=cg.mono λb O=>⟨⟨⟨by have:=O.1;omega,λh=>by have:=b5 b h;have:=O.1;omega⟩,by have:=O.1;omega⟩,O.2,λh=>by
  have ac:=O.1;rcases ab b h with ax|ax
  .omega
  .have:=(bY.2.2.2.2.1.lt h).2;omega⟩
 have P:=xH (bY.1.Iq cd z) (bY.2.1.on z λh=>by have:=aa _ h;omega) (bY.2.2.1.on z λh=>by have:=aa _ h;omega) (bY.2.2.2.1.on z λh=>by have:=aa _ h;omega) ch bR cm bh ag;have aG:∀d∈Z.map bg,d.sz=11:=λd hd=>by obtain⟨x,_,rfl⟩:=L5.1 hd;exact wv x
 have ce:B<=cI.heap.size:=by have:=z.size;omega
 have a6:U.heap.size<=cI.heap.size:=by have:=z.size;omega
 clear ag cN cg cd z ch bR cm bh bY ab b5;go_upto_region 13 with(at_builtin;refine xx o2 rfl (.tmp 63) (.tmp 67) rfl P.2.2.2.2.1 P.2.2.2.2.2.2.2.1 aG rfl rfl ad ad ce ?_;intro cr bM cA an ay b1 cf;have ds:=aA an ay b1;clear an ay b1 cf);obtain⟨bt,bo,bE⟩:=ds.o;have ab:=bf.1;obtain⟨j,m,au⟩:=bz.o;have bn:∀b,(Value.slice av bi a7).ownBlock=some b->(Value.slice b2 (on+1) bq).ownBlock≠some b:=λb O h=>by
  rcases ab b h with ax|ax
  .exact au b O ax.2.2
  .have:=j b O;omega
 have bA:¬(Value.slice b2 (on+1) bq).ownBlock=some X.heap.size:=λh=>by rcases ab _ h with ax|ax<;>omega
 have aT:¬(Value.slice b2 (on+1) bq).ownBlock=some S.heap.size:=λh=>by rcases ab _ h with ax|ax<;>omega
 have aI:¬(Value.slice b2 (on+1) bq).ownBlock=some bj:=λh=>by rcases ab _ h with ax|ax<;>omega
 have b6:=P.1.fresh aF.1 bo λb O=>by rcases ab _ O with ax|ax<;>omega
 have bS:=P.2.2.2.2.2.1.dh bo.size λb ap hp=>bo.block b ap (hp.elim (λh=>h.elim) λhp=>bn b hp);have cn:Sl cA (λb=>wr.heap.size<=b/\b<X.heap.size) IA i (r.idx.toList.map bk):=P.2.2.2.2.2.2.1.ak λb O=>bo.block b (aB O.2) λh=>by have ac:=O.1;have a1:=O.2;rcases ab _ h with ax|ax<;>omega
 have dL:=hj b6 (P.2.1.on bo aT) (P.2.2.1.on bo aI) (P.2.2.2.1.on bo bA) bt bS cn;have aC:∀b,(Value.slice cr (on+1+aq) bM).ownBlock=some b->(B<=b/\b<S.heap.size/\(Value.slice bH on bB).ownBlock=some b)\/U.heap.size<=b:=λb O=>by
  rcases bE b O with ac|ac
  .exact ab b ac
  .exact .inr ad
 have cp:=ae aC;clear bt bo bE ab j m au bn bA aT aI b6 bS cn aC ds;obtain⟨d0,aK,aO⟩:=dL.2.1.two;obtain⟨bU,aX,a4⟩:=dL.2.2.2.1.two;go_wp2_with(fail);generalize cq:World.setCell _ _ _=Y;have b0:aE.heap.size<=S.heap.size:=aF.2.2.size;obtain⟨bD,bx,bJ⟩:=ef (M:=λb=>b=s\/b=wb) (w:=aE) [.int .i64 6,.string ⟨#[]⟩,.int .i64 0,.int .i64 0,.string ⟨#[]⟩,.slice none 0 0,.string r.name,.slice IA i ic,.slice none 0 0,.slice none 0 0,.slice none 0 0] (by rfl) dL.2.1 dL.1.fr b0 cq;have j:=bz.1;have aC:=cp.o;have vz:=dL.2.2.2.2.2.1;have cW:=dL.2.2.2.2.1;have ag:=P.2.2.2.2.2.2.2.2;have cx:Sl Y (λb=>wr.heap.size<=b/\b<X.heap.size) IA i (r.idx.toList.map bk):=dL.2.2.2.2.2.2.ak λb O=>bJ.block b (nz O.2 dL.2.2.2.1.lt) (aB O.1);have dh:cA.heap.size<=Y.heap.size:=bJ.size;have cD:X.heap.size<cA.heap.size:=dL.2.2.2.1.lt
 try refine hN _ _ ?_
 unfold l1;refine⟨av,bi,a7,cr,on+1+aq,bM,?_⟩
 iterate 240 apply Exists.intro
 refine⟨?_,rfl⟩;refine⟨aV,.lock false r::Z,.lock true r,a9,_,dL.1.fresh aF.1 bJ (λb O=>ad),dL.2.2.1.on bJ ad,⟨?_,?_,λb O h=>?_⟩,bD,?_,FO a2.2.2.2.1 cc.1 ag.wf,?_,?_,bp,?_,ad,ad⟩
 .exact Gr.strs (vz.dh bJ.size λb ap hp=>bJ.block b ap (hp.elim (λh=>h.elim) λhp=>by have:=j b hp;omega))
 .have ac:=(cW.dh bJ.size λb ap hp=>bJ.block b ap (by
   rcases hp with hp|hp
   .exact hp.2
   .rcases aC b hp with ax|ax<;>omega)).mono λb _ hp=>hp.1
  have he:(ls++(az.lock false r::Z)).map bg=(ls.map bg++[bg (.lock false r)])++Z.map bg:=by simp
  rw[he];exact ac
 .rcases aC b h with ax|ax
  .exact bz.2.2 b O ax.2.2
  .have:=j b O;omega
 .exact eG mz (jH.2 ⟨IA,i,ic,rfl,a2.2.2.2.2.1,cx.mono λb O=>⟨⟨by have:=O.1;omega,λh=>by have:=j b h;have:=O.1;omega⟩,by have:=O.2;omega,λh=>by have ac:=O.1;have a1:=O.2;rcases aC b h with ax|ax<;>omega⟩⟩) (Sl.bT _) (Lz _) (Sl.bT _) (Lz _) (Sl.bT _) (Lz _)
 .intro n hn;rw[LR,all_cons,xW,all_cons] at hn;simp only[az.all,al.eT,al.all,L8,L6] at hn;obtain⟨k,ac,ax,a1⟩:=ag.all n hn;exact⟨k,ac,ad,a1⟩
 .rw[LR,kV,yj,tp];have:=ag.num;simp only[az.num];omega
 .intro y bb;have:=cc.1 bb;exact Ap
 ):p:=h
end CX
open CX in
theorem yx(k:Int)(d bi:Nat)(h:k=8/\bi=0\/k=11/\d=0\/k=12/\d=0\/k=13):SK k d bi:=by
 rcases h with⟨rfl,bL⟩|⟨rfl,bG⟩|⟨rfl,bG⟩|rfl
 all_goals
  exact l4
namespace CY
theorem pO(h:p:=by
 have b9:=b2.o;subst b9;exact g8.simple (st:=.call bb g.name aT) ⟨s,wb,sA,bK,bw,sl,GA,gn,gc,MA,mn,mc,_,fn,fc,M,F,ar⟩ bj B bQ bT d ps V T ls N L aE bc QA b8 qc br a3.1 cO bO a3.2.2.2.1 cc.1 cb b7 aS (al.fresh a3.1 J λb O=>ad) bs (eG mz kZ ((b6.ak λb O=>J.block b O.2 (aB O.1)).mono λb O=>⟨by have:=O.1;omega,by have:=O.2;omega⟩) aA (Sl.bT _) (Lz _) (Sl.bT _) (Lz _)) ⟨g.params,L5.2 ⟨g,b1.o,rfl⟩,oc cc.1 _ _ (aU _)⟩ (λn hn=>by simp[az.all] at hn) (by simp only[az.num];omega) (Lz _) aF.2.2 a3.2.1
 ):p:=h
theorem dd(h:p:=by
 generalize bR:World.setCell _ _ _=Y;have J:=FD bR;have bs:ao Y S.heap.size 188 #[.int .i64 bY,.string g.name,.int .i64 0,.int .i64 0,.string ⟨#[]⟩,.slice none 0 0,.string ⟨#[]⟩,.slice none 0 0,.slice KA k kc,.slice none 0 0,.slice none 0 0]:=bR▸(a2.2.1.aJ 1 _).aJ 8 _;clear bR d0 aK aO;go_wp2_with(fail);obtain⟨al,_,aU,aA,b6,bP⟩:=a2.o;have bR:=J.size;exact pN
 ):p:=h
theorem fO(h:p:=by
 refine ck ?_;generalize bG:World.setCell _ _ _=Z;obtain⟨bt,ba,bf⟩:=ef (M:=λb=>b=s) [.string g.name,.slice bE bn bI,.slice m ab U] (by rfl) bV ai gP bG;have bd:S.heap.size<X.heap.size:=aR.2.1.lt;have b0:s<X.heap.size:=ad;have bZ:cp Z s sA bK bw sl:=aw.cT bf λb O h=>ad;have bp:=aR.1.next bl bZ ba;have bh:=dI bp (aR.2.1.on ba ad) (aR.2.2.1.on ba ad) bt bz bF;have cf:¬cD=s:=ad;have bM:=ba.size;clear bG bt ba bf bZ bp bz bF ai aw bV bU aX a4;obtain⟨a8,am,aJ⟩:=bh.2.2.1.two;obtain⟨bU,aX,a4⟩:=bh.2.2.2.1.two;have ce:¬bj=s:=ad;have bL:bn<=2:=by
  have ac:=bh.2.2.2.2.2.1;have ax:=bx g bh.2.2.2.2.1;simp at ac;omega
 go_upto_region 28 with(fail);refine eK (λb=>b=s) [(0,3),(1,0),(2,3),(3,0),(4,0),(5,3),(7,3),(6,1),(8,2),(9,3),(10,2)] ?_;refine pf ?_;refine oG ?_;refine pf ?_
 iterate 2 refine oG ?_
 iterate 2 refine pf ?_
 refine aI rfl (λK hK=>?_);go_simp;refine(zA ⟨s,wb,sA,bK,bw,sl,GA,gn,gc,MA,mn,mc,_,fn,fc,M,F,ar⟩ L aV av bi a7 bc ps QA b8 qc br g.name g.params bE bn bI (.slice m ab U) Z.drew ((bh.1.aj bl Mg.drew).wr a3.1) ((Sl.cS a3.2.2.2.2.1 (bh.1.aj bl Mg.drew).fr).mono λb O=>⟨O.1,λh=>O.2 (.inl h)⟩) ad ((Sl.cS a3.2.2.1 (bh.1.aj bl Mg.drew).fr).mono λb O=>⟨O.1,λh=>O.2 (.inl h)⟩) bv ((Sl.cS bh.2.2.2.2.2 (bh.1.aj bl Mg.drew).fr).mono λb O=>⟨O.1,λh=>O.2 (.inl h)⟩) bL).mono ?_;rintro e aW ⟨aT,KA,k,kc,rfl,aU,aA,b6,aw,ai⟩;simp only at aU aw ai;have ap:Fr (λb=>b=s) Z aW:=Fr.aF ai;have l:=bh.2.1.on ap ad;have a2:=dI (bh.1.next bl aw ap) l aU aA b6 ap.size;have b1:=ae bh.2.2.2.2.1;have cd:X.heap.size<=Z.drew.heap.size:=bM;refine dP hK (ai) ?_;clear hK K;clear a8 am aJ bU aX a4 ai aw b6 aA aU ap;obtain⟨d0,aK,aO⟩:=l.two;clear l;refine au rfl (λK hK=>?_);go_simp;exact ny
 ):p:=h
theorem l5(h:p:=by
 have bS:=a3.1.nf;have bx:=a3.1.jf;simp only at bS bx;have cy:¬wb=s:=ad;obtain⟨ch,dc,bk,_⟩:=a3.1.fs.some_ bS.1;simp only at bk;subst bk;go_upto_region 27 with(fail);generalize hX:World.setCell _ _ _=X;have J:Fr (λb=>b=S.heap.size) wr X:=by rw[<-hX];first|exact(Fr.refl (λb=>b=S.heap.size) wr).setCell (.inl rfl) _|exact((Fr.refl (λb=>b=S.heap.size) wr).setCell (.inl rfl) _).setCell (.inl rfl) _
 have bC:ao X S.heap.size 188 #[.int .i64 bY,.string ⟨#[]⟩,.int .i64 0,.int .i64 0,.string ⟨#[]⟩,.slice none 0 0,.string ⟨#[]⟩,.slice none 0 0,.slice none 0 0,.slice none 0 0,.slice none 0 0]:=by rw[<-hX,aN.o];first|exact(bW.2.2.aJ 0 _)|exact(bW.2.2.aJ 0 _).aJ 0 _
 have H:=bW.1.fresh a3.1 J λb O=>ad;have bg:=bW.2.1.on J ad;have aR:=bA H bC bg J.size;clear hX a0 ak af a8 am aJ d0 aK aO J bC H bg;obtain⟨a0,ak,af⟩:=aR.1.blk.two;refine tw (λb=>b=s) [19] (.free 0 (.free 1 (.free 2 (.free 3 (.held 4 (.free 5 (.free 6 (.free 7 (.held 8 (.free 9 (.free 10 (.free 11 (.free 12 (.held 13 (.free 14 (.pick [15,18] (λi=>bif i == 15 then .free 16 (.held 17 (.pick [18] (λ_=>.pick [19] (λ_=>.stop)))) else .pick [15] (λ_=>.free 16 (.held 17 (.pick [19] (λ_=>.stop))))))))))))))))))))) ?_
 iterate 4 refine tf ?_
 refine oV ?_
 iterate 3 refine tf ?_
 refine oV ?_
 iterate 4 refine tf ?_
 refine oV ?_;refine tf ?_;clear a0 ak af;refine iV (P:=?_) (ops:=?_) (Q:=?_) (R:=?_) (tails:=?_) (rest:=.pick [19] (λ_=>.stop)) (aa:=?_)
  (C:=λ(cD:Nat) (j:Nat) (aj:Value) fg=>Fr (λb=>b=s) X fg/\cp fg s sA bK bw sl/\ao fg cD 137 #[.string ⟨#[]⟩,.slice none 0 0,.slice none 0 0]/\X.heap.size<=cD/\∃(g:aG) (bE:Mk) (bn bI:Nat) (m:Mk) (ab U:Nat),aj=.agg #[.string g.name,.slice bE bn bI,.slice m ab U]/\g∈F/\Sl S (off (λb=>b=s\/b=wb) S) bE bn (g.params.map cz)) (λkey=>?_) ?_
 rotate_left 6
 ·
  refine a5 ?_ ?_
  ·
   refine aD rfl (λK hK=>?_) rfl;go_simp;refine(aY X.drew s sA bK bw sl fn (aR.1.aj bl Mg.drew).src ad ad).mono ?_;rintro e aP ⟨cv,rfl,bm,bX,h,he⟩;obtain⟨j,rfl⟩:=LH bm;have a1:j<fn:=ad;have ai:Fr (λb=>b=s) X aP:=Fr.aF he.fr;have y:Fr (λb=>b=s\/b=wb) S aP:=aR.1.fr.trans (ai.mono λ_ h=>.inl h);refine dP hK (he.fr) ?_;clear hK K;obtain⟨bo,b4,g,cs,I,cA,r,aQ,bq,hc⟩:=Sl.g9 (z:=3) a3.1.fs (λ_=>rfl) (k:=j) (by simpa using a1);injection I with I;injection I with hFA1 hFA2;subst hFA1 hFA2;obtain⟨bE,bn,bI,m,ab,U,rfl,bJ,bF⟩:=EU aQ;have e0:=(y.cell cA.1 cA.2).trans (hc 0 _ rfl);have e1:=(y.cell cA.1 cA.2).trans (hc 1 _ rfl);have e2:=(y.cell cA.1 cA.2).trans (hc 2 _ rfl);simp only[LM] at e0;have cr:ch<aP.heap.size:=by have:=y.size;have:=cA.1;omega
   have bu:¬ch=s:=λh=>cA.2 (.inl h);have cI:(0:Int)<=(j:Int):=ad;have fm:(j:Int)<(fn:Int):=ad;have a9:=LF r;skip
   refine tf ?_;refine KJ ?_;refine aq ?_;refine eu ?_;generalize bG:World.alloc _ _=Z;have e3:=aZ bG;have ag:Fr (λb=>b=s) X Z/\cp Z s sA bK bw sl/\ao Z aP.heap.size 137 #[.string ⟨#[]⟩,.slice none 0 0,.slice none 0 0]/\X.heap.size<=aP.heap.size/\∃(ah:aG) (an:Mk) (G a6:Nat) (ay:Mk) (aM aL:Nat),(Value.agg #[.string g.name,.slice bE bn bI,.slice m ab U])=.agg #[.string ah.name,.slice an G a6,.slice ay aM aL]/\ah∈F/\Sl S (off (λb=>b=s\/b=wb) S) an G (ah.params.map cz):=
    ⟨ai.trans (e3.mono λ_ h=>h.elim),h.cT e3 λ_ _ h=>h,by rw[<-bG];exact Mh,ai.size,g,bE,bn,bI,_,_,_,rfl,a9,bF⟩
   clear bG e3 bF aQ bq hc e0 e1 e2;revert ag;generalize aP.heap.size=cD;generalize (Value.agg #[.string g.name,.slice bE bn bI,.slice m ab U])=aj;intro ag;exact key cD j aj _ ag
  ·
   refine eu ?_;generalize hV:World.drew (World.alloc _ _)=fh;have e1:=hh hV;have cn:=lP hV;have cg:=cn.lt;refine aq ?_;refine aD rfl (λK hK=>?_) rfl;go_simp;refine(aY fh s sA bK bw sl fn (aR.1.aj bl e1).src ad ad).mono ?_;rintro e aP ⟨cv,rfl,bm,bX,h,he⟩;obtain⟨j,rfl⟩:=LH bm;have a1:j<fn:=ad;have ai:Fr (λb=>b=s) X aP:=(e1.mono λ_ h=>h.elim).trans he.fr;have y:Fr (λb=>b=s\/b=wb) S aP:=aR.1.fr.trans (ai.mono λ_ h=>.inl h);have dF:s<X.heap.size:=by have:=aR.2.2.2;omega
   refine dP hK (he.fr) ?_;clear hK K;obtain⟨bo,b4,g,cs,I,cA,r,aQ,bq,hc⟩:=Sl.g9 (z:=3) a3.1.fs (λ_=>rfl) (k:=j) (by simpa using a1);injection I with I;injection I with hFA1 hFA2;subst hFA1 hFA2;obtain⟨bE,bn,bI,m,ab,U,rfl,bJ,bF⟩:=EU aQ;have e0:=(y.cell cA.1 cA.2).trans (hc 0 _ rfl);have e1:=(y.cell cA.1 cA.2).trans (hc 1 _ rfl);have e2:=(y.cell cA.1 cA.2).trans (hc 2 _ rfl);simp only[LM] at e0;have cr:ch<aP.heap.size:=by have:=y.size;have:=cA.1;omega
   have bu:¬ch=s:=λh=>cA.2 (.inl h);have cI:(0:Int)<=(j:Int):=ad;have fm:(j:Int)<(fn:Int):=ad;have a9:=LF r;skip
   refine tf ?_;refine KJ ?_;have ag:Fr (λb=>b=s) X aP/\cp aP s sA bK bw sl/\ao aP X.heap.size 137 #[.string ⟨#[]⟩,.slice none 0 0,.slice none 0 0]/\X.heap.size<=X.heap.size/\∃(ah:aG) (an:Mk) (G a6:Nat) (ay:Mk) (aM aL:Nat),(Value.agg #[.string g.name,.slice bE bn bI,.slice m ab U])=.agg #[.string ah.name,.slice an G a6,.slice ay aM aL]/\ah∈F/\Sl S (off (λb=>b=s\/b=wb) S) an G (ah.params.map cz):=
    ⟨ai,h,cn.on he.fr ad,Lz _,g,bE,bn,bI,_,_,_,rfl,a9,bF⟩
   clear hV bF aQ bq hc e0 e1 e2;revert ag;generalize (Value.agg #[.string g.name,.slice bE bn bI,.slice m ab U])=aj;intro ag;exact key X.heap.size j aj _ ag
 ·
  rintro cD j aj fg ⟨ai,aw,bV,gP,g,bE,bn,bI,m,ab,U,rfl,bz,bF⟩;obtain⟨bU,aX,a4⟩:=bV.two;exact gr
 ):p:=h
end CY
open CY in
theorem E8(bb:Bool)(k:Int)(d bi:Nat)(h:bb=false/\k=9\/bb=true/\k=10):SK k d bi:=by
 obtain⟨bY,bD⟩:∃bY:Int,bY=if bb then 4 else 3:=⟨_,rfl⟩
 have b2:=ae bD;rcases h with⟨O,rfl⟩|⟨O,rfl⟩
 all_goals
  rw[O] at bD;have aN:=ae bD;clear bD O;exact l4
namespace CZ
theorem pO(h:p:=by
 exact g8.simple (st:=.ite x (.eT Z) .nil) ⟨s,wb,sA,bK,bw,sl,GA,gn,gc,MA,mn,mc,FA,fn,fc,M,F,ar⟩ bj B bQ bT d ps V T ls N L aE bc QA b8 qc br a3.1 cO bO a3.2.2.2.1 cc.1 cb b7 aS bY.1 bs (eG (aX.2 ⟨cr,cd,cC,rfl,a2.2.2.2.1,bY.2.2.2.1⟩) kZ (Sl.bT _) (Lz _) bY.2.2.2.2 bM.2.2.2.1 (Sl.bT _) (Lz _)) ⟨i,j.1,dN cc.1 2 x a2.2.2.1,(di _ i i aV _ _ _ cc.1 (λ_ _ h=>h) (Lz _) bM.2.2.1.wf),np⟩ (λn hn=>by simp only[az.all,al.all,L6] at hn;obtain⟨k,ac,ax,a1⟩:=bM.2.2.1.all n hn;exact⟨k,ac,ad,a1⟩) (by simp only[az.num,al.num];omega) dp aF.2.2 a3.2.1
 ):p:=h
theorem Ax(h:p:=by
 obtain⟨a0,ak,af⟩:=aR.1.blk.two;go_wp2_with(fail);refine(aY X s sA bK bw sl 2 aR.1.src ad ad).mono ?_;rintro e b4 ⟨cv,rfl,bm,bX,h,he⟩;have ai:=he.fr;have dF:s<X.heap.size:=aR.1.src.lt;have aQ:=aR.1.next bl h ai;have bU:=aR.2.1.on ai ad;have bY:=cX aQ bU (aR.2.2.1.on ai ab) (aR.2.2.2.1.Eg ai λb O=>ad) (aR.2.2.2.2.Eg ai λb O=>ad);have bt:S.heap.size<b4.heap.size:=bU.lt;have aD:=ah ai.size (λb (ac:b<X.heap.size) (ax:¬b=s)=>ai.block b ac ax);clear a0 ak af h he ai aQ bm bX bU;have ay:=bM.2.2.1.num;by_cases aj:cv=1
 case neg=>
  have q:(cv == 1)=false:=by simpa using aj
  clear aj;go_wp2_with(fail);have bs:=bY.2.1;exact pN
 case pos=>
  have q:(cv == 1)=true:=by simpa using aj
  clear aj;obtain⟨a8,am,aJ⟩:=bY.2.2.1.two;go_wp2_with(fail)
  first
   | rw[j.2,show IntKind.i64.wrap ((i:Nat):Int)=((i:Nat):Int) from IntWalk.i64_in _ ad]
   | rw[j.2]
  refine(cc.2.2 a9 ad i 3 aV (T++decls ls) av bi a7 bc ps QA b8 qc br b4 ad ad (bY.1.wr a3.1) (Sl.cS a3.2.2.2.2.1 bY.1.fr) ad (λk aj=>cc.2.1 k ad) (Sl.cS a3.2.2.1 bY.1.fr) bv).mono ?_;rintro e cI ⟨t,a6,aN,bf,bp,rfl,bL,cf,bP,P,aa⟩;have u:¬(S.heap.size=s\/S.heap.size=wb):=ad;have W:=bY.2.1.on aa u;have c3:a6<=a9:=bL.le;have bS:=dI (bY.1.Iq P aa) W bL cf bP aa;clear bL cf bP P aa a8 am aJ;obtain⟨d0,aK,aO⟩:=W.two;clear W;go_wp2_with(fail);generalize cq:World.setCell _ _ _=Y;have J:=cJ cq;have bs:ao Y S.heap.size 188 #[.int .i64 7,.string ⟨#[]⟩,.int .i64 x.a2,.int .i64 x.numOf,.string x.bt,.slice cr cd cC,.string ⟨#[]⟩,.slice none 0 0,.slice none 0 0,.slice m aq bN,.slice aN bf bp]:=cq▸bS.2.1.aJ 10 _;clear cq d0 aK aO;have z:=bS.2.2.2.2.2;have bh:=bS.2.2.1.num;have U:∀b,S.heap.size<=b->¬(b=s\/b=wb):=λb O h=>ad;have bb:Sl X (λb=>S.heap.size<b/\b<X.heap.size) cr cd (x.args.map bk):=aA.1;have a4:Sl X (λb=>S.heap.size<b/\b<X.heap.size) m aq (c7 (.eT Z)):=aA.2;have cY:∀b,S.heap.size<b->b<X.heap.size->Y.heap[b]?=X.heap[b]?:=λb ac ax=>(J.block b (nz aD.1 z.size) ad).trans ((z.block b (aB aD.1) (U b ad)).trans (aD.2 b ax ad));have cx:X.heap.size<=Y.heap.size:=by have:=aD.1;have:=z.size;have:=J.size;omega
  have bo:Sl Y (fresh S Y) cr cd (x.args.map bk):=(bb.ak λb O=>cY b O.1 O.2).mono λb O=>⟨by have:=O.1;omega,by have:=O.2;omega⟩
  have bn:Sl Y (fresh S Y) m aq (c7 (.eT Z)):=(a4.ak λb O=>cY b O.1 O.2).mono λb O=>⟨by have:=O.1;omega,by have:=O.2;omega⟩
  have aZ:Sl Y (fresh S Y) aN bf (c7 (.eT t)):=by
   rw[mP];exact(bS.2.2.2.2.1.ak λb O=>J.block b O.2 (aB O.1)).mono λb O=>⟨by have:=O.1;omega,by have:=O.2;have:=J.size;omega⟩
  try refine hN _ _ ?_
  unfold l1;refine⟨av,bi,a7,bH,on,bB,?_⟩
  iterate 240 apply Exists.intro
  refine⟨?_,rfl⟩;exact g8.simple (st:=.ite x (.eT Z) (.eT t)) ⟨s,wb,sA,bK,bw,sl,GA,gn,gc,MA,mn,mc,FA,fn,fc,M,F,ar⟩ bj B bQ bT d ps V T ls N L aE bc QA b8 qc br a3.1 cO bO a3.2.2.2.1 cc.1 cb b7 aS (bS.1.fresh a3.1 J λb O=>ad) bs (eG (aX.2 ⟨cr,cd,cC,rfl,a2.2.2.2.1,bo⟩) kZ (Sl.bT _) (Lz _) bn bM.2.2.2.1 aZ bS.2.2.2.1) ⟨i,j.1,dN cc.1 2 x a2.2.2.1,(di _ i i aV _ _ _ cc.1 (λ_ _ h=>h) (Lz _) bM.2.2.1.wf),(di _ i i aV _ _ _ cc.1 (λ_ _ h=>h) (Lz _) bS.2.2.1.wf)⟩ (λn hn=>by simp only[az.all] at hn;exact(LL.1 hn).elim (λhn=>by obtain⟨k,ac,ax,a1⟩:=bM.2.2.1.all n hn;exact⟨k,ad,ad,a1⟩) (λhn=>by obtain⟨k,ac,ax,a1⟩:=bS.2.2.1.all n hn;exact⟨k,ac,ad,a1⟩)) (by simp only[az.num];omega) ad aF.2.2 a3.2.1
 ):p:=h
theorem At(h:p:=by
 have bC:ao X S.heap.size 188 #[.int .i64 7,.string ⟨#[]⟩,.int .i64 x.a2,.int .i64 x.numOf,.string x.bt,.slice cr cd cC,.string ⟨#[]⟩,.slice none 0 0,.slice none 0 0,.slice m aq bN,.slice none 0 0]:=hX▸(((((bM.2.1.aJ 0 _).aJ 2 _).aJ 3 _).aJ 4 _).aJ 5 _).aJ 9 _;exact Aw
 ):p:=h
theorem BA(h:p:=by
 go_upto_region 30 with(fail);exact BX
 ):p:=h
theorem l5(h:p:=by
 exact Bz
 ):p:=h
end CZ
open CZ in
theorem JI(d bi:Nat)(bG:0<d):SK 11 d bi:=by
 exact l4
namespace C0
theorem pO(h:p:=by
 exact g8.simple (st:=.gG x (.eT Z)) ⟨s,wb,sA,bK,bw,sl,GA,gn,gc,MA,mn,mc,FA,fn,fc,M,F,ar⟩ bj B bQ bT d ps V T ls N L aE bc QA b8 qc br a3.1 cO bO a3.2.2.2.1 cc.1 cb b7 aS aR.1 bs (eG (aX.2 ⟨cr,cd,cC,rfl,a2.2.2.2.1,aR.2.2.2.1⟩) kZ (Sl.bT _) (Lz _) aR.2.2.2.2 bM.2.2.2.1 (Sl.bT _) (Lz _)) ⟨i,j.1,dN cc.1 2 x a2.2.2.1,(di _ i i aV _ _ _ cc.1 (λ_ _ h=>h) (Lz _) bM.2.2.1.wf)⟩ (λn hn=>by obtain⟨k,ac,ax,a1⟩:=bM.2.2.1.all n hn;exact⟨k,ac,ad,a1⟩) (by simp only[az.num];omega) dp aF.2.2 a3.2.1
 ):p:=h
theorem Ax(h:p:=by
 go_wp2_with(fail);have ay:=bM.2.2.1.num;have bs:=aR.2.1;exact pN
 ):p:=h
theorem At(h:p:=by
 have bC:ao X S.heap.size 188 #[.int .i64 8,.string ⟨#[]⟩,.int .i64 x.a2,.int .i64 x.numOf,.string x.bt,.slice cr cd cC,.string ⟨#[]⟩,.slice none 0 0,.slice none 0 0,.slice m aq bN,.slice none 0 0]:=hX▸(((((bM.2.1.aJ 0 _).aJ 2 _).aJ 3 _).aJ 4 _).aJ 5 _).aJ 9 _;exact Aw
 ):p:=h
theorem BA(h:p:=by
 go_upto_region 34 with(fail);exact BX
 ):p:=h
theorem l5(h:p:=by
 exact Bz
 ):p:=h
end C0
open C0 in
theorem JJ(d bi:Nat)(bG:0<d):SK 12 d bi:=by
 exact l4
theorem JH(cv:Int)(bm:0<=cv)(aq:cv<14)(d bi:Nat):SK cv d bi:=by
 by_cases aU:cv<4
 .exact Fa false cv d bi (.inl ⟨rfl,aU⟩)
 by_cases C:cv<7
 .exact Fa true cv d bi (.inr ⟨rfl,aU,C⟩)
 have aj:cv=7\/cv=8\/cv=9\/cv=10\/cv=11\/cv=12\/cv=13:=ad;rcases aj with rfl|rfl|rfl|rfl|rfl|rfl|rfl
 .exact Iy d bi
 .by_cases bG:0<bi
  .exact Ix d bi ad
  .exact yx 8 d bi ad
 .exact E8 false 9 d bi (by simp)
 .exact E8 true 10 d bi (by simp)
 .by_cases hd:0<d
  .exact JI d bi ad
  .exact yx 11 d bi ad
 .by_cases hd:0<d
  .exact JJ d bi ad
  .exact yx 12 d bi ad
 .exact yx 13 d bi ad
end Go.Proofs.YtflecliffjbleaaGreat

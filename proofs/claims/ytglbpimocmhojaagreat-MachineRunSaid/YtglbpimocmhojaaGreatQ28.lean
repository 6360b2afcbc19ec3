/- Part 28 of the proof. No condition of its own. -/
import Derived.Test.YtglbpimocmhojaaGreatQ27
namespace Go.Proofs.YtglbpimocmhojaaGreat
open Go.RowKit Go.Proofs.Tryz
set_option maxRecDepth 1000000
set_option maxHeartbeats 25600000
set_option linter.unusedVariables false
variable{p:Prop}
theorem Fr.DP{M M':Nat->Prop}{a b:World}(h:Fr M a b)(hM:∀k,k<a.heap.size->M k->M' k):Fr M' a b:=⟨h.os,h.tape,h.output,h.size,λk ap hn=>h.block k ap λhm=>hn (hM k ap hm)⟩
def xx(g:Nat)(w:World):Nat:=match w.cell? ⟨g,2,none⟩ with|some (.slice _ n _)=>n|_=>0
def GN(w:World)(u:ay)(x:az)(a b:List Int×Int)(e:Ending)(ab:World):Prop:=∃(av aB:Int) (IA:Lp) (i ic:Nat) (S:Lp) (l lc:Nat) (z:Int),e=.returned (.tuple #[.agg #[.int .i64 av,.int .i64 aB,.slice IA i ic,.slice S l lc],.int .i64 z])/\Ext w ab/\
 (a.2≠0->z=a.2)/\(a.2=0->b.2≠0->z=b.2)/\(a.2=0->b.2=0->z=0/\(er (da u x.target a.1 b.1)).rep ab (fresh w ab) [.int .i64 av,.int .i64 aB,.slice IA i ic,.slice S l lc])
namespace CN
theorem sk(h:p:=by
 have ao:=ah bb Q;obtain⟨d0,aL,aM⟩:=(ag.2.2.2.1.ai J).two;obtain⟨a8,am,aF⟩:=(ag.2.2.1.ai J).two;obtain⟨f0,dH,dL⟩:=(cz.2.ai V).two;clear bb Q cR Z bj O aw aR hG T J V;go_upto_region 6 with(fail);refine eK (λ_=>False) [(0,3),(1,0),(2,3),(3,3),(4,0),(5,3),(6,0),(7,3),(8,0),(9,2),(10,3),(11,3),(12,3),(13,3),(14,3)] ?_;refine pf ?_;refine ph ?_
 iterate 2 refine pf ?_
 refine ph ?_;refine pf ?_;refine ph ?_;refine pf ?_;refine ph ?_;refine ax rfl (λK hK=>?_);go_simp;have aa:Ext wr wr.drew:=(Fr.refl _ wr).drew;obtain⟨bq,cv⟩:=aQ.1.E5 (aQ.2.1 ex (KG ao.1)) ((ag.2.2.2.2.2.1.on aW.2.2.2.2.1).on aa).at_.g ((ag.2.2.2.2.2.2.2.1.on aW.2.2.2.2.1).on aa).ints (D.on ao.2 (Fr.ext aa));refine(nw ex wr.drew bR IA bV i bC ic s.globals f.ints _ _ _ _ bq cv).mono ?_;rintro e aT ⟨rfl,bg⟩;have a4:=ae (show Ext wr aT from Fr.aF (Fr.of bg));have an:=λbt=>nj (k:=k) aW.2.2.2.1 ao.1 bt;generalize ar:ev s.globals f.ints ex=R at *;obtain⟨r,z⟩:=R;have b1:=ah an ar;clear an ar bg aa d0 aL aM a8 am aF f0 dH dL c0 c1 c2 c3 aV bq cv;refine dO hK ?_;clear hK K
 iterate 5 refine pf ?_
 refine aE ?_;have bs:=aW.2.1.ai a4.o;have br:=ae bs;obtain⟨e0,a6,aP⟩:=bs.two;have cO:=a4.size;by_cases bt:z=0
 .have q5:(z != 0)=false:=by simpa using bt
  have P:=ae (aW.2.2.1.ai a4.o);have bf:=ae bt;clear bt bs;go_wp2_with(at_builtin;refine bP de rfl (.tmp 53) (.tmp 55) rfl P.o (d:=D.i r) (cs:=#[.int .i64 r]) (by simp only[D.rep]) rfl rfl rfl ad ad ad ?_;intro cC bh bX ca g2 cT c8;have bD:=br.on g2 (λhm=>by have:=(P.lt hm).1;omega);clear e0 a6 aP;obtain⟨e0,a6,aP⟩:=bD.two;have b4:=aD ca g2 bD;clear ca g2 cT c8 bD);generalize hX:World.setCell _ _ _=X;have bz:aq X U.heap.size 75 #[.int .i64 x.target,.int .i64 0,.slice cC (k+1) bh,.slice none 0 0]:=hX▸b4.2.2.aM 2 _;have aY:Fr (λb=>b=U.heap.size) bX X:=hX▸(Fr.refl (λb=>b=U.heap.size) _).setCell (.inl rfl) _;have b5:Fr (λb=>b=U.heap.size) Y X:=Fr.DP (M:=λb=>b=U.heap.size\/(Value.slice A k c).ownBlock=some b) (Fr.trans (Fr.trans (Fr.mono (Fr.trans aW.1 (Fr.mono a4.o λ_ h=>h.elim)) λ_ h=>.inl h) (Fr.mono b4.2.1 λ_ h=>.inr h)) (Fr.mono aY λ_ h=>.inl h)) λb O hm=>hm.elim id λhm=>absurd (P.lt hm).1 ad;have cB:=b4.1.c8 aY λb O _=>⟨λh=>h,by rw[O];omega⟩
  have av:=aD bz b5 cB;clear hX bz aY b5 cB e0 a6 aP;go_roundw
  case rel=>
   refine⟨k+1,cC,bh,by go_num,ad,av.2.1,av.1,?_,λe he=>?_⟩
   .rw[aZ ao.1,KK,KK];have ac:=av.2.2;exact r0
   .rw[aZ ao.1] at he;rcases KM.1 he with he|he
    .exact aW.2.2.2.1 e he
    .rw[Lf.1 he,b1.2];exact bf.o
  case measure=>exact aG
 .have q5:(z != 0)=true:=by simpa using bt
  have bT:=ae (b1.1 bt);have bf:=ae bt;have aH:=aW.2.2.2.2.1.trans a4.o;have cm:=ag.2.2.2.2.2.2.2.2.ai aH;have b7:=ah cm (ag.1.trans aH);obtain⟨bl,aA,aO⟩:=cm.two;clear bt bs aH cm;go_wp2_with(fail);generalize hX:World.setCell _ _ _=X;obtain⟨bz,bp,b5⟩:=bA (w:=w) [.int .i64 x.target,.int .i64 0,.slice A k c,.slice none 0 0] (by rfl) b7.1 b7.2 ad hX;have av:=ae bp;clear hX bp b5 bl aA aO e0 a6 aP;obtain⟨bl,aA,aO⟩:=bz.two;refine Lk (v:=.tuple #[.agg #[.int .i64 x.target,.int .i64 0,.slice A k c,.slice none 0 0],.int .i64 z]) (by simp[results,Tryz.results37,go_sem,bl]) rfl ?_;refine⟨_,_,_,_,_,_,_,_,z,rfl,av.o,λ_=>by rw[bT.o],λh=>absurd h ?_,λh=>absurd h ?_⟩
  .rw[bT.o];exact bf.o
  .rw[bT.o];exact bf.o
 ):p:=h
theorem hv(h:p:=by
 obtain⟨eo,en,es,EA,em,ec,QA,qm,qc,dg,j,c9,KA,dj,kc⟩:=v;obtain⟨bm,bn,ch,c5,n,fc,IA,i,ic,S,l,lc,e,hT⟩:=hs.at_.top h.sm h.ht;simp only at e;subst e;obtain⟨cj,cp,bH,cg⟩:=h.args cx;have aU:x.ints.length=j:=by have:=bI.ints.1;simpa using this
 have bc:x.places.length=dj:=by have:=bI.places.1;simpa using this
 have cF:j<=200:=by have:=h.il;omega
 have cI:dj<=200:=by have:=h.kl;omega
 have aQ:=cS h cj cp aU bc cg;have cc:=bL hu hs bI hT;clear h cj cp aU bc cg hu hs bI hT;dsimp only[UV.val,SV.val,IV.val];go_enter func37,ntmps37;go_upto_region 1 with(fail);generalize ba:World.alloc _ _=W;have aw:=H5 ba;have b6:=FQ ba;have ce:=FR ba;have a5:=FT ba;have cm:=FU ba;have ag:=w6 aw b6 ce a5 (cc.1.on aw) (cc.2.1.on aw) (cc.2.2.1.on aw) (cc.2.2.2.on aw) cm;obtain⟨a8,am,aF⟩:=ce.two;clear ba aw b6 ce a5 cc cm;go_wp2_with(fail);refine(ny ag.2.2.2.2.2.2.2.1 _ _ _).mono ?_;rintro e aS ⟨rfl,aN⟩;have bu:=ae aN;clear a8 am aF;go_upto_region 2 with(fail);generalize hU:World.alloc _ _=U;have cl:=aX hU;have be:=aK hU;have bM:=aN.trans cl;obtain⟨d0,aL,aM⟩:=(ag.2.2.2.1.ai bM).two;have cV:=be.lt;have cz:=ah bM be;clear hU cl be bM aN;go_upto_region 3 with(fail);clear d0 aL aM;generalize ct:World.alloc _ _=Y;have bG:=aX ct;have bw:=aK ct;have cY:=bw.lt;have bB:=ah bG bw;clear ct bG bw;go_wp2_with(fail);go_loopw [13] (λcu wr=>∃(k:Nat) (A:Lp) (c:Nat),cu=.int .i64 k/\k<=j/\Fr (λb=>b=U.heap.size) Y wr/\aq wr U.heap.size 75 #[.int .i64 x.target,.int .i64 0,.slice A k c,.slice none 0 0]/\Gr (λ_=>False) Y.heap.size 3 1 wr A k c (((x.ints.take k).map λe=>(ev s.globals f.ints e).1).map D.i)/\vQ s.globals f.ints x.ints k) (λcu _=>j - (intOf cu).toNat)
 case atStart=>exact⟨0,none,0,rfl,ad,Ll,bB.2,Gr.nil _ _ _ _ _,λe he=>by simp at he⟩
 case round=>
  obtain⟨k,A,c,rfl,ap,aw,aR,hG,T⟩:=hrel;have V:Ext U wr:=Fr.low (M:=λb=>b=U.heap.size) (Fr.trans (Fr.mono bB.1 λ_ h=>h.elim) aw) λb O=>by rw[O];exact KD _
  have J:=cz.1.trans V;have aW:=cS aw aR hG T J V;have ds:=aw.size;by_cases ak:k<j
  .obtain⟨b,o,ex,cs,rfl,O,bb,Q,bj,Z⟩:=(ag.2.2.2.2.2.2.1.ints.on (Fr.ext J)).g0 c7 ak;exact sj
  .obtain rfl:k=j:=ad;have y:cM s.globals f.ints x.ints=(x.ints.map λe=>(ev s.globals f.ints e).1,0):=nn λe he=>T e (by rw[KL (aC aQ.2.2.2.1)];exact he);have bQ:Gr (λ_=>False) Y.heap.size 3 1 wr A k c ((cM s.globals f.ints x.ints).1.map D.i):=by
    have a2:=hG;rw[KL (aC aQ.2.2.2.1)] at a2;rw[y];exact a2
   obtain⟨cL,rfl⟩:∃cL,cL=wr:=⟨wr,rfl⟩
   have HA:=ah bQ y;obtain⟨d0,aL,aM⟩:=(ag.2.2.2.1.ai J).two;clear aw aR hG T J V y bQ;go_wp2_with(fail);clear d0 aL aM;go_loopw [16] (λcu wr=>∃(m:Nat) (B:Lp) (aJ:Nat),cu=.int .i64 m/\m<=dj/\Fr (λb=>b=U.heap.size) cL wr/\aq wr U.heap.size 75 #[.int .i64 x.target,.int .i64 0,.slice A k c,.slice B m aJ]/\Gr (λ_=>False) cL.heap.size 3 1 wr B m aJ (((x.places.take m).map λp=>(bF u s f p).1).map D.i)/\∀p∈x.places.take m,(bF u s f p).2=0) (λcu _=>dj - (intOf cu).toNat)
   case atStart=>exact⟨0,none,0,rfl,ad,Ll,aW.2.1,Gr.nil _ _ _ _ _,λe he=>by simp at he⟩
   case round=>
    obtain⟨m,B,aJ,rfl,hm,aw,aR,hG,T⟩:=hrel;have V:Ext U wr:=Fr.low (M:=λb=>b=U.heap.size) (Fr.trans (Fr.mono aW.2.2.2.2.2 λ_ h=>h.elim) aw) λb O=>by rw[O];exact KD _
    have J:=cz.1.trans V;have bU:=cS aw aR hG T J V;have bS:=aw.size;by_cases dq:m<dj
    .obtain⟨b,o,pl,cU,b8,zc,rfl,O,bb,cr,cy,cd,bo,cQ⟩:=(ag.2.2.2.2.2.2.1.places.on (Fr.ext J)).oM dq;have aV:b<wr.heap.size:=O;have ao:=aD bb bo cQ;obtain⟨a0,ai,af⟩:=(ag.2.1.ai J).two;obtain⟨a8,am,aF⟩:=(ag.2.2.1.ai J).two;obtain⟨d0,aL,aM⟩:=(ag.2.2.2.1.ai J).two;clear bb bo cQ O aw aR hG T J V;go_upto_region 13 with(fail);refine eK (λ_=>False) [(0,0),(1,0),(2,3),(3,3),(4,0),(5,3),(6,3),(7,0),(8,2),(9,3),(10,3),(11,3),(12,3),(13,3)] ?_
     iterate 2 refine ph ?_
     iterate 2 refine pf ?_
     refine ph ?_
     iterate 2 refine pf ?_
     refine ph ?_;refine ax rfl (λK hK=>?_);go_simp;have aa:Ext wr wr.drew:=(Fr.refl _ wr).drew;have cD:=bU.2.2.2.2.1.trans aa;refine(qn u s t f pl N wr.drew ⟨GA,gn,gc,MA,mn,mc,PA,pn,pc⟩ ⟨bR,bV,bC,TA,tn,tc,some ⟨bm,bn,none⟩,hn,hc⟩ cU b8 zc ⟨aQ.1.hU.ok,aQ.1.hS,aQ.1.sm,aQ.1.ht,⟨cq,aQ.1.hp,aQ.2.2.1 pl (KG ao.1)⟩,ag.2.2.2.2.1.on cD,ag.2.2.2.2.2.1.on cD,dT.2 ⟨cU,b8,zc,rfl,ao.2.1,ao.2.2.on (Fr.ext aa)⟩⟩).mono ?_;rintro e aT ⟨rfl,bg⟩;rw[iw aQ.1.ht];have a4:=ae (show Ext wr aT from Fr.aF (Fr.of bg));have an:=λbt=>lY (k:=m) bU.2.2.2.1 ao.1 bt;generalize ar:bF u s f pl=R at *;obtain⟨r,z⟩:=R;have b1:=ah an ar;clear an ar bg aa cD a0 ai af a8 am aF d0 aL aM cr cy cd aV;refine dO hK ?_;clear hK K
     iterate 5 refine pf ?_
     refine aE ?_;have bs:=bU.2.1.ai a4.o;have br:=ae bs;obtain⟨e0,a6,aP⟩:=bs.two;have cO:=a4.size;by_cases bt:z=0
     .have q5:(z != 0)=false:=by simpa using bt
      have P:=ae (bU.2.2.1.ai a4.o);have bf:=ae bt;clear bt bs;go_wp2_with(at_builtin;refine bP de rfl (.tmp 82) (.tmp 84) rfl P.o (d:=D.i r) (cs:=#[.int .i64 r]) (by simp only[D.rep]) rfl rfl rfl ad ad ad ?_;intro cC bh bX ca g2 cT c8;have bD:=br.on g2 (λhm=>by have:=(P.lt hm).1;omega);clear e0 a6 aP;obtain⟨e0,a6,aP⟩:=bD.two;have b4:=aD ca g2 bD;clear ca g2 cT c8 bD);generalize hX:World.setCell _ _ _=X;have bz:aq X U.heap.size 75 #[.int .i64 x.target,.int .i64 0,.slice A k c,.slice cC (m+1) bh]:=hX▸b4.2.2.aM 3 _;have aY:Fr (λb=>b=U.heap.size) bX X:=hX▸(Fr.refl (λb=>b=U.heap.size) _).setCell (.inl rfl) _;have b5:Fr (λb=>b=U.heap.size) cL X:=Fr.DP (M:=λb=>b=U.heap.size\/(Value.slice B m aJ).ownBlock=some b) (Fr.trans (Fr.trans (Fr.mono (Fr.trans bU.1 (Fr.mono a4.o λ_ h=>h.elim)) λ_ h=>.inl h) (Fr.mono b4.2.1 λ_ h=>.inr h)) (Fr.mono aY λ_ h=>.inl h)) λb O hm=>hm.elim id λhm=>absurd (P.lt hm).1 ad;have cB:=b4.1.c8 aY λb O _=>⟨λh=>h,by rw[O];omega⟩
      have av:=aD bz b5 cB;clear hX bz aY b5 cB e0 a6 aP;go_roundw
      case rel=>
       refine⟨m+1,cC,bh,by go_num,ad,av.2.1,av.1,?_,λe he=>?_⟩
       .rw[aZ ao.1,KK,KK];have ac:=av.2.2;exact r0
       .rw[aZ ao.1] at he;rcases KM.1 he with he|he
        .exact bU.2.2.2.1 e he
        .rw[Lf.1 he,b1.2];exact bf.o
      case measure=>exact aG
     .have q5:(z != 0)=true:=by simpa using bt
      have bT:=ae (b1.1 bt);have bf:=ae bt;have aH:=bU.2.2.2.2.1.trans a4.o;have cm:=ag.2.2.2.2.2.2.2.2.ai aH;have b7:=ah cm (ag.1.trans aH);obtain⟨bl,aA,aO⟩:=cm.two;clear bt bs aH cm;go_wp2_with(fail);generalize hX:World.setCell _ _ _=X;obtain⟨bz,bp,b5⟩:=bA (w:=w) [.int .i64 x.target,.int .i64 0,.slice A k c,.slice B m aJ] (by rfl) b7.1 b7.2 ad hX;have av:=ae bp;clear hX bp b5 bl aA aO e0 a6 aP;obtain⟨bl,aA,aO⟩:=bz.two;refine Lk (v:=.tuple #[.agg #[.int .i64 x.target,.int .i64 0,.slice A k c,.slice B m aJ],.int .i64 z]) (by simp[results,Tryz.results37,go_sem,bl]) rfl ?_;refine⟨_,_,_,_,_,_,_,_,z,rfl,av.o,λh=>absurd ?_ h,λ_ _=>by rw[bT.o],λ_ h=>absurd h ?_⟩
      .rw[HA.2]
      .rw[bT.o];exact bf.o
    .obtain rfl:m=dj:=ad;have a9:bZ u s f x.places=(x.places.map λp=>(bF u s f p).1,0):=lZ λe he=>T e (by rw[KL (aC aQ.2.2.2.2.1)];exact he);have cf:Sl wr (λb=>cL.heap.size<=b/\b<wr.heap.size) B m ((bZ u s f x.places).1.map D.i):=by
      have a2:=hG;rw[KL (aC aQ.2.2.2.2.1)] at a2;rw[a9];exact a2.sl (λb _ h=>h.elim) λb ak O=>⟨O,ak⟩
     have b3:=hG.cap.1;have bQ:=HA.1.c8 aw λb O _=>⟨λh=>h,by rw[O];omega⟩
     obtain⟨cA,rfl⟩:∃cA,cA=wr:=⟨wr,rfl⟩
     have b9:=bL cf b3 a9 bQ;obtain⟨eB,dd,dS,f2,bY⟩:=aQ.2.2.2.2.2;have cb:=(List.getElem?_eq_some_iff.1 dd).1;have bk:=ag.2.2.2.2.1.at_.p.1;rw[KH] at bk;simp only at bk;obtain⟨pb,eX,cW,bx,b2,bK,e,dN,cP,cr,cy,cd,bv,cJ,_,_⟩:=ag.2.2.2.2.1.at_.proc (k:=x.target.toNat) (by show x.target.toNat<pn;omega);simp only at e;subst e;rw[dd] at cP;injection cP with cP;subst cP;have b0:=bY.ints;obtain⟨L,aI⟩:=KI (a:=eB.locals) ad;rw[aI] at bv;have dO:k<=L:=by have:=aQ.2.2.2.1;omega
     have co:L<=200:=ad;have cN:x.target<(pn:Int):=ad;have bE:eV u x.target=L:=by unfold eV;rw[dd];simp[aI]
     have cn:=aD bE dN bv;obtain⟨d0,aL,aM⟩:=(ag.2.2.2.1.ai J).two;clear aw aR hG T J V a9 cf bQ dd dS f2 bY cb bk dN cr cy cd bv cJ b0 aI bE;go_wp2_with(fail);clear d0 aL aM;go_loopw [97] (λ_ wr=>∃(bO:Nat) (A2:Lp) (c2:Nat),k<=bO/\bO<=L/\Fr (λb=>b=U.heap.size\/(Y.heap.size<=b/\b<cL.heap.size)) cA wr/\aq wr U.heap.size 75 #[.int .i64 x.target,.int .i64 0,.slice A2 bO c2,.slice B m aJ]/\Gr (λ_=>False) Y.heap.size 3 1 wr A2 bO c2 (((cM s.globals f.ints x.ints).1++List.replicate (bO - k) 0).map D.i)/\∀b,(Value.slice A2 bO c2).ownBlock=some b->(b<cL.heap.size\/cA.heap.size<=b)) (λ_ wr=>L - xx U.heap.size wr)
     case atStart=>exact⟨k,A,c,ad,dO,Ll,bU.2.1,by rw[Nat.sub_self,List.replicate_zero,Ld];exact b9.2.2.2,λb O=>.inl (HA.1.lt O).2⟩
     case round=>
      obtain⟨bO,A2,c2,ci,bc,aw,aR,hG,aB⟩:=hrel;have cE:=bB.1.size;have V:Ext U wr:=Fr.low (M:=λb=>b=U.heap.size\/(Y.heap.size<=b/\b<cL.heap.size)) (Fr.trans (Fr.mono bU.2.2.2.2.2 λ_ h=>h.elim) aw) λb O=>by rcases O with O|O<;>omega
      have J:=cz.1.trans V;have bW:=cS aw aR hG aB J V;have cQ:=aw.size;obtain⟨a0,ai,af⟩:=(ag.2.1.ai J).two;obtain⟨d0,aL,aM⟩:=(ag.2.2.2.1.ai J).two;obtain⟨e0,a6,aP⟩:=aR.two;have bv:=(J.cell cn.2.1 λh=>h).trans cn.2.2;have bk:pb<wr.heap.size:=KE cn.2.1 J.size;clear aw aR hG aB J V;by_cases bJ:bO<L
      .go_upto_region 17 with(fail);refine eK (λ_=>False) [(0,3),(1,0),(2,3),(3,3),(4,0),(5,3),(6,0),(7,3),(8,3),(9,0),(10,3)] ?_;refine pf ?_;refine ph ?_
       iterate 2 refine pf ?_
       refine ph ?_;refine pf ?_;refine ph ?_
       iterate 2 refine pf ?_
       refine ph ?_;refine pf ?_;refine aE ?_;generalize bN:World.drew wr=aT;have a3:Ext wr aT:=bN▸(Fr.refl _ wr).drew;clear bN a0 ai af d0 aL aM bv bk e0 a6 aP;have a4:=ae a3;have bs:=bW.2.1.ai a3;have br:=ae bs;have P:=ae (bW.2.2.1.ai a3);have cO:=a3.size;obtain⟨e0,a6,aP⟩:=bs.two;clear a3 bs;have di:(bO:Int)<(L:Int):=ad;have q7:decide ((bO:Int)<(L:Int))=true:=decide_eq_true di;go_wp2_with(at_builtin;refine bP de rfl (.tmp 99) (.tmp 100) rfl P.o (d:=D.i 0) (cs:=#[.int .i64 0]) (by simp only[D.rep]) rfl rfl rfl ad ad ad ?_;intro cC bh bX ca g2 cT c8;have bD:=br.on g2 (λhm=>by have:=(P.lt hm).1;omega);clear e0 a6 aP;obtain⟨e0,a6,aP⟩:=bD.two;have b4:=bL ca g2 bD cT;clear ca g2 cT c8 bD);generalize hX:World.setCell _ _ _=X;have bz:aq X U.heap.size 75 #[.int .i64 x.target,.int .i64 0,.slice cC (bO+1) bh,.slice B m aJ]:=hX▸b4.2.2.1.aM 2 _;have aY:Fr (λb=>b=U.heap.size) bX X:=hX▸(Fr.refl (λb=>b=U.heap.size) _).setCell (.inl rfl) _;have b5:Fr (λb=>b=U.heap.size\/(Y.heap.size<=b/\b<cL.heap.size)) cA X:=Fr.DP (M:=λb=>(b=U.heap.size\/(Y.heap.size<=b/\b<cL.heap.size))\/(Value.slice A2 bO c2).ownBlock=some b) (Fr.trans (Fr.trans (Fr.mono (Fr.trans bW.1 (Fr.mono a4.o λ_ h=>h.elim)) λ_ h=>.inl h) (Fr.mono b4.2.1 λ_ h=>.inr h)) (Fr.mono aY λ_ h=>.inl (.inl h))) λb O hm=>hm.elim id λhm=>.inr ⟨(P.lt hm).1,by rcases bW.2.2.2.1 b hm with h|h<;>omega⟩;have cB:=b4.1.c8 aY λb O _=>⟨λh=>h,by rw[O];omega⟩
       have cw:∀b,(Value.slice cC (bO+1) bh).ownBlock=some b->(b<cL.heap.size\/cA.heap.size<=b):=λb O=>(b4.2.2.2 b O).elim (λh=>bW.2.2.2.1 b h) λh=>.inr ad;have bd:L - xx U.heap.size X<L - xx U.heap.size wr:=by
        unfold xx;rw[bz.cell 2,bW.2.1.cell 2];show L - (bO+1)<L - bO
        omega
       have av:=cK bz b5 cB cw bd;clear hX bz aY b5 cB cw bd e0 a6 aP;go_roundw
       case rel=>
        refine⟨bO+1,cC,bh,ad,ad,av.2.1,av.1,?_,av.2.2.2.1⟩;rw[show bO+1 - k=(bO - k)+1 by omega,List.replicate_succ',<-List.append_assoc,KK];exact av.2.2.1
       case measure=>exact av.2.2.2.2
      .have dI:bO=L:=ad;have q7:decide ((bO:Int)<(L:Int))=false:=decide_eq_false ad;have c4:=ae dI;clear dI;go_upto_region 17 with(fail);refine eK (λ_=>False) [(0,3),(1,0),(2,3),(3,3),(4,0),(5,3),(6,0),(7,3),(8,3),(9,0),(10,3)] ?_;refine pf ?_;refine ph ?_
       iterate 2 refine pf ?_
       refine ph ?_;refine pf ?_;refine ph ?_
       iterate 2 refine pf ?_
       refine ph ?_;refine pf ?_;refine aE ?_;generalize bN:World.drew wr=aT;have a3:Ext wr aT:=bN▸(Fr.refl _ wr).drew;clear bN a0 ai af d0 aL aM bv bk e0 a6 aP;have cO:=a3.size;have bs:=bW.2.1.ai a3;have a7:Fr (λb=>b=U.heap.size\/(Y.heap.size<=b/\b<cL.heap.size)) cA aT:=Fr.trans bW.1 (Fr.mono a3 λ_ h=>h.elim);have aH:=bW.2.2.2.2.1.trans a3;have cm:=ag.2.2.2.2.2.2.2.2.ai aH;have b7:=bL cm (ag.1.trans aH) (bW.2.2.1.ai a3) a7;obtain⟨e0,a6,aP⟩:=bs.two;obtain⟨bl,aA,aO⟩:=cm.two;clear a3 bs aH cm a7;go_wp2_with(fail);generalize hX:World.setCell _ _ _=X;obtain⟨bz,bp,b5⟩:=bA (w:=w) [.int .i64 x.target,.int .i64 0,.slice A2 bO c2,.slice B m aJ] (by rfl) b7.1 b7.2.1 ad hX;have av:=ah bp b5;clear hX bp b5 bl aA aO e0 a6 aP;obtain⟨bl,aA,aO⟩:=bz.two;refine Lk (v:=.tuple #[.agg #[.int .i64 x.target,.int .i64 0,.slice A2 bO c2,.slice B m aJ],.int .i64 0]) (by simp[results,Tryz.results37,go_sem,bl]) rfl ?_;refine⟨_,_,_,_,_,_,_,_,0,rfl,av.1,λh=>absurd ?_ h,λ_ h=>absurd ?_ h,λ_ _=>⟨rfl,?_⟩⟩
       .rw[HA.2]
       .rw[b9.2.2.1]
       .have cG:=ag.2.2.2.2.2.2.2.2.lt;have bi:=cz.1.size;have c6:=bB.1.size;have da:=aW.1.size;have dh:=bU.1.size;have ck:=b7.2.2.2.size;have cZ:=av.2.size;have gr:=b7.2.2.1.c8 av.2 λb O _=>⟨λh=>h,by rw[O];omega⟩
        refine gb.2 ⟨A2,bO,c2,B,m,aJ,rfl,b7.2.2.1.cap.1,b9.2.1,?_,?_⟩
        .have hlen:(cM s.globals f.ints x.ints).1.length=k:=by rw[HA.2];simp[aQ.2.2.2.1]
         show Sl X _ A2 bO (((cM s.globals f.ints x.ints).1++List.replicate (eV u x.target - (cM s.globals f.ints x.ints).1.length) 0).map D.i)
         rw[cn.1,hlen,<-c4.o];exact gr.sl (λb _ h=>h.elim) λb ak O=>⟨ad,ak⟩
        .show Sl X _ B m ((bZ u s f x.places).1.map D.i)
         refine(b9.1.ak (ab:=X) λb O=>?_).mono λb O=>⟨ad,ad⟩
         rw[av.2.block b ad ad,b7.2.2.2.block b O.2 ad]
 ):p:=h
end CN
open CN in
theorem ug(u:ay)(s:aj)(t:Int)(f:al)(cq:cH)(x:az)(N:Nat)(w:World)(p:UV)(q:SV)(v:IV)(h:jO u s t f cq x N)(cx:x.op=2\/x.op=3)(hu:p.Ok w u)(hs:q.Ok w s)(bI:v.Ok w x) :
  Calls prog 37 #[.agg (p.val u),.agg (q.val s),.int .i64 t,.agg (v.val x)] w (GN w u x (cM s.globals f.ints x.ints) (bZ u s f x.places)):=by
 exact hr
namespace CO
theorem vc(h:p:=by
 rw[bT.o];exact ff (B:=V.heap.size) bB.1 bf.2 (λb O=>⟨λhl=>by have:=G.o b hl;omega,ad⟩) (λb O=>by have:=G.o b O;omega) ad bf.1 (by rw[ud bU.2.1])
 ):p:=h
theorem dB(h:p:=by
 generalize b3:World.setCell _ _ _=dE;obtain⟨cv,bO⟩:=y.1.push cQ.1 (λb hm=>⟨(cQ.2 b hm).1,(cQ.2 b hm).2.1,(cQ.2 b hm).2.2.1,(cQ.2 b hm).2.2.2.1⟩) cC.1 cC.2.1 cC.2.2 b3;have cW:Fr (λb=>b=lb\/b=O) A dE:=by
  rw[<-b3];exact Fr.setCell (Fr.mono cC.2.1 λ_ h=>.inl h) (.inl (.inr rfl)) _
 have cf:=(aQ.1.lo O (by simp)).1;have i:Ext V dE:=Fr.low (M:=λb=>b=lb\/b=O) (Fr.trans (Fr.mono y.2.1 λ_ h=>h.elim) cW) λb O=>by rcases O with O|O<;>omega
 have bB:=aD cv bO (bN.trans i);have bs:=i.size;clear b3 cv bO cW i bp bF dA dX;exact vb
 ):p:=h
theorem r8(h:p:=by
 clear b4 cw aY;rcases cz.o with h|h
 all_goals
  first
   | have q1:(x.op == 1)=true:=by simpa using h
   | have q1:(x.op == 1)=false:=by simp;omega
  first
   | have cI:(x.op == 2)=true:=by simpa using h
   | have cI:(x.op == 2)=false:=by simp;omega
  first
   | have dd:(x.op == 3)=true:=by simpa using h
   | have dd:(x.op == 3)=false:=by simp;omega
  first
   | have df:(x.op == 4)=true:=by simpa using h
   | have df:(x.op == 4)=false:=by simp;omega
  first
   | have q5:(x.op == 5)=true:=by simpa using h
   | have q5:(x.op == 5)=false:=by simp;omega
  first
   | have di:(x.op == 6)=true:=by simpa using h
   | have di:(x.op == 6)=false:=by simp;omega
  first
   | have q7:(x.op == 7)=true:=by simpa using h
   | have q7:(x.op == 7)=false:=by simp;omega
  first
   | have dI:(x.op == 8)=true:=by simpa using h
   | have dI:(x.op == 8)=false:=by simp;omega
  have dh:=ae h;clear h;go_wp2_with(fail);refine(ug u s t f cq x N X ⟨GA,gn,gc,MA,mn,mc,PA,pn,pc⟩ ⟨bR,bV,bC,TA,tn,tc,HA,hn,hc⟩ ⟨eo,en,es,EA,em,ec,QA,qm,qc,dg,j,c9,KA,dj,kc⟩ l.o cz.o (ag.2.2.2.2.1.on aQ.2.2) (ag.2.2.2.2.2.on aQ.2.2) (dD.on aQ.2.1)).mono ?_;rintro e cL ⟨av,aB,FA,cP,bk,dC,fl,bx,z,rfl,cB,cV,c4,ak⟩;have ac:=ae (JD (u:=u) (s:=s) (t:=t) (f:=f) (x:=x) cz.o);have cj:=ae cB;clear cB;generalize cM s.globals f.ints x.ints=aa at *;generalize bZ u s f x.places=bb at *;obtain⟨dR,a1⟩:=aa;obtain⟨bi,bz⟩:=bb;clear a0 ai af a8 am aF d0 aL aM e0 a6 aP c0 c1 c2 c3 H flb J bj k cm;by_cases aJ:a1=0
  case neg=>
   obtain rfl:=cV aJ;have bT:=ae (ac.Ia aJ);have EB:(z == 0)=false:=by simpa using aJ
   have IC:(z != 0)=true:=by simpa using aJ
   clear aJ cV c4 ak ac;exact FX
  by_cases I:bz=0
  case neg=>
   obtain rfl:=c4 aJ I;have bT:=ae (ac.Ib aJ I);have EB:(z == 0)=false:=by simpa using I
   have IC:(z != 0)=true:=by simpa using I
   clear aJ I cV c4 ak ac;exact FX
  obtain⟨rfl,b5⟩:=ak aJ I;generalize cX:da u x.target dR bi=R at *
 ·
  have bT:=ae (ac.call aJ I dh.o);rw[cX] at bT;have a5:=ae b5;clear aJ I cV c4 ak ac cX b5;go_upto_region 24 with(fail);generalize bw:World.alloc _ _=A;have n:=aX bw;have br:=aK bw;have r:=cj.trans n;have y:=aD (RO.ai aQ.1 r) (aQ.2.1.trans r) (aQ.2.2.trans r);have Y:=ah br n;have bo:=n.size;have dt:=cj.size;have T:=ae y.2.2;clear bw n r;obtain⟨a8,am,aF⟩:=(ag.2.2.1.ai y.2.2).two;obtain⟨d0,aL,aM⟩:=(bJ.ai y.2.1).two;obtain⟨e0,a6,aP⟩:=y.1.o.two;obtain⟨bj,k,flb,J,H,c0,c1,c2,c3,cm⟩:=y.1.top;obtain⟨f0,dH,dL⟩:=br.two;clear br;have ar:(er R).rep A (fresh X cL) [.int .i64 av,.int .i64 aB,.slice FA cP bk,.slice dC fl bx]:=D.aS (λb O=>Y.2.block b O.2 λh=>h) _ _ a5.o;have S:=aQ.1.lo;have cF:∀b,fresh X cL b->V.heap.size<=b/\b<A.heap.size/\b≠O/\b≠lb/\b≠bX.heap.size:=λb aV=>⟨by have:=aV.1;omega,by have:=aV.2;omega,λhe=>by have:=(S O (by simp)).2;have:=aV.1;omega,λhe=>by have:=(S lb (by simp)).2;have:=aV.1;omega,λhe=>by have:=(S bX.heap.size (by simp)).2;have:=aV.1;omega⟩
  have cQ:=ah ar cF;clear ar cF S;have dp:=cd;obtain⟨bE,bH,b9,-,-⟩:=y.1.sep;have cb:=y.1.l;have dq:=ae cb;have d1:cL.heap.size≠lb:=by have:=(aQ.1.lo lb (by simp)).2;omega
  have dK:bX.heap.size≠lb:=bH;have ap:O≠lb:=b9;clear cb;go_upto_region 29 with(fail);refine eK (λb=>b=lb) [(0,3),(1,0),(2,3),(3,3),(4,0),(5,1),(6,1),(7,3),(8,3),(9,2)] ?_;refine pf ?_;refine oq ?_
  iterate 2 refine pf ?_
  refine oq ?_;refine qV ?_;refine l4 (λaU=>Ext A aU/\aq aU A.heap.size 75 #[.int .i64 av,.int .i64 aB,.slice FA cP bk,.slice dC fl bx]/\aU.heap.size=A.heap.size+1) ⟨by first|exact((Fr.refl _ A).drew).alloc _|exact((Fr.refl _ A).alloc _).drew,by first|exact Lm|exact aq.new A.drew _ _,by simp⟩ (λdS bq=>?_);have au:=ae bq;clear bq;refine aI rfl (λK hK=>?_);rw[if_pos (by rfl)];refine xW xk (.tmp 161) (.tmp 163) rfl (dq.ai au.1) au.2.1 rfl rfl rfl (by simp[Value.oneCell']) ad ad ?_;intro A2 ch cU ca g2 cT;have cW:Fr (λb=>b=lb) dS cU:=g2.mono λb O=>Lf.1 O;refine dz hK (cW) ?_;clear hK K;have a2:Fr (λb=>b=lb) A cU:=Fr.trans (au.1.mono λ_ h=>h.elim) cW;have cC:=aD ca a2 (λb O=>(cT b O).imp (λh=>Lf.1 h) (λh=>(⟨by have:=au.2.2;omega,h.2⟩:A.heap.size<=b/\b<cU.heap.size)));have bp:=(a2.cell (j:=t.toNat) k ap).trans H;have bF:∀j,cU.frozen? ⟨O,j,none⟩=false:=λj=>(a2.frozen k ap).trans (J j);have dA:=a2.size;clear ca g2 cT cW a2 e0 a6 aP f0 dH dL d0 aL aM a8 am aF c0 c1 c2 c3 H flb J;exact A9
 ·
  have bt:=ah (ac.many aJ I dh.o) (ac.go aJ I dh.o);rw[cX] at bt;have a5:=ae b5;clear aJ I cV c4 ak ac cX b5;by_cases bg:32<=hn
  .have dw:decide ((hn:Int)>=32)=true:=by simpa using (by omega:(32:Int)<=(hn:Int))
   have bT:=ae (bt.1 (by rw[<-bU.2.2.2.2];exact bg));clear bg bt;go_upto_region 24 with(fail);generalize bw:World.alloc _ _=A;have n:=aX bw;have br:=aK bw;have r:=cj.trans n;have y:=aD (RO.ai aQ.1 r) (aQ.2.1.trans r) (aQ.2.2.trans r);have Y:=ah br n;have bo:=n.size;have dt:=cj.size;have T:=ae y.2.2;clear bw n r;obtain⟨a8,am,aF⟩:=(ag.2.2.1.ai y.2.2).two;obtain⟨d0,aL,aM⟩:=(bJ.ai y.2.1).two;obtain⟨e0,a6,aP⟩:=y.1.o.two;obtain⟨bj,k,flb,J,H,c0,c1,c2,c3,cm⟩:=y.1.top;obtain⟨f0,dH,dL⟩:=br.two;clear br;have de:=T.size;go_wp2_with(fail);refine(oQ P s ⟨bR,bV,bC,TA,tn,tc,HA,hn,hc⟩ 4 A (cc.2.2.GD G.o (ag.1.trans T.o)) (λb O=>KE (G.o b O) (ag.1.trans T.o).size)).mono ?_;rintro e c7 ⟨⟨ds,bn,bP,be,cg,bK,bQ,cG,ci⟩,rfl,bY,b0⟩;have f2:=b0.size;have c5:=ae bY;have aW:=ah (ag.2.2.2.1.ai (T.trans b0)) ((ag.1.trans T.o).trans b0);clear bY b0 f0 dH dL d0 aL aM e0 a6 aP c0 c1 c2 c3 H flb J bj k cm a8 am aF;obtain⟨bl,aA,aO⟩:=aW.1.two;go_wp2_with(fail);generalize hX:World.setCell _ _ _=Z;obtain⟨bh,a9,bd⟩:=bA (w:=w) [.slice ds bn bP,.slice be cg bK,.slice bQ cG ci,.int .i64 4] (by rfl) aW.1 aW.2 ad hX;have bf:=ah a9 bd;clear hX a9 bd bl aA aO;obtain⟨bl,aA,aO⟩:=bh.two;refine Lk (v:=.tuple #[.agg #[.slice ds bn bP,.slice be cg bK,.slice bQ cG ci,.int .i64 4],.bool true]) (by simp[results,Tryz.results10,go_sem,bl]) rfl ?_;rw[bT.o];exact ff (B:=A.heap.size) (Q:={s with fault:=4}) c5.o bf.2 (λb O=>⟨λhl=>by have:=G.o b hl;omega,ad⟩) (λb O=>by have:=G.o b O;omega) ad bf.1 rfl
  .have dw:decide ((hn:Int)>=32)=false:=by simp;omega
   have bT:=ae (bt.2 (by rw[<-bU.2.2.2.2];exact bg));have bu:=bU.2.2.2.2;clear bg bt;go_upto_region 24 with(fail);generalize bw:World.alloc _ _=A;have n:=aX bw;have br:=aK bw;have r:=cj.trans n;have y:=aD (RO.ai aQ.1 r) (aQ.2.1.trans r) (aQ.2.2.trans r);have Y:=ah br n;have bo:=n.size;have dt:=cj.size;have T:=ae y.2.2;clear bw n r;obtain⟨a8,am,aF⟩:=(ag.2.2.1.ai y.2.2).two;obtain⟨d0,aL,aM⟩:=(bJ.ai y.2.1).two;obtain⟨e0,a6,aP⟩:=y.1.o.two;obtain⟨bj,k,flb,J,H,c0,c1,c2,c3,cm⟩:=y.1.top;obtain⟨f0,dH,dL⟩:=br.two;clear br;have ar:(er R).rep A (fresh X cL) [.int .i64 av,.int .i64 aB,.slice FA cP bk,.slice dC fl bx]:=D.aS (λb O=>Y.2.block b O.2 λh=>h) _ _ a5.o;have S:=aQ.1.lo;have cF:∀b,fresh X cL b->V.heap.size<=b/\b<A.heap.size/\b≠O/\b≠lb/\b≠bX.heap.size:=λb aV=>⟨by have:=aV.1;omega,by have:=aV.2;omega,λhe=>by have:=(S O (by simp)).2;have:=aV.1;omega,λhe=>by have:=(S lb (by simp)).2;have:=aV.1;omega,λhe=>by have:=(S bX.heap.size (by simp)).2;have:=aV.1;omega⟩
   have cQ:=ah ar cF;clear ar cF S;have aR:=y.1.hl;simp only[List.length_set] at aR;have cn:co<=1000:=ad;clear aR bu;obtain⟨bE,bH,b9,-,-⟩:=y.1.sep;have cb:=y.1.h.ai ((Fr.refl _ A).alloc (.cells #[.int .i64 av,.int .i64 aB,.slice FA cP bk,.slice dC fl bx] 75));have an:=y.1.o.ai ((Fr.refl _ A).alloc (.cells #[.int .i64 av,.int .i64 aB,.slice FA cP bk,.slice dC fl bx] 75));have dq:=ah cb an;clear cb an;go_upto_region 45 with(at_builtin;refine mZ sr rfl (.tmp 168) (.tmp 172) rfl dq.1 (cs:=#[.slice (some ⟨A.heap.size,0,none⟩) 1 1]) rfl rfl (by simp) rfl (by simp[Value.oneCell']) (by simp only;omega) (by simp only;omega) ?_;intro A2 ch cU ca g2 cT;have c8:=g2.mono (M':=λb=>b=O) (λb hm=>Lf.1 hm);have cD:=dq.2.on c8 bE;have cC:=aD ca c8 cT;clear ca g2 cT c8 e0 a6 aP f0 dH dL d0 aL aM a8 am aF;obtain⟨e0,a6,aP⟩:=cD.two;clear cD);generalize b3:World.setCell _ _ _=dE;obtain⟨cv,bO⟩:=y.1.start cQ.1 (λb hm=>⟨(cQ.2 b hm).1,(cQ.2 b hm).2.1,(cQ.2 b hm).2.2.1,(cQ.2 b hm).2.2.2.2⟩) rfl cC.1 cC.2.1 (λb hm=>(cC.2.2 b hm).imp (λh=>Lf.1 h) id) b3;have cW:Fr (λb=>b=O\/b=bX.heap.size) A dE:=by
    rw[<-b3];exact Fr.setCell (Fr.trans ((Fr.refl _ A).alloc _) (Fr.mono cC.2.1 λ_ h=>.inl h)) (.inl (.inr rfl)) _
   have cf:=(aQ.1.lo O (by simp)).1;have dn:=(aQ.1.lo bX.heap.size (by simp)).1;have i:Ext V dE:=Fr.low (M:=λb=>b=O\/b=bX.heap.size) (Fr.trans (Fr.mono y.2.1 λ_ h=>h.elim) cW) λb O=>by rcases O with O|O<;>omega
   have bB:=aD cv bO (bN.trans i);have bs:=i.size;clear b3 cv bO cW i e0 a6 aP c0 c1 c2 c3 H flb J;have aW:=ah (ag.2.2.2.1.ai bB.2.2) (ag.1.trans bB.2.2);have cE:=bB.2.2.size;obtain⟨bl,aA,aO⟩:=aW.1.two;obtain⟨e0,a6,aP⟩:=bB.2.1.two;go_wp2_with(fail);generalize hX:World.setCell _ _ _=Z;obtain⟨bh,a9,bd⟩:=bA (w:=w) [.slice bL cr bc,.slice ab m L,.slice A2 (co+1) ch,.int .i64 s.fault] (by rfl) aW.1 aW.2 ad hX;have bf:=ah a9 bd;clear hX a9 bd bl aA aO e0 a6 aP;obtain⟨bl,aA,aO⟩:=bh.two;refine Lk (v:=.tuple #[.agg #[.slice bL cr bc,.slice ab m L,.slice A2 (co+1) ch,.int .i64 s.fault],.bool true]) (by simp[results,Tryz.results10,go_sem,bl]) rfl ?_;exact CV
 ):p:=h
theorem sa(h:p:=by
 exact r7
 ):p:=h
theorem sc(h:p:=by
 exact r9
 ):p:=h
end CO
open CO in
theorem qq(u:ay)(s:aj)(t:Int)(f:al)(cq:cH)(x:az)(N:Nat)(P:Nat->Prop)(w:World)(p:UV)(q:SV)(h:jO u s t f cq x N)(hN:N<=100000)(cx:x.op=2\/x.op=3)(hu:p.Ok w u)(aC:q.Is w P s)(aZ:∀b,P b->b<w.heap.size) :
  Calls prog 10 #[.agg (p.val u),.agg (q.val s),.int .i64 t] w (cR P w (b2 u s t f x).1 (b2 u s t f x).2):=by
 exact sb
namespace CP
theorem AF(h:p:=by
 rw[bT.o];exact zw
 ):p:=h
theorem zZ(h:p:=by
 clear bY b0 a0 ai af d0 aL aM e0 a6 aP c0 c1 c2 c3 H flb J bj k cm a8 am aF;exact F8
 ):p:=h
theorem r8(h:p:=by
 clear b4 cw aY;rcases cz.o with h|h
 all_goals
  first
   | have q1:(x.op == 1)=true:=by simpa using h
   | have q1:(x.op == 1)=false:=by simp;omega
  first
   | have cI:(x.op == 2)=true:=by simpa using h
   | have cI:(x.op == 2)=false:=by simp;omega
  first
   | have dd:(x.op == 3)=true:=by simpa using h
   | have dd:(x.op == 3)=false:=by simp;omega
  first
   | have df:(x.op == 4)=true:=by simpa using h
   | have df:(x.op == 4)=false:=by simp;omega
  first
   | have q5:(x.op == 5)=true:=by simpa using h
   | have q5:(x.op == 5)=false:=by simp;omega
  first
   | have di:(x.op == 6)=true:=by simpa using h
   | have di:(x.op == 6)=false:=by simp;omega
  first
   | have q7:(x.op == 7)=true:=by simpa using h
   | have q7:(x.op == 7)=false:=by simp;omega
  first
   | have dI:(x.op == 8)=true:=by simpa using h
   | have dI:(x.op == 8)=false:=by simp;omega
  have dh:=ae h;clear h;go_wp2_with(fail);refine(qn u s t f x.place N X ⟨GA,gn,gc,MA,mn,mc,PA,pn,pc⟩ ⟨bR,bV,bC,TA,tn,tc,HA,hn,hc⟩ QA qm qc ⟨l.hU.ok,l.hS,l.sm,l.ht,⟨cq,l.hp,cn.1⟩,ag.2.2.2.2.1.on aQ.2.2,ag.2.2.2.2.2.on aQ.2.2,(dD.on aQ.2.1).place⟩).mono ?_;rintro e cL ⟨rfl,bu⟩;rw[iw l.ht];have cB:Ext X cL:=Fr.of bu;have b9:=cn.2.2;have ar:=ae K.o;generalize bF u s f x.place=R at *;obtain⟨au,z⟩:=R;have a2:=ae b9;have y:=aD (RO.ai aQ.1 cB) (aQ.2.1.trans cB) (aQ.2.2.trans cB);have cj:=ae y.2.2;have dt:=cB.size;clear b9 bu cB a0 ai af a8 am aF d0 aL aM e0 a6 aP c0 c1 c2 c3 H flb J bj k cm;obtain⟨a8,am,aF⟩:=(ag.2.2.1.ai y.2.2).two;obtain⟨d0,aL,aM⟩:=(bJ.ai y.2.1).two;obtain⟨e0,a6,aP⟩:=y.1.o.two;obtain⟨bj,k,flb,J,H,c0,c1,c2,c3,cm⟩:=y.1.top;obtain⟨a0,ai,af⟩:=(ag.2.1.ai cj.o).two;by_cases bt:z=0
  case neg=>
   have bT:=ae (ar.bad bt);have cT:(z != 0)=true:=by simpa using bt
   exact zY
  have cT:(z != 0)=false:=by simpa using bt
  have aU:=a2.2 bt;have aI:=lR l.hU.ok;have bi:au<=5000:=by simp only at aU;omega
  have bb:=ae bt;clear bt aU aI
 ·
  have bw:=ae (ar.lf bb.o dh.o);have bo:=ae (ar.ln bb.o dh.o);go_wp2_with(fail);refine(uj MA TA mn mc tn tc u.af s.table au t cL (ag.2.2.2.2.1.on cj.o).at_.m.om l.hU.ok.yp (ag.2.2.2.2.2.on cj.o).at_.t.holds cn.2.1 ad).mono ?_;intro e c7 ap;have ak:(fw u.af s.table au t).length=tn:=by rw[fa];exact bU.2.2.2.1.symm
  obtain⟨I,aJ,rfl,b3,cf,aB,S⟩:=ap.open_ (n:=tn) ak;have b0:Ext cL c7:=Fr.of S;generalize hT:fw u.af s.table au t=T at *;have r:Own c7 107 2 I tn aJ (T.flatMap bH) (bq I tn aJ):=⟨g9 aB (KZ _),rfl⟩
  have aE:∀b∈bq I tn aJ,cL.heap.size<=b/\b<c7.heap.size:=λb O=>aB.lt b (by simpa using O);have av:Sl c7 (λb=>cL.heap.size<=b/\b<c7.heap.size) I tn (T.map lh):=r.sl (dw _) (by rw[KH];exact ak) aE;have aR:=aD (RO.ai y.1 b0) (y.2.1.trans b0) (y.2.2.trans b0);have aa:=ah av b3;have cC:=b0.size;clear hT ak ap cf aB S b0 r aE av b3 a0 ai af a8 am aF d0 aL aM e0 a6 aP c0 c1 c2 c3 H flb J bj k cm;obtain⟨a8,am,aF⟩:=(ag.2.2.1.ai aR.2.2).two;obtain⟨d0,aL,aM⟩:=(bJ.ai aR.2.1).two;obtain⟨e0,a6,aP⟩:=aR.1.o.two;obtain⟨bj,k,flb,J,H,c0,c1,c2,c3,cm⟩:=aR.1.top;go_upto_region 38 with(fail);generalize hX:World.setCell _ _ _=Y;obtain⟨cv,bO⟩:=aR.1.HQ aa.1 aa.2 (λb aV=>.inr ⟨by have:=aQ.1.lo bX.heap.size (by simp);have:=aV.1;omega,aV.2,by have:=aQ.1.lo bX.heap.size (by simp);have:=aV.1;omega⟩) hX;have cW:=cJ hX;have dn:=(aQ.1.lo bX.heap.size (by simp)).1;have i:Ext V Y:=Fr.low (M:=λb=>b=bX.heap.size) (Fr.trans (Fr.mono aR.2.1 λ_ h=>h.elim) cW) λb O=>ad;have bB:=aD cv bO (bN.trans i);have bg:=ae bB.2.2;have bs:=i.size;clear hX cv bO cW i a8 am aF d0 aL aM e0 a6 aP c0 c1 c2 c3 H flb J bj k cm
  cases cb:free u.af s.table au t with
  | true=>
   exact F0
  | false=>
   have bT:=ae (bo.o cb);obtain⟨a8,am,aF⟩:=(ag.2.2.1.ai bg.o).two;have aW:=ah (ag.2.2.2.1.ai bg.o) (ag.1.trans bg.o);obtain⟨bl,aA,aO⟩:=aW.1.two;go_wp2_with(fail);generalize hX:World.setCell _ _ _=Z;obtain⟨bh,a9,bd⟩:=bA (w:=w) [.slice bR bV bC,.slice TA tn tc,.slice HA hn hc,.int .i64 s.fault] (by rfl) aW.1 aW.2 ad hX;exact AE
 ·
  have bw:=ae (ar.uf bb.o dh.o);have bo:=ae (ar.un bb.o dh.o);go_wp2_with(fail);refine(qX MA TA mn mc tn tc u.af s.table au t cL (ag.2.2.2.2.1.on cj.o).at_.m.om l.hU.ok.yp (ag.2.2.2.2.2.on cj.o).at_.t.holds cn.2.1 ad).mono ?_;intro e c7 ap;have ak:(cV u.af s.table au t).length=tn:=by rw[eZ];exact bU.2.2.2.1.symm
  obtain⟨I,aJ,rfl,b3,cf,aB,S⟩:=ap.open_ (n:=tn) ak;have b0:Ext cL c7:=Fr.of S;generalize hT:cV u.af s.table au t=T at *;have r:Own c7 107 2 I tn aJ (T.flatMap bH) (bq I tn aJ):=⟨g9 aB (KZ _),rfl⟩
  have aE:∀b∈bq I tn aJ,cL.heap.size<=b/\b<c7.heap.size:=λb O=>aB.lt b (by simpa using O);have av:Sl c7 (λb=>cL.heap.size<=b/\b<c7.heap.size) I tn (T.map lh):=r.sl (dw _) (by rw[KH];exact ak) aE;have aR:=aD (RO.ai y.1 b0) (y.2.1.trans b0) (y.2.2.trans b0);have aa:=ah av b3;have cC:=b0.size;clear hT ak ap cf aB S b0 r aE av b3 a0 ai af a8 am aF d0 aL aM e0 a6 aP c0 c1 c2 c3 H flb J bj k cm;obtain⟨a8,am,aF⟩:=(ag.2.2.1.ai aR.2.2).two;obtain⟨d0,aL,aM⟩:=(bJ.ai aR.2.1).two;obtain⟨e0,a6,aP⟩:=aR.1.o.two;obtain⟨bj,k,flb,J,H,c0,c1,c2,c3,cm⟩:=aR.1.top;go_upto_region 41 with(fail);generalize hX:World.setCell _ _ _=Y;obtain⟨cv,bO⟩:=aR.1.HQ aa.1 aa.2 (λb aV=>.inr ⟨by have:=aQ.1.lo bX.heap.size (by simp);have:=aV.1;omega,aV.2,by have:=aQ.1.lo bX.heap.size (by simp);have:=aV.1;omega⟩) hX;have cW:=cJ hX;have dn:=(aQ.1.lo bX.heap.size (by simp)).1;have i:Ext V Y:=Fr.low (M:=λb=>b=bX.heap.size) (Fr.trans (Fr.mono aR.2.1 λ_ h=>h.elim) cW) λb O=>ad;have bB:=aD cv bO (bN.trans i);have bg:=ae bB.2.2;have bs:=i.size;clear hX cv bO cW i a8 am aF d0 aL aM e0 a6 aP c0 c1 c2 c3 H flb J bj k cm
  cases cb:heldBy u.af s.table au t with
  | true=>
   exact F0
  | false=>
   have bT:=ae (bo.o cb);obtain⟨a8,am,aF⟩:=(ag.2.2.1.ai bg.o).two;have de:=bg.size;go_wp2_with(fail);refine(oQ P s ⟨bR,bV,bC,TA,tn,tc,HA,hn,hc⟩ 3 Y (cc.2.2.GD G.o (ag.1.trans bg.o)) (λb O=>KE (G.o b O) (ag.1.trans bg.o).size)).mono ?_;rintro e c7 ⟨⟨ds,bn,bP,be,cg,bK,bQ,cG,ci⟩,rfl,bY,b0⟩;have f2:=b0.size;have c5:=ae bY;have aW:=ah (ag.2.2.2.1.ai (bg.trans b0)) ((ag.1.trans bg.o).trans b0);clear bY b0 a8 am aF;obtain⟨bl,aA,aO⟩:=aW.1.two;go_wp2_with(fail);generalize hX:World.setCell _ _ _=Z;obtain⟨bh,a9,bd⟩:=bA (w:=w) [.slice ds bn bP,.slice be cg bK,.slice bQ cG ci,.int .i64 3] (by rfl) aW.1 aW.2 ad hX;have bf:=ah a9 bd;clear hX a9 bd bl aA aO;obtain⟨bl,aA,aO⟩:=bh.two;refine Lk (v:=.tuple #[.agg #[.slice ds bn bP,.slice be cg bK,.slice bQ cG ci,.int .i64 3],.bool true]) (by simp[results,Tryz.results10,go_sem,bl]) rfl ?_;rw[bT.o];exact ff (B:=Y.heap.size) (Q:={s with fault:=3}) c5.o bf.2 (λb O=>⟨λhl=>by have:=G.o b hl;omega,ad⟩) (λb O=>by have:=G.o b O;omega) ad bf.1 rfl
 ):p:=h
theorem sa(h:p:=by
 exact r7
 ):p:=h
theorem sc(h:p:=by
 have bk:cU (bx u) cq.locals cq.au x.place:=by
  exact y5
 have ax:=h.hS.yO;have cD:t<=1000:=ad;have bZ:=h.hS.tok hN;have b9:=jt (s:=s) (nl:=cq.locals) (nk:=f.au.length) h.hU.ok h.hF (Int.le_refl _) (by rw[h.hF.sM h.hp];exact bk);have K:=ae (JF (u:=u) (s:=s) (t:=t) (f:=f) (x:=x) cx);have cn:=aD bk bZ b9;clear bk bZ b9 ax;exact r9
 ):p:=h
end CP
open CP in
theorem qt(u:ay)(s:aj)(t:Int)(f:al)(cq:cH)(x:az)(N:Nat)(P:Nat->Prop)(w:World)(p:UV)(q:SV)(h:jO u s t f cq x N)(hN:N<=100000)(cx:x.op=4\/x.op=5)(hu:p.Ok w u)(aC:q.Is w P s)(aZ:∀b,P b->b<w.heap.size) :
  Calls prog 10 #[.agg (p.val u),.agg (q.val s),.int .i64 t] w (cR P w (b2 u s t f x).1 (b2 u s t f x).2):=by
 exact sb
end Go.Proofs.YtglbpimocmhojaaGreat

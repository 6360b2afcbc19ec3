/- Part 46 of the proof. No condition of its own. -/
import Derived.Test.YtkhnkojkplbioaaGreatQ26
namespace Go.Proofs.YtkhnkojkplbioaaGreat
open Go.RowKit Go.Proofs.Tryz
set_option maxRecDepth 1000000
set_option maxHeartbeats 25600000
set_option linter.unusedVariables false
variable{p:Prop}
theorem Fr.EC{M M':Nat->Prop}{a b:World}(h:Fr M a b)(hM:∀k,k<a.heap.size->M k->M' k):Fr M' a b:=⟨h.os,h.tape,h.output,h.size,λk ap hn=>h.block k ap λhm=>hn (hM k ap hm)⟩
def yb(g:Nat)(w:World):Nat:=match w.cell? ⟨g,2,none⟩ with|some (.slice _ n _)=>n|_=>0
def Hy(w:World)(u:ay)(x:az)(a b:List Int×Int)(e:Ending)(ab:World):Prop:=∃(av aB:Int) (IA:L3) (i ic:Nat) (S:L3) (l lc:Nat) (z:Int),e=.returned (.tuple #[.agg #[.int .i64 av,.int .i64 aB,.slice IA i ic,.slice S l lc],.int .i64 z])/\Ext w ab/\
 (a.2≠0->z=a.2)/\(a.2=0->b.2≠0->z=b.2)/\(a.2=0->b.2=0->z=0/\(ew (cY u x.target a.1 b.1)).rep ab (fresh w ab) [.int .i64 av,.int .i64 aB,.slice IA i ic,.slice S l lc])
namespace Dx
theorem sX(h:p:=by
 have ao:=ag bb Q;obtain⟨d0,aL,aM⟩:=(ah.2.2.2.1.aj J).two;obtain⟨a7,am,aF⟩:=(ah.2.2.1.aj J).two;obtain⟨f0,dL,dO⟩:=(cD.2.aj V).two;clear bb Q cV Z a8 O aw aR hG T J V;go_upto_region 6 with(fail);refine eC (λ_=>False) [(0,3),(1,0),(2,3),(3,3),(4,0),(5,3),(6,0),(7,3),(8,0),(9,2),(10,3),(11,3),(12,3),(13,3),(14,3)] ?_;refine pf ?_;refine ph ?_
 iterate 2 refine pf ?_
 refine ph ?_;refine pf ?_;refine ph ?_;refine pf ?_;refine ph ?_;refine ax rfl (λK hK=>?_);go_simp;have aa:Ext wr wr.drew:=(Fr.refl _ wr).drew;obtain⟨cv,cU⟩:=aQ.1.FV (aQ.2.1 ex (Ln ao.1)) ((ah.2.2.2.2.2.1.on a3.2.2.2.2.1).on aa).at_.g ((ah.2.2.2.2.2.2.2.1.on a3.2.2.2.2.1).on aa).ints (D.on ao.2 (Fr.ext aa));refine(nO ex wr.drew bU IA bW i bE ic s.globals f.ints _ _ _ _ cv cU).mono ?_;rintro e aU ⟨rfl,bj⟩;have aX:=ae (show Ext wr aU from Fr.aF (Fr.of bj));have an:=λbv=>nG (k:=k) a3.2.2.2.1 ao.1 bv;generalize ar:ev s.globals f.ints ex=R at *;obtain⟨r,z⟩:=R;have bO:=ag an ar;clear an ar bj aa d0 aL aM a7 am aF f0 dL dO c0 c1 c2 c3 aT cv cU;refine dP hK ?_;clear hK K
 iterate 5 refine pf ?_
 refine aC ?_;have bC:=a3.2.1.aj aX.o;have bB:=ae bC;obtain⟨e0,a6,aP⟩:=bC.two;have cQ:=aX.size;by_cases bv:z=0
 .have q5:(z != 0)=false:=by simpa using bv
  have P:=ae (a3.2.2.1.aj aX.o);have bh:=ae bv;clear bv bC;go_wp2_with(at_builtin;refine bT dh rfl (.tmp 53) (.tmp 55) rfl P.o (d:=D.i r) (cs:=#[.int .i64 r]) (by simp only[D.rep]) rfl rfl rfl ad ad ad ?_;intro cE bk b6 cb g2 cT da;have bD:=bB.on g2 (λhm=>by have:=(P.lt hm).1;omega);clear e0 a6 aP;obtain⟨e0,a6,aP⟩:=bD.two;have bY:=aE cb g2 bD;clear cb g2 cT da bD);generalize hX:World.setCell _ _ _=X;have br:aq X U.heap.size 72 #[.int .i64 x.target,.int .i64 0,.slice cE (k+1) bk,.slice none 0 0]:=hX▸bY.2.2.aM 2 _;have a2:Fr (λb=>b=U.heap.size) b6 X:=hX▸(Fr.refl (λb=>b=U.heap.size) _).setCell (.inl rfl) _;have cz:Fr (λb=>b=U.heap.size) Y X:=Fr.EC (M:=λb=>b=U.heap.size\/(Value.slice A k c).ownBlock=some b) (Fr.trans (Fr.trans (Fr.mono (Fr.trans a3.1 (Fr.mono aX.o λ_ h=>h.elim)) λ_ h=>.inl h) (Fr.mono bY.2.1 λ_ h=>.inr h)) (Fr.mono a2 λ_ h=>.inl h)) λb O hm=>hm.elim id λhm=>absurd (P.lt hm).1 ad;have bI:=bY.1.c8 a2 λb O _=>⟨λh=>h,by rw[O];omega⟩
  have av:=aE br cz bI;clear hX br a2 cz bI e0 a6 aP;go_roundw
  case rel=>
   refine⟨k+1,cE,bk,by go_num,ad,av.2.1,av.1,?_,λe he=>?_⟩
   .rw[a1 ao.1,Lr,Lr];have ac:=av.2.2;exact sG
   .rw[a1 ao.1] at he;rcases Lt.1 he with he|he
    .exact a3.2.2.2.1 e he
    .rw[LO.1 he,bO.2];exact bh.o
  case measure=>exact aH
 .have q5:(z != 0)=true:=by simpa using bv
  have bX:=ae (bO.1 bv);have bh:=ae bv;have aJ:=a3.2.2.2.2.1.trans aX.o;have ct:=ah.2.2.2.2.2.2.2.2.aj aJ;have cB:=ag ct (ah.1.trans aJ);obtain⟨bl,aA,aO⟩:=ct.two;clear bv bC aJ ct;go_wp2_with(fail);generalize hX:World.setCell _ _ _=X;obtain⟨br,bs,cz⟩:=bw (w:=w) [.int .i64 x.target,.int .i64 0,.slice A k c,.slice none 0 0] (by rfl) cB.1 cB.2 ad hX;have av:=ae bs;clear hX bs cz bl aA aO e0 a6 aP;obtain⟨bl,aA,aO⟩:=br.two;refine LU (v:=.tuple #[.agg #[.int .i64 x.target,.int .i64 0,.slice A k c,.slice none 0 0],.int .i64 z]) (by simp[results,Tryz.results59,go_sem,bl]) rfl ?_;refine⟨_,_,_,_,_,_,_,_,z,rfl,av.o,λ_=>by rw[bX.o],λh=>absurd h ?_,λh=>absurd h ?_⟩
  .rw[bX.o];exact bh.o
  .rw[bX.o];exact bh.o
 ):p:=h
theorem hE(h:p:=by
 obtain⟨eo,en,es,EA,em,ec,QA,qm,qc,dg,j,dc,KA,dj,kc⟩:=v;obtain⟨bm,bn,cj,cY,n,fc,IA,i,ic,S,l,lc,e,hT⟩:=hs.at_.top h.sm h.ht;simp only at e;subst e;obtain⟨bV,b5,cF,co⟩:=h.args cA;have bq:x.ints.length=j:=by have:=bG.ints.1;simpa using this
 have aV:x.places.length=dj:=by have:=bG.places.1;simpa using this
 have ci:j<=200:=by have:=h.il;omega
 have cN:dj<=200:=by have:=h.kl;omega
 have aQ:=cH h bV b5 bq aV co;have ce:=bJ hu hs bG hT;clear h bV b5 bq aV co hu hs bG hT;dsimp only[UV.val,SV.val,IV.val];go_enter func59,ntmps59;go_upto_region 1 with(fail);generalize be:World.alloc _ _=W;have aw:=IZ be;have b4:=GI be;have cf:=GJ be;have ba:=GK be;have ct:=GL be;have ah:=xK aw b4 cf ba (ce.1.on aw) (ce.2.1.on aw) (ce.2.2.1.on aw) (ce.2.2.2.on aw) ct;obtain⟨a7,am,aF⟩:=cf.two;clear be aw b4 cf ba ce ct;go_wp2_with(fail);refine(nP ah.2.2.2.2.2.2.2.1 _ _ _).mono ?_;rintro e aS ⟨rfl,aN⟩;have bx:=ae aN;clear a7 am aF;go_upto_region 2 with(fail);generalize hU:World.alloc _ _=U;have cw:=aW hU;have bf:=aI hU;have bF:=aN.trans cw;obtain⟨d0,aL,aM⟩:=(ah.2.2.2.1.aj bF).two;have cr:=bf.lt;have cD:=ag bF bf;clear hU cw bf bF aN;go_upto_region 3 with(fail);clear d0 aL aM;generalize cu:World.alloc _ _=Y;have bt:=aW cu;have bg:=aI cu;have cO:=bg.lt;have bu:=ag bt bg;clear cu bt bg;go_wp2_with(fail);go_loopw [13] (λcy wr=>∃(k:Nat) (A:L3) (c:Nat),cy=.int .i64 k/\k<=j/\Fr (λb=>b=U.heap.size) Y wr/\aq wr U.heap.size 72 #[.int .i64 x.target,.int .i64 0,.slice A k c,.slice none 0 0]/\Gr (λ_=>False) Y.heap.size 3 1 wr A k c (((x.ints.take k).map λe=>(ev s.globals f.ints e).1).map D.i)/\wH s.globals f.ints x.ints k) (λcy _=>j - (intOf cy).toNat)
 case atStart=>exact⟨0,none,0,rfl,ad,LW,bu.2,Gr.nil _ _ _ _ _,λe he=>by simp at he⟩
 case round=>
  obtain⟨k,A,c,rfl,ap,aw,aR,hG,T⟩:=hrel;have V:Ext U wr:=Fr.low (M:=λb=>b=U.heap.size) (Fr.trans (Fr.mono bu.1 λ_ h=>h.elim) aw) λb O=>by rw[O];exact Lk _
  have J:=cD.1.trans V;have a3:=cH aw aR hG T J V;have gr:=aw.size;by_cases al:k<j
  .obtain⟨b,o,ex,cs,rfl,O,bb,Q,a8,Z⟩:=(ah.2.2.2.2.2.2.1.ints.on (Fr.ext J)).g6 db al;exact sW
  .obtain rfl:k=j:=ad;have y:cC s.globals f.ints x.ints=(x.ints.map λe=>(ev s.globals f.ints e).1,0):=nH λe he=>T e (by rw[Ls (aD aQ.2.2.2.1)];exact he);have bH:Gr (λ_=>False) Y.heap.size 3 1 wr A k c ((cC s.globals f.ints x.ints).1.map D.i):=by
    have a9:=hG;rw[Ls (aD aQ.2.2.2.1)] at a9;rw[y];exact a9
   obtain⟨cK,rfl⟩:∃cK,cK=wr:=⟨wr,rfl⟩
   have HA:=ag bH y;obtain⟨d0,aL,aM⟩:=(ah.2.2.2.1.aj J).two;clear aw aR hG T J V y bH;go_wp2_with(fail);clear d0 aL aM;go_loopw [16] (λcy wr=>∃(m:Nat) (B:L3) (aK:Nat),cy=.int .i64 m/\m<=dj/\Fr (λb=>b=U.heap.size) cK wr/\aq wr U.heap.size 72 #[.int .i64 x.target,.int .i64 0,.slice A k c,.slice B m aK]/\Gr (λ_=>False) cK.heap.size 3 1 wr B m aK (((x.places.take m).map λp=>(bo u s f p).1).map D.i)/\∀p∈x.places.take m,(bo u s f p).2=0) (λcy _=>dj - (intOf cy).toNat)
   case atStart=>exact⟨0,none,0,rfl,ad,LW,a3.2.1,Gr.nil _ _ _ _ _,λe he=>by simp at he⟩
   case round=>
    obtain⟨m,B,aK,rfl,hm,aw,aR,hG,T⟩:=hrel;have V:Ext U wr:=Fr.low (M:=λb=>b=U.heap.size) (Fr.trans (Fr.mono a3.2.2.2.2.2 λ_ h=>h.elim) aw) λb O=>by rw[O];exact Lk _
    have J:=cD.1.trans V;have bZ:=cH aw aR hG T J V;have dR:=aw.size;by_cases dt:m<dj
    .obtain⟨b,o,pl,b1,cI,zc,rfl,O,bb,b2,cG,ch,cg,cR⟩:=(ah.2.2.2.2.2.2.1.places.on (Fr.ext J)).pq dt;have aT:b<wr.heap.size:=O;have ao:=aE bb cg cR;obtain⟨a0,aj,af⟩:=(ah.2.1.aj J).two;obtain⟨a7,am,aF⟩:=(ah.2.2.1.aj J).two;obtain⟨d0,aL,aM⟩:=(ah.2.2.2.1.aj J).two;clear bb cg cR O aw aR hG T J V;go_upto_region 13 with(fail);refine eC (λ_=>False) [(0,0),(1,0),(2,3),(3,3),(4,0),(5,3),(6,3),(7,0),(8,2),(9,3),(10,3),(11,3),(12,3),(13,3)] ?_
     iterate 2 refine ph ?_
     iterate 2 refine pf ?_
     refine ph ?_
     iterate 2 refine pf ?_
     refine ph ?_;refine ax rfl (λK hK=>?_);go_simp;have aa:Ext wr wr.drew:=(Fr.refl _ wr).drew;have cS:=bZ.2.2.2.2.1.trans aa;refine(qO u s t f pl N wr.drew ⟨GA,gn,gc,MA,mn,mc,PA,pn,pc⟩ ⟨bU,bW,bE,TA,tn,tc,some ⟨bm,bn,none⟩,hn,hc⟩ b1 cI zc ⟨aQ.1.hU.ok,aQ.1.hS,aQ.1.sm,aQ.1.ht,⟨cn,aQ.1.hp,aQ.2.2.1 pl (Ln ao.1)⟩,ah.2.2.2.2.1.on cS,ah.2.2.2.2.2.1.on cS,dX.2 ⟨b1,cI,zc,rfl,ao.2.1,ao.2.2.on (Fr.ext aa)⟩⟩).mono ?_;rintro e aU ⟨rfl,bj⟩;rw[iB aQ.1.ht];have aX:=ae (show Ext wr aU from Fr.aF (Fr.of bj));have an:=λbv=>mb (k:=m) bZ.2.2.2.1 ao.1 bv;generalize ar:bo u s f pl=R at *;obtain⟨r,z⟩:=R;have bO:=ag an ar;clear an ar bj aa cS a0 aj af a7 am aF d0 aL aM b2 cG ch aT;refine dP hK ?_;clear hK K
     iterate 5 refine pf ?_
     refine aC ?_;have bC:=bZ.2.1.aj aX.o;have bB:=ae bC;obtain⟨e0,a6,aP⟩:=bC.two;have cQ:=aX.size;by_cases bv:z=0
     .have q5:(z != 0)=false:=by simpa using bv
      have P:=ae (bZ.2.2.1.aj aX.o);have bh:=ae bv;clear bv bC;go_wp2_with(at_builtin;refine bT dh rfl (.tmp 82) (.tmp 84) rfl P.o (d:=D.i r) (cs:=#[.int .i64 r]) (by simp only[D.rep]) rfl rfl rfl ad ad ad ?_;intro cE bk b6 cb g2 cT da;have bD:=bB.on g2 (λhm=>by have:=(P.lt hm).1;omega);clear e0 a6 aP;obtain⟨e0,a6,aP⟩:=bD.two;have bY:=aE cb g2 bD;clear cb g2 cT da bD);generalize hX:World.setCell _ _ _=X;have br:aq X U.heap.size 72 #[.int .i64 x.target,.int .i64 0,.slice A k c,.slice cE (m+1) bk]:=hX▸bY.2.2.aM 3 _;have a2:Fr (λb=>b=U.heap.size) b6 X:=hX▸(Fr.refl (λb=>b=U.heap.size) _).setCell (.inl rfl) _;have cz:Fr (λb=>b=U.heap.size) cK X:=Fr.EC (M:=λb=>b=U.heap.size\/(Value.slice B m aK).ownBlock=some b) (Fr.trans (Fr.trans (Fr.mono (Fr.trans bZ.1 (Fr.mono aX.o λ_ h=>h.elim)) λ_ h=>.inl h) (Fr.mono bY.2.1 λ_ h=>.inr h)) (Fr.mono a2 λ_ h=>.inl h)) λb O hm=>hm.elim id λhm=>absurd (P.lt hm).1 ad;have bI:=bY.1.c8 a2 λb O _=>⟨λh=>h,by rw[O];omega⟩
      have av:=aE br cz bI;clear hX br a2 cz bI e0 a6 aP;go_roundw
      case rel=>
       refine⟨m+1,cE,bk,by go_num,ad,av.2.1,av.1,?_,λe he=>?_⟩
       .rw[a1 ao.1,Lr,Lr];have ac:=av.2.2;exact sG
       .rw[a1 ao.1] at he;rcases Lt.1 he with he|he
        .exact bZ.2.2.2.1 e he
        .rw[LO.1 he,bO.2];exact bh.o
      case measure=>exact aH
     .have q5:(z != 0)=true:=by simpa using bv
      have bX:=ae (bO.1 bv);have bh:=ae bv;have aJ:=bZ.2.2.2.2.1.trans aX.o;have ct:=ah.2.2.2.2.2.2.2.2.aj aJ;have cB:=ag ct (ah.1.trans aJ);obtain⟨bl,aA,aO⟩:=ct.two;clear bv bC aJ ct;go_wp2_with(fail);generalize hX:World.setCell _ _ _=X;obtain⟨br,bs,cz⟩:=bw (w:=w) [.int .i64 x.target,.int .i64 0,.slice A k c,.slice B m aK] (by rfl) cB.1 cB.2 ad hX;have av:=ae bs;clear hX bs cz bl aA aO e0 a6 aP;obtain⟨bl,aA,aO⟩:=br.two;refine LU (v:=.tuple #[.agg #[.int .i64 x.target,.int .i64 0,.slice A k c,.slice B m aK],.int .i64 z]) (by simp[results,Tryz.results59,go_sem,bl]) rfl ?_;refine⟨_,_,_,_,_,_,_,_,z,rfl,av.o,λh=>absurd ?_ h,λ_ _=>by rw[bX.o],λ_ h=>absurd h ?_⟩
      .rw[HA.2]
      .rw[bX.o];exact bh.o
    .obtain rfl:m=dj:=ad;have bc:bL u s f x.places=(x.places.map λp=>(bo u s f p).1,0):=me λe he=>T e (by rw[Ls (aD aQ.2.2.2.2.1)];exact he);have cm:Sl wr (λb=>cK.heap.size<=b/\b<wr.heap.size) B m ((bL u s f x.places).1.map D.i):=by
      have a9:=hG;rw[Ls (aD aQ.2.2.2.2.1)] at a9;rw[bc];exact a9.sl (λb _ h=>h.elim) λb al O=>⟨O,al⟩
     have b9:=hG.cap.1;have bH:=HA.1.c8 aw λb O _=>⟨λh=>h,by rw[O];omega⟩
     obtain⟨cc,rfl⟩:∃cc,cc=wr:=⟨wr,rfl⟩
     have b8:=bJ cm b9 bc bH;obtain⟨eA,de,dT,f2,bM⟩:=aQ.2.2.2.2.2;have cd:=(List.getElem?_eq_some_iff.1 de).1;have bp:=ah.2.2.2.2.1.at_.p.1;rw[Lo] at bp;simp only at bp;obtain⟨pb,gP,dn,bz,cp,b3,e,eQ,cL,b2,cG,ch,bA,b7,_,_⟩:=ah.2.2.2.2.1.at_.proc (k:=x.target.toNat) (by show x.target.toNat<pn;omega);simp only at e;subst e;rw[de] at cL;injection cL with cL;subst cL;have bR:=bM.ints;obtain⟨L,aG⟩:=Lp (a:=eA.locals) ad;rw[aG] at bA;have dP:k<=L:=by have:=aQ.2.2.2.1;omega
     have ca:L<=200:=ad;have b0:x.target<(pn:Int):=ad;have bK:eY u x.target=L:=by unfold eY;rw[de];simp[aG]
     have cq:=aE bK eQ bA;obtain⟨d0,aL,aM⟩:=(ah.2.2.2.1.aj J).two;clear aw aR hG T J V bc cm bH de dT f2 bM cd bp eQ b2 cG ch bA b7 bR aG bK;go_wp2_with(fail);clear d0 aL aM;go_loopw [97] (λ_ wr=>∃(bS:Nat) (A2:L3) (c2:Nat),k<=bS/\bS<=L/\Fr (λb=>b=U.heap.size\/(Y.heap.size<=b/\b<cK.heap.size)) cc wr/\aq wr U.heap.size 72 #[.int .i64 x.target,.int .i64 0,.slice A2 bS c2,.slice B m aK]/\Gr (λ_=>False) Y.heap.size 3 1 wr A2 bS c2 (((cC s.globals f.ints x.ints).1++List.replicate (bS - k) 0).map D.i)/\∀b,(Value.slice A2 bS c2).ownBlock=some b->(b<cK.heap.size\/cc.heap.size<=b)) (λ_ wr=>L - yb U.heap.size wr)
     case atStart=>exact⟨k,A,c,ad,dP,LW,bZ.2.1,by rw[Nat.sub_self,List.replicate_zero,LM];exact b8.2.2.2,λb O=>.inl (HA.1.lt O).2⟩
     case round=>
      obtain⟨bS,A2,c2,cl,aV,aw,aR,hG,aB⟩:=hrel;have dl:=bu.1.size;have V:Ext U wr:=Fr.low (M:=λb=>b=U.heap.size\/(Y.heap.size<=b/\b<cK.heap.size)) (Fr.trans (Fr.mono bZ.2.2.2.2.2 λ_ h=>h.elim) aw) λb O=>by rcases O with O|O<;>omega
      have J:=cD.1.trans V;have bP:=cH aw aR hG aB J V;have cR:=aw.size;obtain⟨a0,aj,af⟩:=(ah.2.1.aj J).two;obtain⟨d0,aL,aM⟩:=(ah.2.2.2.1.aj J).two;obtain⟨e0,a6,aP⟩:=aR.two;have bA:=(J.cell cq.2.1 λh=>h).trans cq.2.2;have bp:pb<wr.heap.size:=Ll cq.2.1 J.size;clear aw aR hG aB J V;by_cases bN:bS<L
      .go_upto_region 17 with(fail);refine eC (λ_=>False) [(0,3),(1,0),(2,3),(3,3),(4,0),(5,3),(6,0),(7,3),(8,3),(9,0),(10,3)] ?_;refine pf ?_;refine ph ?_
       iterate 2 refine pf ?_
       refine ph ?_;refine pf ?_;refine ph ?_
       iterate 2 refine pf ?_
       refine ph ?_;refine pf ?_;refine aC ?_;generalize ck:World.drew wr=aU;have aZ:Ext wr aU:=ck▸(Fr.refl _ wr).drew;clear ck a0 aj af d0 aL aM bA bp e0 a6 aP;have aX:=ae aZ;have bC:=bP.2.1.aj aZ;have bB:=ae bC;have P:=ae (bP.2.2.1.aj aZ);have cQ:=aZ.size;obtain⟨e0,a6,aP⟩:=bC.two;clear aZ bC;have dk:(bS:Int)<(L:Int):=ad;have q7:decide ((bS:Int)<(L:Int))=true:=decide_eq_true dk;go_wp2_with(at_builtin;refine bT dh rfl (.tmp 99) (.tmp 100) rfl P.o (d:=D.i 0) (cs:=#[.int .i64 0]) (by simp only[D.rep]) rfl rfl rfl ad ad ad ?_;intro cE bk b6 cb g2 cT da;have bD:=bB.on g2 (λhm=>by have:=(P.lt hm).1;omega);clear e0 a6 aP;obtain⟨e0,a6,aP⟩:=bD.two;have bY:=bJ cb g2 bD cT;clear cb g2 cT da bD);generalize hX:World.setCell _ _ _=X;have br:aq X U.heap.size 72 #[.int .i64 x.target,.int .i64 0,.slice cE (bS+1) bk,.slice B m aK]:=hX▸bY.2.2.1.aM 2 _;have a2:Fr (λb=>b=U.heap.size) b6 X:=hX▸(Fr.refl (λb=>b=U.heap.size) _).setCell (.inl rfl) _;have cz:Fr (λb=>b=U.heap.size\/(Y.heap.size<=b/\b<cK.heap.size)) cc X:=Fr.EC (M:=λb=>(b=U.heap.size\/(Y.heap.size<=b/\b<cK.heap.size))\/(Value.slice A2 bS c2).ownBlock=some b) (Fr.trans (Fr.trans (Fr.mono (Fr.trans bP.1 (Fr.mono aX.o λ_ h=>h.elim)) λ_ h=>.inl h) (Fr.mono bY.2.1 λ_ h=>.inr h)) (Fr.mono a2 λ_ h=>.inl (.inl h))) λb O hm=>hm.elim id λhm=>.inr ⟨(P.lt hm).1,by rcases bP.2.2.2.1 b hm with h|h<;>omega⟩;have bI:=bY.1.c8 a2 λb O _=>⟨λh=>h,by rw[O];omega⟩
       have bQ:∀b,(Value.slice cE (bS+1) bk).ownBlock=some b->(b<cK.heap.size\/cc.heap.size<=b):=λb O=>(bY.2.2.2 b O).elim (λh=>bP.2.2.2.1 b h) λh=>.inr ad;have bd:L - yb U.heap.size X<L - yb U.heap.size wr:=by
        unfold yb;rw[br.cell 2,bP.2.1.cell 2];show L - (bS+1)<L - bS
        omega
       have av:=cJ br cz bI bQ bd;clear hX br a2 cz bI bQ bd e0 a6 aP;go_roundw
       case rel=>
        refine⟨bS+1,cE,bk,ad,ad,av.2.1,av.1,?_,av.2.2.2.1⟩;rw[show bS+1 - k=(bS - k)+1 by omega,List.replicate_succ',<-List.append_assoc,Lr];exact av.2.2.1
       case measure=>exact av.2.2.2.2
      .have dF:bS=L:=ad;have q7:decide ((bS:Int)<(L:Int))=false:=decide_eq_false ad;have cX:=ae dF;clear dF;go_upto_region 17 with(fail);refine eC (λ_=>False) [(0,3),(1,0),(2,3),(3,3),(4,0),(5,3),(6,0),(7,3),(8,3),(9,0),(10,3)] ?_;refine pf ?_;refine ph ?_
       iterate 2 refine pf ?_
       refine ph ?_;refine pf ?_;refine ph ?_
       iterate 2 refine pf ?_
       refine ph ?_;refine pf ?_;refine aC ?_;generalize ck:World.drew wr=aU;have aZ:Ext wr aU:=ck▸(Fr.refl _ wr).drew;clear ck a0 aj af d0 aL aM bA bp e0 a6 aP;have cQ:=aZ.size;have bC:=bP.2.1.aj aZ;have a4:Fr (λb=>b=U.heap.size\/(Y.heap.size<=b/\b<cK.heap.size)) cc aU:=Fr.trans bP.1 (Fr.mono aZ λ_ h=>h.elim);have aJ:=bP.2.2.2.2.1.trans aZ;have ct:=ah.2.2.2.2.2.2.2.2.aj aJ;have cB:=bJ ct (ah.1.trans aJ) (bP.2.2.1.aj aZ) a4;obtain⟨e0,a6,aP⟩:=bC.two;obtain⟨bl,aA,aO⟩:=ct.two;clear aZ bC aJ ct a4;go_wp2_with(fail);generalize hX:World.setCell _ _ _=X;obtain⟨br,bs,cz⟩:=bw (w:=w) [.int .i64 x.target,.int .i64 0,.slice A2 bS c2,.slice B m aK] (by rfl) cB.1 cB.2.1 ad hX;have av:=ag bs cz;clear hX bs cz bl aA aO e0 a6 aP;obtain⟨bl,aA,aO⟩:=br.two;refine LU (v:=.tuple #[.agg #[.int .i64 x.target,.int .i64 0,.slice A2 bS c2,.slice B m aK],.int .i64 0]) (by simp[results,Tryz.results59,go_sem,bl]) rfl ?_;refine⟨_,_,_,_,_,_,_,_,0,rfl,av.1,λh=>absurd ?_ h,λ_ h=>absurd ?_ h,λ_ _=>⟨rfl,?_⟩⟩
       .rw[HA.2]
       .rw[b8.2.2.1]
       .have cP:=ah.2.2.2.2.2.2.2.2.lt;have bi:=cD.1.size;have c4:=bu.1.size;have c5:=a3.1.size;have c6:=bZ.1.size;have cx:=cB.2.2.2.size;have cW:=av.2.size;have gt:=cB.2.2.1.c8 av.2 λb O _=>⟨λh=>h,by rw[O];omega⟩
        refine gh.2 ⟨A2,bS,c2,B,m,aK,rfl,cB.2.2.1.cap.1,b8.2.1,?_,?_⟩
        .have hlen:(cC s.globals f.ints x.ints).1.length=k:=by rw[HA.2];simp[aQ.2.2.2.1]
         show Sl X _ A2 bS (((cC s.globals f.ints x.ints).1++List.replicate (eY u x.target - (cC s.globals f.ints x.ints).1.length) 0).map D.i)
         rw[cq.1,hlen,<-cX.o];exact gt.sl (λb _ h=>h.elim) λb al O=>⟨ad,al⟩
        .show Sl X _ B m ((bL u s f x.places).1.map D.i)
         refine(b8.1.al (ab:=X) λb O=>?_).mono λb O=>⟨ad,ad⟩
         rw[av.2.block b ad ad,cB.2.2.2.block b O.2 ad]
 ):p:=h
end Dx
open Dx in
theorem va(u:ay)(s:ai)(t:Int)(f:ak)(cn:cM)(x:az)(N:Nat)(w:World)(p:UV)(q:SV)(v:IV)(h:jv u s t f cn x N)(cA:x.op=2\/x.op=3)(hu:p.Ok w u)(hs:q.Ok w s)(bG:v.Ok w x) :
  Calls prog 59 #[.agg (p.val u),.agg (q.val s),.int .i64 t,.agg (v.val x)] w (Hy w u x (cC s.globals f.ints x.ints) (bL u s f x.places)):=by
 exact hB
namespace Dy
theorem vO(h:p:=by
 rw[bX.o];exact fi (B:=V.heap.size) bu.1 bh.2 (λb O=>⟨λhl=>by have:=G.o b hl;omega,ad⟩) (λb O=>by have:=G.o b O;omega) ad bh.1 (by rw[uY bZ.2.1])
 ):p:=h
theorem dE(h:p:=by
 generalize cL:World.setCell _ _ _=dA;obtain⟨cv,bS⟩:=y.1.push cR.1 (λb hm=>⟨(cR.2 b hm).1,(cR.2 b hm).2.1,(cR.2 b hm).2.2.1,(cR.2 b hm).2.2.2.1⟩) cX.1 cX.2.1 cX.2.2 cL;have cU:Fr (λb=>b=lb\/b=O) A dA:=by
  rw[<-cL];exact Fr.setCell (Fr.mono cX.2.1 λ_ h=>.inl h) (.inl (.inr rfl)) _
 have cd:=(aQ.1.lo O (by simp)).1;have i:Ext V dA:=Fr.low (M:=λb=>b=lb\/b=O) (Fr.trans (Fr.mono y.2.1 λ_ h=>h.elim) cU) λb O=>by rcases O with O|O<;>omega
 have bu:=aE cv bS (bN.trans i);have bc:=i.size;clear cL cv bS cU i bs br dz dZ;exact vN
 ):p:=h
theorem sN(h:p:=by
 clear ck ch a2;rcases cD.o with h|h
 all_goals
  first
   | have q1:(x.op == 1)=true:=by simpa using h
   | have q1:(x.op == 1)=false:=by simp;omega
  first
   | have cN:(x.op == 2)=true:=by simpa using h
   | have cN:(x.op == 2)=false:=by simp;omega
  first
   | have df:(x.op == 3)=true:=by simpa using h
   | have df:(x.op == 3)=false:=by simp;omega
  first
   | have dd:(x.op == 4)=true:=by simpa using h
   | have dd:(x.op == 4)=false:=by simp;omega
  first
   | have q5:(x.op == 5)=true:=by simpa using h
   | have q5:(x.op == 5)=false:=by simp;omega
  first
   | have dk:(x.op == 6)=true:=by simpa using h
   | have dk:(x.op == 6)=false:=by simp;omega
  first
   | have q7:(x.op == 7)=true:=by simpa using h
   | have q7:(x.op == 7)=false:=by simp;omega
  first
   | have dF:(x.op == 8)=true:=by simpa using h
   | have dF:(x.op == 8)=false:=by simp;omega
  have cz:=ae h;clear h;go_wp2_with(fail);refine(va u s t f cn x N X ⟨GA,gn,gc,MA,mn,mc,PA,pn,pc⟩ ⟨bU,bW,bE,TA,tn,tc,HA,hn,hc⟩ ⟨eo,en,es,EA,em,ec,QA,qm,qc,dg,j,dc,KA,dj,kc⟩ l.o cD.o (ah.2.2.2.2.1.on aQ.2.2) (ah.2.2.2.2.2.on aQ.2.2) (dv.on aQ.2.1)).mono ?_;rintro e cK ⟨av,aB,FA,dr,bR,dB,fl,cI,z,rfl,co,cW,c6,al⟩;have ac:=ae (Kk (u:=u) (s:=s) (t:=t) (f:=f) (x:=x) cD.o);have cc:=ae co;clear co;generalize cC s.globals f.ints x.ints=aa at *;generalize bL u s f x.places=bb at *;obtain⟨dS,aV⟩:=aa;obtain⟨bi,bz⟩:=bb;clear a0 aj af a7 am aF d0 aL aM e0 a6 aP c0 c1 c2 c3 H flb J a8 k bH;by_cases aK:aV=0
  case neg=>
   obtain rfl:=cW aK;have bX:=ae (ac.I4 aK);have Fs:(z == 0)=false:=by simpa using aK
   have Jp:(z != 0)=true:=by simpa using aK
   clear aK cW c6 al ac;exact GO
  by_cases I:bz=0
  case neg=>
   obtain rfl:=c6 aK I;have bX:=ae (ac.I5 aK I);have Fs:(z == 0)=false:=by simpa using I
   have Jp:(z != 0)=true:=by simpa using I
   clear aK I cW c6 al ac;exact GO
  obtain⟨rfl,b1⟩:=al aK I;generalize cZ:cY u x.target dS bi=R at *
 ·
  have bX:=ae (ac.call aK I cz.o);rw[cZ] at bX;have ba:=ae b1;clear aK I cW c6 al ac cZ b1;go_upto_region 24 with(fail);generalize aX:World.alloc _ _=A;have n:=aW aX;have bt:=aI aX;have r:=cc.trans n;have y:=aE (RO.aj aQ.1 r) (aQ.2.1.trans r) (aQ.2.2.trans r);have Y:=ag bt n;have bo:=n.size;have dC:=cc.size;have T:=ae y.2.2;clear aX n r;obtain⟨a7,am,aF⟩:=(ah.2.2.1.aj y.2.2).two;obtain⟨d0,aL,aM⟩:=(bJ.aj y.2.1).two;obtain⟨e0,a6,aP⟩:=y.1.o.two;obtain⟨a8,k,flb,J,H,c0,c1,c2,c3,bH⟩:=y.1.top;obtain⟨f0,dL,dO⟩:=bt.two;clear bt;have ar:(ew R).rep A (fresh X cK) [.int .i64 av,.int .i64 aB,.slice FA dr bR,.slice dB fl cI]:=D.aS (λb O=>Y.2.block b O.2 λh=>h) _ _ ba.o;have S:=aQ.1.lo;have dn:∀b,fresh X cK b->V.heap.size<=b/\b<A.heap.size/\b≠O/\b≠lb/\b≠b6.heap.size:=λb aT=>⟨by have:=aT.1;omega,by have:=aT.2;omega,λhe=>by have:=(S O (by simp)).2;have:=aT.1;omega,λhe=>by have:=(S lb (by simp)).2;have:=aT.1;omega,λhe=>by have:=(S b6.heap.size (by simp)).2;have:=aT.1;omega⟩
  have cR:=ag ar dn;clear ar dn S;have ds:=cg;obtain⟨bC,bK,b9,-,-⟩:=y.1.sep;have de:=y.1.l;have dt:=ae de;have d1:cK.heap.size≠lb:=by have:=(aQ.1.lo lb (by simp)).2;omega
  have dJ:b6.heap.size≠lb:=bK;have ap:O≠lb:=b9;clear de;go_upto_region 29 with(fail);refine eC (λb=>b=lb) [(0,3),(1,0),(2,3),(3,3),(4,0),(5,1),(6,1),(7,3),(8,3),(9,2)] ?_;refine pf ?_;refine oQ ?_
  iterate 2 refine pf ?_
  refine oQ ?_;refine rz ?_;refine ml (λaY=>Ext A aY/\aq aY A.heap.size 72 #[.int .i64 av,.int .i64 aB,.slice FA dr bR,.slice dB fl cI]/\aY.heap.size=A.heap.size+1) ⟨by first|exact((Fr.refl _ A).drew).alloc _|exact((Fr.refl _ A).alloc _).drew,by first|exact LX|exact aq.new A.drew _ _,by simp⟩ (λcu bx=>?_);have au:=ae bx;clear bx;refine aG rfl (λK hK=>?_);rw[if_pos (by rfl)];refine yA xY (.tmp 161) (.tmp 163) rfl (dt.aj au.1) au.2.1 rfl rfl rfl (by simp[Value.oneCell']) ad ad ?_;intro A2 cj cS cb g2 cT;have cU:Fr (λb=>b=lb) cu cS:=g2.mono λb O=>LO.1 O;refine dq hK (cU) ?_;clear hK K;have a9:Fr (λb=>b=lb) A cS:=Fr.trans (au.1.mono λ_ h=>h.elim) cU;have cX:=aE cb a9 (λb O=>(cT b O).imp (λh=>LO.1 h) (λh=>(⟨by have:=au.2.2;omega,h.2⟩:A.heap.size<=b/\b<cS.heap.size)));have bs:=(a9.cell (j:=t.toNat) k ap).trans H;have br:∀j,cS.frozen? ⟨O,j,none⟩=false:=λj=>(a9.frozen k ap).trans (J j);have dz:=a9.size;clear cb g2 cT cU a9 e0 a6 aP f0 dL dO d0 aL aM a7 am aF c0 c1 c2 c3 H flb J;exact BU
 ·
  have bv:=ag (ac.many aK I cz.o) (ac.go aK I cz.o);rw[cZ] at bv;have ba:=ae b1;clear aK I cW c6 al ac cZ b1;by_cases bp:32<=hn
  .have cq:decide ((hn:Int)>=32)=true:=by simpa using (by omega:(32:Int)<=(hn:Int))
   have bX:=ae (bv.1 (by rw[<-bZ.2.2.2.2];exact bp));clear bp bv;go_upto_region 24 with(fail);generalize aX:World.alloc _ _=A;have n:=aW aX;have bt:=aI aX;have r:=cc.trans n;have y:=aE (RO.aj aQ.1 r) (aQ.2.1.trans r) (aQ.2.2.trans r);have Y:=ag bt n;have bo:=n.size;have dC:=cc.size;have T:=ae y.2.2;clear aX n r;obtain⟨a7,am,aF⟩:=(ah.2.2.1.aj y.2.2).two;obtain⟨d0,aL,aM⟩:=(bJ.aj y.2.1).two;obtain⟨e0,a6,aP⟩:=y.1.o.two;obtain⟨a8,k,flb,J,H,c0,c1,c2,c3,bH⟩:=y.1.top;obtain⟨f0,dL,dO⟩:=bt.two;clear bt;have dh:=T.size;go_wp2_with(fail);refine(pw P s ⟨bU,bW,bE,TA,tn,tc,HA,hn,hc⟩ 4 A (ce.2.2.Ho G.o (ah.1.trans T.o)) (λb O=>Ll (G.o b O) (ah.1.trans T.o).size)).mono ?_;rintro e c7 ⟨⟨cE,bT,bY,bf,b2,bn,bV,cP,ca⟩,rfl,bM,b0⟩;have f2:=b0.size;have c8:=ae bM;have a3:=ag (ah.2.2.2.1.aj (T.trans b0)) ((ah.1.trans T.o).trans b0);clear bM b0 f0 dL dO d0 aL aM e0 a6 aP c0 c1 c2 c3 H flb J a8 k bH a7 am aF;obtain⟨bl,aA,aO⟩:=a3.1.two;go_wp2_with(fail);generalize hX:World.setCell _ _ _=Z;obtain⟨bk,bd,bg⟩:=bw (w:=w) [.slice cE bT bY,.slice bf b2 bn,.slice bV cP ca,.int .i64 4] (by rfl) a3.1 a3.2 ad hX;have bh:=ag bd bg;clear hX bd bg bl aA aO;obtain⟨bl,aA,aO⟩:=bk.two;refine LU (v:=.tuple #[.agg #[.slice cE bT bY,.slice bf b2 bn,.slice bV cP ca,.int .i64 4],.bool true]) (by simp[results,Tryz.results19,go_sem,bl]) rfl ?_;rw[bX.o];exact fi (B:=A.heap.size) (Q:={s with fault:=4}) c8.o bh.2 (λb O=>⟨λhl=>by have:=G.o b hl;omega,ad⟩) (λb O=>by have:=G.o b O;omega) ad bh.1 rfl
  .have cq:decide ((hn:Int)>=32)=false:=by simp;omega
   have bX:=ae (bv.2 (by rw[<-bZ.2.2.2.2];exact bp));have bB:=bZ.2.2.2.2;clear bp bv;go_upto_region 24 with(fail);generalize aX:World.alloc _ _=A;have n:=aW aX;have bt:=aI aX;have r:=cc.trans n;have y:=aE (RO.aj aQ.1 r) (aQ.2.1.trans r) (aQ.2.2.trans r);have Y:=ag bt n;have bo:=n.size;have dC:=cc.size;have T:=ae y.2.2;clear aX n r;obtain⟨a7,am,aF⟩:=(ah.2.2.1.aj y.2.2).two;obtain⟨d0,aL,aM⟩:=(bJ.aj y.2.1).two;obtain⟨e0,a6,aP⟩:=y.1.o.two;obtain⟨a8,k,flb,J,H,c0,c1,c2,c3,bH⟩:=y.1.top;obtain⟨f0,dL,dO⟩:=bt.two;clear bt;have ar:(ew R).rep A (fresh X cK) [.int .i64 av,.int .i64 aB,.slice FA dr bR,.slice dB fl cI]:=D.aS (λb O=>Y.2.block b O.2 λh=>h) _ _ ba.o;have S:=aQ.1.lo;have dn:∀b,fresh X cK b->V.heap.size<=b/\b<A.heap.size/\b≠O/\b≠lb/\b≠b6.heap.size:=λb aT=>⟨by have:=aT.1;omega,by have:=aT.2;omega,λhe=>by have:=(S O (by simp)).2;have:=aT.1;omega,λhe=>by have:=(S lb (by simp)).2;have:=aT.1;omega,λhe=>by have:=(S b6.heap.size (by simp)).2;have:=aT.1;omega⟩
   have cR:=ag ar dn;clear ar dn S;have aR:=y.1.hl;simp only[List.length_set] at aR;have cm:ct<=1000:=ad;clear aR bB;obtain⟨bC,bK,b9,-,-⟩:=y.1.sep;have de:=y.1.h.aj ((Fr.refl _ A).alloc (.cells #[.int .i64 av,.int .i64 aB,.slice FA dr bR,.slice dB fl cI] 72));have an:=y.1.o.aj ((Fr.refl _ A).alloc (.cells #[.int .i64 av,.int .i64 aB,.slice FA dr bR,.slice dB fl cI] 72));have dt:=ag de an;clear de an;go_upto_region 45 with(at_builtin;refine nr s3 rfl (.tmp 168) (.tmp 172) rfl dt.1 (cs:=#[.slice (some ⟨A.heap.size,0,none⟩) 1 1]) rfl rfl (by simp) rfl (by simp[Value.oneCell']) (by simp only;omega) (by simp only;omega) ?_;intro A2 cj cS cb g2 cT;have da:=g2.mono (M':=λb=>b=O) (λb hm=>LO.1 hm);have cF:=dt.2.on da bC;have cX:=aE cb da cT;clear cb g2 cT da e0 a6 aP f0 dL dO d0 aL aM a7 am aF;obtain⟨e0,a6,aP⟩:=cF.two;clear cF);generalize cL:World.setCell _ _ _=dA;obtain⟨cv,bS⟩:=y.1.start cR.1 (λb hm=>⟨(cR.2 b hm).1,(cR.2 b hm).2.1,(cR.2 b hm).2.2.1,(cR.2 b hm).2.2.2.2⟩) rfl cX.1 cX.2.1 (λb hm=>(cX.2.2 b hm).imp (λh=>LO.1 h) id) cL;have cU:Fr (λb=>b=O\/b=b6.heap.size) A dA:=by
    rw[<-cL];exact Fr.setCell (Fr.trans ((Fr.refl _ A).alloc _) (Fr.mono cX.2.1 λ_ h=>.inl h)) (.inl (.inr rfl)) _
   have cd:=(aQ.1.lo O (by simp)).1;have dx:=(aQ.1.lo b6.heap.size (by simp)).1;have i:Ext V dA:=Fr.low (M:=λb=>b=O\/b=b6.heap.size) (Fr.trans (Fr.mono y.2.1 λ_ h=>h.elim) cU) λb O=>by rcases O with O|O<;>omega
   have bu:=aE cv bS (bN.trans i);have bc:=i.size;clear cL cv bS cU i e0 a6 aP c0 c1 c2 c3 H flb J;have a3:=ag (ah.2.2.2.1.aj bu.2.2) (ah.1.trans bu.2.2);have dl:=bu.2.2.size;obtain⟨bl,aA,aO⟩:=a3.1.two;obtain⟨e0,a6,aP⟩:=bu.2.1.two;go_wp2_with(fail);generalize hX:World.setCell _ _ _=Z;obtain⟨bk,bd,bg⟩:=bw (w:=w) [.slice bF cp a5,.slice ab m L,.slice A2 (ct+1) cj,.int .i64 s.fault] (by rfl) a3.1 a3.2 ad hX;have bh:=ag bd bg;clear hX bd bg bl aA aO e0 a6 aP;obtain⟨bl,aA,aO⟩:=bk.two;refine LU (v:=.tuple #[.agg #[.slice bF cp a5,.slice ab m L,.slice A2 (ct+1) cj,.int .i64 s.fault],.bool true]) (by simp[results,Tryz.results19,go_sem,bl]) rfl ?_;exact DH
 ):p:=h
theorem sP(h:p:=by
 exact sM
 ):p:=h
theorem sR(h:p:=by
 exact sO
 ):p:=h
end Dy
open Dy in
theorem qS(u:ay)(s:ai)(t:Int)(f:ak)(cn:cM)(x:az)(N:Nat)(P:Nat->Prop)(w:World)(p:UV)(q:SV)(h:jv u s t f cn x N)(hN:N<=100000)(cA:x.op=2\/x.op=3)(hu:p.Ok w u)(aD:q.Is w P s)(a1:∀b,P b->b<w.heap.size) :
  Calls prog 19 #[.agg (p.val u),.agg (q.val s),.int .i64 t] w (cV P w (bI u s t f x).1 (bI u s t f x).2):=by
 exact sQ
namespace Dz
theorem Bp(h:p:=by
 rw[bX.o];exact Ad
 ):p:=h
theorem AJ(h:p:=by
 clear bM b0 a0 aj af d0 aL aM e0 a6 aP c0 c1 c2 c3 H flb J a8 k bH a7 am aF;exact GY
 ):p:=h
theorem sN(h:p:=by
 clear ck ch a2;rcases cD.o with h|h
 all_goals
  first
   | have q1:(x.op == 1)=true:=by simpa using h
   | have q1:(x.op == 1)=false:=by simp;omega
  first
   | have cN:(x.op == 2)=true:=by simpa using h
   | have cN:(x.op == 2)=false:=by simp;omega
  first
   | have df:(x.op == 3)=true:=by simpa using h
   | have df:(x.op == 3)=false:=by simp;omega
  first
   | have dd:(x.op == 4)=true:=by simpa using h
   | have dd:(x.op == 4)=false:=by simp;omega
  first
   | have q5:(x.op == 5)=true:=by simpa using h
   | have q5:(x.op == 5)=false:=by simp;omega
  first
   | have dk:(x.op == 6)=true:=by simpa using h
   | have dk:(x.op == 6)=false:=by simp;omega
  first
   | have q7:(x.op == 7)=true:=by simpa using h
   | have q7:(x.op == 7)=false:=by simp;omega
  first
   | have dF:(x.op == 8)=true:=by simpa using h
   | have dF:(x.op == 8)=false:=by simp;omega
  have cz:=ae h;clear h;go_wp2_with(fail);refine(qO u s t f x.place N X ⟨GA,gn,gc,MA,mn,mc,PA,pn,pc⟩ ⟨bU,bW,bE,TA,tn,tc,HA,hn,hc⟩ QA qm qc ⟨l.hU.ok,l.hS,l.sm,l.ht,⟨cn,l.hp,cq.1⟩,ah.2.2.2.2.1.on aQ.2.2,ah.2.2.2.2.2.on aQ.2.2,(dv.on aQ.2.1).place⟩).mono ?_;rintro e cK ⟨rfl,b1⟩;rw[iB l.ht];have co:Ext X cK:=Fr.of b1;have bL:=cq.2.2;have ar:=ae K.o;generalize bo u s f x.place=R at *;obtain⟨au,z⟩:=R;have a9:=ae bL;have y:=aE (RO.aj aQ.1 co) (aQ.2.1.trans co) (aQ.2.2.trans co);have cc:=ae y.2.2;have dC:=co.size;clear bL b1 co a0 aj af a7 am aF d0 aL aM e0 a6 aP c0 c1 c2 c3 H flb J a8 k bH;obtain⟨a7,am,aF⟩:=(ah.2.2.1.aj y.2.2).two;obtain⟨d0,aL,aM⟩:=(bJ.aj y.2.1).two;obtain⟨e0,a6,aP⟩:=y.1.o.two;obtain⟨a8,k,flb,J,H,c0,c1,c2,c3,bH⟩:=y.1.top;obtain⟨a0,aj,af⟩:=(ah.2.1.aj cc.o).two;by_cases bv:z=0
  case neg=>
   have bX:=ae (ar.bad bv);have cj:(z != 0)=true:=by simpa using bv
   exact AI
  have cj:(z != 0)=false:=by simpa using bv
  have aY:=a9.2 bv;have aG:=l4 l.hU.ok;have bi:au<=5000:=by simp only at aY;omega
  have bb:=ae bv;clear bv aY aG
 ·
  have S:=ae (ar.lf bb.o cz.o);have cu:=ae (ar.ln bb.o cz.o);go_wp2_with(fail);refine(vd MA TA mn mc tn tc u.af s.table au t cK (ah.2.2.2.2.1.on cc.o).at_.m.mT l.hU.ok.vB (ah.2.2.2.2.2.on cc.o).at_.t.holds cq.2.1 ad).mono ?_;intro e c7 ap;have al:(fm u.af s.table au t).length=tn:=by rw[ey];exact bZ.2.2.2.1.symm
  obtain⟨I,aK,rfl,b9,cm,aB,bB⟩:=ap.open_ (n:=tn) al;have b0:Ext cK c7:=Fr.of bB;generalize hT:fm u.af s.table au t=T at *;have r:Own c7 123 2 I tn aK (T.flatMap bK) (bt I tn aK):=⟨hh aB (LJ _),rfl⟩
  have aC:∀b∈bt I tn aK,cK.heap.size<=b/\b<c7.heap.size:=λb O=>aB.lt b (by simpa using O);have av:Sl c7 (λb=>cK.heap.size<=b/\b<c7.heap.size) I tn (T.map lD):=r.sl (dA _) (by rw[Lo];exact al) aC;have aR:=aE (RO.aj y.1 b0) (y.2.1.trans b0) (y.2.2.trans b0);have aa:=ag av b9;have cF:=b0.size;clear hT al ap cm aB bB b0 r aC av b9 a0 aj af a7 am aF d0 aL aM e0 a6 aP c0 c1 c2 c3 H flb J a8 k bH;obtain⟨a7,am,aF⟩:=(ah.2.2.1.aj aR.2.2).two;obtain⟨d0,aL,aM⟩:=(bJ.aj aR.2.1).two;obtain⟨e0,a6,aP⟩:=aR.1.o.two;obtain⟨a8,k,flb,J,H,c0,c1,c2,c3,bH⟩:=aR.1.top;go_upto_region 38 with(fail);generalize hX:World.setCell _ _ _=Y;obtain⟨cv,bS⟩:=aR.1.Hv aa.1 aa.2 (λb aT=>.inr ⟨by have:=aQ.1.lo b6.heap.size (by simp);have:=aT.1;omega,aT.2,by have:=aQ.1.lo b6.heap.size (by simp);have:=aT.1;omega⟩) hX;have cU:=cO hX;have dx:=(aQ.1.lo b6.heap.size (by simp)).1;have i:Ext V Y:=Fr.low (M:=λb=>b=b6.heap.size) (Fr.trans (Fr.mono aR.2.1 λ_ h=>h.elim) cU) λb O=>ad;have bu:=aE cv bS (bN.trans i);have bx:=ae bu.2.2;have bc:=i.size;clear hX cv bS cU i a7 am aF d0 aL aM e0 a6 aP c0 c1 c2 c3 H flb J a8 k bH
  cases cd:free u.af s.table au t with
  | true=>
   exact GR
  | false=>
   have bX:=ae (cu.o cd);obtain⟨a7,am,aF⟩:=(ah.2.2.1.aj bx.o).two;have a3:=ag (ah.2.2.2.1.aj bx.o) (ah.1.trans bx.o);obtain⟨bl,aA,aO⟩:=a3.1.two;go_wp2_with(fail);generalize hX:World.setCell _ _ _=Z;obtain⟨bk,bd,bg⟩:=bw (w:=w) [.slice bU bW bE,.slice TA tn tc,.slice HA hn hc,.int .i64 s.fault] (by rfl) a3.1 a3.2 ad hX;exact Bo
 ·
  have S:=ae (ar.uf bb.o cz.o);have cu:=ae (ar.un bb.o cz.o);go_wp2_with(fail);refine(rB MA TA mn mc tn tc u.af s.table au t cK (ah.2.2.2.2.1.on cc.o).at_.m.mT l.hU.ok.vB (ah.2.2.2.2.2.on cc.o).at_.t.holds cq.2.1 ad).mono ?_;intro e c7 ap;have al:(cL u.af s.table au t).length=tn:=by rw[ei];exact bZ.2.2.2.1.symm
  obtain⟨I,aK,rfl,b9,cm,aB,bB⟩:=ap.open_ (n:=tn) al;have b0:Ext cK c7:=Fr.of bB;generalize hT:cL u.af s.table au t=T at *;have r:Own c7 123 2 I tn aK (T.flatMap bK) (bt I tn aK):=⟨hh aB (LJ _),rfl⟩
  have aC:∀b∈bt I tn aK,cK.heap.size<=b/\b<c7.heap.size:=λb O=>aB.lt b (by simpa using O);have av:Sl c7 (λb=>cK.heap.size<=b/\b<c7.heap.size) I tn (T.map lD):=r.sl (dA _) (by rw[Lo];exact al) aC;have aR:=aE (RO.aj y.1 b0) (y.2.1.trans b0) (y.2.2.trans b0);have aa:=ag av b9;have cF:=b0.size;clear hT al ap cm aB bB b0 r aC av b9 a0 aj af a7 am aF d0 aL aM e0 a6 aP c0 c1 c2 c3 H flb J a8 k bH;obtain⟨a7,am,aF⟩:=(ah.2.2.1.aj aR.2.2).two;obtain⟨d0,aL,aM⟩:=(bJ.aj aR.2.1).two;obtain⟨e0,a6,aP⟩:=aR.1.o.two;obtain⟨a8,k,flb,J,H,c0,c1,c2,c3,bH⟩:=aR.1.top;go_upto_region 41 with(fail);generalize hX:World.setCell _ _ _=Y;obtain⟨cv,bS⟩:=aR.1.Hv aa.1 aa.2 (λb aT=>.inr ⟨by have:=aQ.1.lo b6.heap.size (by simp);have:=aT.1;omega,aT.2,by have:=aQ.1.lo b6.heap.size (by simp);have:=aT.1;omega⟩) hX;have cU:=cO hX;have dx:=(aQ.1.lo b6.heap.size (by simp)).1;have i:Ext V Y:=Fr.low (M:=λb=>b=b6.heap.size) (Fr.trans (Fr.mono aR.2.1 λ_ h=>h.elim) cU) λb O=>ad;have bu:=aE cv bS (bN.trans i);have bx:=ae bu.2.2;have bc:=i.size;clear hX cv bS cU i a7 am aF d0 aL aM e0 a6 aP c0 c1 c2 c3 H flb J a8 k bH
  cases cd:heldBy u.af s.table au t with
  | true=>
   exact GR
  | false=>
   have bX:=ae (cu.o cd);obtain⟨a7,am,aF⟩:=(ah.2.2.1.aj bx.o).two;have dh:=bx.size;go_wp2_with(fail);refine(pw P s ⟨bU,bW,bE,TA,tn,tc,HA,hn,hc⟩ 3 Y (ce.2.2.Ho G.o (ah.1.trans bx.o)) (λb O=>Ll (G.o b O) (ah.1.trans bx.o).size)).mono ?_;rintro e c7 ⟨⟨cE,bT,bY,bf,b2,bn,bV,cP,ca⟩,rfl,bM,b0⟩;have f2:=b0.size;have c8:=ae bM;have a3:=ag (ah.2.2.2.1.aj (bx.trans b0)) ((ah.1.trans bx.o).trans b0);clear bM b0 a7 am aF;obtain⟨bl,aA,aO⟩:=a3.1.two;go_wp2_with(fail);generalize hX:World.setCell _ _ _=Z;obtain⟨bk,bd,bg⟩:=bw (w:=w) [.slice cE bT bY,.slice bf b2 bn,.slice bV cP ca,.int .i64 3] (by rfl) a3.1 a3.2 ad hX;have bh:=ag bd bg;clear hX bd bg bl aA aO;obtain⟨bl,aA,aO⟩:=bk.two;refine LU (v:=.tuple #[.agg #[.slice cE bT bY,.slice bf b2 bn,.slice bV cP ca,.int .i64 3],.bool true]) (by simp[results,Tryz.results19,go_sem,bl]) rfl ?_;rw[bX.o];exact fi (B:=Y.heap.size) (Q:={s with fault:=3}) c8.o bh.2 (λb O=>⟨λhl=>by have:=G.o b hl;omega,ad⟩) (λb O=>by have:=G.o b O;omega) ad bh.1 rfl
 ):p:=h
theorem sP(h:p:=by
 exact sM
 ):p:=h
theorem sR(h:p:=by
 have bp:cW (bC u) cn.locals cn.au x.place:=by
  exact zM
 have ax:=h.hS.xl;have cC:t<=1000:=ad;have e4:=h.hS.tok hN;have bL:=jA (s:=s) (nl:=cn.locals) (nk:=f.au.length) h.hU.ok h.hF (Int.le_refl _) (by rw[h.hF.tr h.hp];exact bp);have K:=ae (Km (u:=u) (s:=s) (t:=t) (f:=f) (x:=x) cA);have cq:=aE bp e4 bL;clear bp e4 bL ax;exact sO
 ):p:=h
end Dz
open Dz in
theorem qU(u:ay)(s:ai)(t:Int)(f:ak)(cn:cM)(x:az)(N:Nat)(P:Nat->Prop)(w:World)(p:UV)(q:SV)(h:jv u s t f cn x N)(hN:N<=100000)(cA:x.op=4\/x.op=5)(hu:p.Ok w u)(aD:q.Is w P s)(a1:∀b,P b->b<w.heap.size) :
  Calls prog 19 #[.agg (p.val u),.agg (q.val s),.int .i64 t] w (cV P w (bI u s t f x).1 (bI u s t f x).2):=by
 exact sQ
end Go.Proofs.YtkhnkojkplbioaaGreat

/- Part 44 of the proof. No condition of its own. -/
import Derived.Test.YtnhhdaggkiomoaaGreatQ48
import Derived.Test.YtnhhdaggkiomoaaGreatQ25
namespace Go.Proofs.YtnhhdaggkiomoaaGreat
open Go.RowKit Go.Proofs.Tryz
set_option maxRecDepth 1000000
set_option maxHeartbeats 25600000
set_option linter.unusedVariables false
variable{p:Prop}
theorem Fr.DY{M M':Nat→Prop}{a b:World}(h:Fr M a b)(hM:∀k,k<a.heap.size→M k→M' k):Fr M' a b:=⟨h.os,h.tape,h.output,h.size,fun k ap hn=>h.block k ap fun hm=>hn (hM k ap hm)⟩
def xE(g:Nat)(w:World):Nat:=match w.cell? ⟨g,2,none⟩ with|some (.slice _ n _)=>n|_=>0
def GQ(w:World)(u:ay)(x:az)(a b:List Int×Int)(e:Ending)(ab:World):Prop:=∃(av aC:Int) (IA:Ls) (i ic:Nat) (S:Ls) (l lc:Nat) (z:Int),e=.returned (.tuple #[.agg #[.int .i64 av,.int .i64 aC,.slice IA i ic,.slice S l lc],.int .i64 z])∧Ext w ab∧
 (a.2≠0→z=a.2)∧(a.2=0→b.2≠0→z=b.2)∧(a.2=0→b.2=0→z=0∧(er (da u x.target a.1 b.1)).rep ab (fresh w ab) [.int .i64 av,.int .i64 aC,.slice IA i ic,.slice S l lc])
namespace CW
theorem sr(h:p:=by
 have ao:=ag bb Q;obtain⟨d0,aL,aM⟩:=(ah.2.2.2.1.ai J).two;obtain⟨a8,am,aF⟩:=(ah.2.2.1.ai J).two;obtain⟨f0,dL,dN⟩:=(cz.2.ai V).two;clear bb Q c4 Z bp O aw aR hG T J V;go_upto_region 6 with(fail);refine eK (fun _=>False) [(0,3),(1,0),(2,3),(3,3),(4,0),(5,3),(6,0),(7,3),(8,0),(9,2),(10,3),(11,3),(12,3),(13,3),(14,3)] ?_;refine pf ?_;refine ph ?_
 iterate 2 refine pf ?_
 refine ph ?_;refine pf ?_;refine ph ?_;refine pf ?_;refine ph ?_;refine ax rfl (fun K hK=>?_);go_simp;have aa:Ext wr wr.drew:=(Fr.refl _ wr).drew;obtain⟨bq,cv⟩:=aQ.1.Ff (aQ.2.1 ex (KJ ao.1)) ((ah.2.2.2.2.2.1.on aW.2.2.2.2.1).on aa).at_.g ((ah.2.2.2.2.2.2.2.1.on aW.2.2.2.2.1).on aa).ints (D.on ao.2 (Fr.ext aa));refine(ny ex wr.drew bS IA bL i bD ic s.globals f.ints _ _ _ _ bq cv).mono ?_;rintro e aT ⟨rfl,bg⟩;have a4:=ae (show Ext wr aT from Fr.aF (Fr.of bg));have an:=fun bt=>nn (k:=k) aW.2.2.2.1 ao.1 bt;generalize ar:ev s.globals f.ints ex=R at *;obtain⟨r,z⟩:=R;have b2:=ag an ar;clear an ar bg aa d0 aL aM a8 am aF f0 dL dN c0 c1 c2 c3 aX bq cv;refine dO hK ?_;clear hK K
 iterate 5 refine pf ?_
 refine aE ?_;have bs:=aW.2.1.ai a4.o;have cb:=ae bs;obtain⟨e0,a6,aP⟩:=bs.two;have cP:=a4.size;by_cases bt:z=0
 ·have q5:(z != 0)=false:=by simpa using bt
  have P:=ae (aW.2.2.1.ai a4.o);have bd:=ae bt;clear bt bs;go_wp2_with(at_builtin;refine bQ de rfl (.tmp 53) (.tmp 55) rfl P.o (d:=D.i r) (cs:=#[.int .i64 r]) (by simp only[D.rep]) rfl rfl rfl ad ad ad ?_;intro cC be b6 cd g2 cS c9;have bF:=cb.on g2 (fun hm=>by have:=(P.lt hm).1;omega);clear e0 a6 aP;obtain⟨e0,a6,aP⟩:=bF.two;have b4:=aB cd g2 bF;clear cd g2 cS c9 bF);generalize hX:World.setCell _ _ _=X;have bo:aq X U.heap.size 73 #[.int .i64 x.target,.int .i64 0,.slice cC (k+1) be,.slice none 0 0]:=hX▸b4.2.2.aM 2 _;have aY:Fr (fun b=>b=U.heap.size) b6 X:=hX▸(Fr.refl (fun b=>b=U.heap.size) _).setCell (.inl rfl) _;have cg:Fr (fun b=>b=U.heap.size) Y X:=Fr.DY (M:=fun b=>b=U.heap.size∨(Value.slice A k c).ownBlock=some b) (Fr.trans (Fr.trans (Fr.mono (Fr.trans aW.1 (Fr.mono a4.o fun _ h=>h.elim)) fun _ h=>.inl h) (Fr.mono b4.2.1 fun _ h=>.inr h)) (Fr.mono aY fun _ h=>.inl h)) fun b O hm=>hm.elim id fun hm=>absurd (P.lt hm).1 ad;have co:=b4.1.c4 aY fun b O _=>⟨fun h=>h,by rw[O];omega⟩
  have au:=aB bo cg co;clear hX bo aY cg co e0 a6 aP;go_roundw
  case rel=>
   refine⟨k+1,cC,be,by go_num,ad,au.2.1,au.1,?_,fun e he=>?_⟩
   ·rw[aZ ao.1,KN,KN];have ac:=au.2.2;exact r5
   ·rw[aZ ao.1] at he;rcases KP.1 he with he|he
    ·exact aW.2.2.2.1 e he
    ·rw[Li.1 he,b2.2];exact bd.o
  case measure=>exact aH
 ·have q5:(z != 0)=true:=by simpa using bt
  have bV:=ae (b2.1 bt);have bd:=ae bt;have aI:=aW.2.2.2.2.1.trans a4.o;have cm:=ah.2.2.2.2.2.2.2.2.ai aI;have b8:=ag cm (ah.1.trans aI);obtain⟨bl,aA,aO⟩:=cm.two;clear bt bs aI cm;go_wp2_with(fail);generalize hX:World.setCell _ _ _=X;obtain⟨bo,br,cg⟩:=bA (w:=w) [.int .i64 x.target,.int .i64 0,.slice A k c,.slice none 0 0] (by rfl) b8.1 b8.2 ad hX;have au:=ae br;clear hX br cg bl aA aO e0 a6 aP;obtain⟨bl,aA,aO⟩:=bo.two;refine Ln (v:=.tuple #[.agg #[.int .i64 x.target,.int .i64 0,.slice A k c,.slice none 0 0],.int .i64 z]) (by simp[results,Tryz.results43,go_sem,bl]) rfl ?_;refine⟨_,_,_,_,_,_,_,_,z,rfl,au.o,fun _=>by rw[bV.o],fun h=>absurd h ?_,fun h=>absurd h ?_⟩
  ·rw[bV.o];exact bd.o
  ·rw[bV.o];exact bd.o
 ):p:=h
theorem hv(h:p:=by
 obtain⟨eo,en,es,EA,em,ec,QA,qm,qc,dh,j,db,KA,dk,kc⟩:=v;obtain⟨bh,bn,b1,c6,n,fc,IA,i,ic,S,l,lc,e,hT⟩:=hs.at_.top h.sm h.ht;simp only at e;subst e;obtain⟨ci,cA,bO,ct⟩:=h.args cy;have aV:x.ints.length=j:=by have:=bM.ints.1;simpa using this
 have bc:x.places.length=dk:=by have:=bM.places.1;simpa using this
 have cB:j≤200:=by have:=h.il;omega
 have cL:dk≤200:=by have:=h.kl;omega
 have aQ:=cT h ci cA aV bc ct;have cc:=bH hu hs bM hT;clear h ci cA aV bc ct hu hs bM hT;dsimp only[UV.val,SV.val,IV.val];go_enter func43,ntmps43;go_upto_region 1 with(fail);generalize ba:World.alloc _ _=W;have aw:=I0 ba;have b7:=H9 ba;have ce:=Ia ba;have a5:=Ib ba;have cm:=Ic ba;have ah:=xd aw b7 ce a5 (cc.1.on aw) (cc.2.1.on aw) (cc.2.2.1.on aw) (cc.2.2.2.on aw) cm;obtain⟨a8,am,aF⟩:=ce.two;clear ba aw b7 ce a5 cc cm;go_wp2_with(fail);refine(nz ah.2.2.2.2.2.2.2.1 _ _ _).mono ?_;rintro e aS ⟨rfl,aN⟩;have bu:=ae aN;clear a8 am aF;go_upto_region 2 with(fail);generalize hU:World.alloc _ _=U;have cl:=aU hU;have bf:=aG hU;have bK:=aN.trans cl;obtain⟨d0,aL,aM⟩:=(ah.2.2.2.1.ai bK).two;have cD:=bf.lt;have cz:=ag bK bf;clear hU cl bf bK aN;go_upto_region 3 with(fail);clear d0 aL aM;generalize cr:World.alloc _ _=Y;have bE:=aU cr;have bB:=aG cr;have cV:=bB.lt;have bC:=ag bE bB;clear cr bE bB;go_wp2_with(fail);go_loopw [13] (fun cu wr=>∃(k:Nat) (A:Ls) (c:Nat),cu=.int .i64 k∧k≤j∧Fr (fun b=>b=U.heap.size) Y wr∧aq wr U.heap.size 73 #[.int .i64 x.target,.int .i64 0,.slice A k c,.slice none 0 0]∧Gr (fun _=>False) Y.heap.size 3 1 wr A k c (((x.ints.take k).map fun e=>(ev s.globals f.ints e).1).map D.i)∧vX s.globals f.ints x.ints k) (fun cu _=>j - (intOf cu).toNat)
 case atStart=>exact⟨0,none,0,rfl,ad,Lo,bC.2,Gr.nil _ _ _ _ _,fun e he=>by simp at he⟩
 case round=>
  obtain⟨k,A,c,rfl,ap,aw,aR,hG,T⟩:=hrel;have V:Ext U wr:=Fr.low (M:=fun b=>b=U.heap.size) (Fr.trans (Fr.mono bC.1 fun _ h=>h.elim) aw) fun b O=>by rw[O];exact KG _
  have J:=cz.1.trans V;have aW:=cT aw aR hG T J V;have e5:=aw.size;by_cases ak:k<j
  ·obtain⟨b,o,ex,cs,rfl,O,bb,Q,bp,Z⟩:=(ah.2.2.2.2.2.2.1.ints.on (Fr.ext J)).gZ c8 ak;exact sq
  ·obtain rfl:k=j:=ad;have y:cO s.globals f.ints x.ints=(x.ints.map fun e=>(ev s.globals f.ints e).1,0):=np fun e he=>T e (by rw[KO (aD aQ.2.2.2.1)];exact he);have bN:Gr (fun _=>False) Y.heap.size 3 1 wr A k c ((cO s.globals f.ints x.ints).1.map D.i):=by
    have a2:=hG;rw[KO (aD aQ.2.2.2.1)] at a2;rw[y];exact a2
   obtain⟨cN,rfl⟩:∃cN,cN=wr:=⟨wr,rfl⟩
   have HA:=ag bN y;obtain⟨d0,aL,aM⟩:=(ah.2.2.2.1.ai J).two;clear aw aR hG T J V y bN;go_wp2_with(fail);clear d0 aL aM;go_loopw [16] (fun cu wr=>∃(m:Nat) (B:Ls) (aK:Nat),cu=.int .i64 m∧m≤dk∧Fr (fun b=>b=U.heap.size) cN wr∧aq wr U.heap.size 73 #[.int .i64 x.target,.int .i64 0,.slice A k c,.slice B m aK]∧Gr (fun _=>False) cN.heap.size 3 1 wr B m aK (((x.places.take m).map fun p=>(bG u s f p).1).map D.i)∧∀p∈x.places.take m,(bG u s f p).2=0) (fun cu _=>dk - (intOf cu).toNat)
   case atStart=>exact⟨0,none,0,rfl,ad,Lo,aW.2.1,Gr.nil _ _ _ _ _,fun e he=>by simp at he⟩
   case round=>
    obtain⟨m,B,aK,rfl,hm,aw,aR,hG,T⟩:=hrel;have V:Ext U wr:=Fr.low (M:=fun b=>b=U.heap.size) (Fr.trans (Fr.mono aW.2.2.2.2.2 fun _ h=>h.elim) aw) fun b O=>by rw[O];exact KG _
    have J:=cz.1.trans V;have bY:=cT aw aR hG T J V;have dI:=aw.size;by_cases dq:m<dk
    ·obtain⟨b,o,pl,bU,cQ,zc,rfl,O,bb,cE,cw,cG,bm,cR⟩:=(ah.2.2.2.2.2.2.1.places.on (Fr.ext J)).oQ dq;have aX:b<wr.heap.size:=O;have ao:=aB bb bm cR;obtain⟨a0,ai,af⟩:=(ah.2.1.ai J).two;obtain⟨a8,am,aF⟩:=(ah.2.2.1.ai J).two;obtain⟨d0,aL,aM⟩:=(ah.2.2.2.1.ai J).two;clear bb bm cR O aw aR hG T J V;go_upto_region 13 with(fail);refine eK (fun _=>False) [(0,0),(1,0),(2,3),(3,3),(4,0),(5,3),(6,3),(7,0),(8,2),(9,3),(10,3),(11,3),(12,3),(13,3)] ?_
     iterate 2 refine ph ?_
     iterate 2 refine pf ?_
     refine ph ?_
     iterate 2 refine pf ?_
     refine ph ?_;refine ax rfl (fun K hK=>?_);go_simp;have aa:Ext wr wr.drew:=(Fr.refl _ wr).drew;have bv:=bY.2.2.2.2.1.trans aa;refine(qs u s t f pl N wr.drew ⟨GA,gn,gc,MA,mn,mc,PA,pn,pc⟩ ⟨bS,bL,bD,TA,tn,tc,some ⟨bh,bn,none⟩,hn,hc⟩ bU cQ zc ⟨aQ.1.hU.ok,aQ.1.hS,aQ.1.sm,aQ.1.ht,⟨cq,aQ.1.hp,aQ.2.2.1 pl (KJ ao.1)⟩,ah.2.2.2.2.1.on bv,ah.2.2.2.2.2.1.on bv,dT.2 ⟨bU,cQ,zc,rfl,ao.2.1,ao.2.2.on (Fr.ext aa)⟩⟩).mono ?_;rintro e aT ⟨rfl,bg⟩;rw[ix aQ.1.ht];have a4:=ae (show Ext wr aT from Fr.aF (Fr.of bg));have an:=fun bt=>lY (k:=m) bY.2.2.2.1 ao.1 bt;generalize ar:bG u s f pl=R at *;obtain⟨r,z⟩:=R;have b2:=ag an ar;clear an ar bg aa bv a0 ai af a8 am aF d0 aL aM cE cw cG aX;refine dO hK ?_;clear hK K
     iterate 5 refine pf ?_
     refine aE ?_;have bs:=bY.2.1.ai a4.o;have cb:=ae bs;obtain⟨e0,a6,aP⟩:=bs.two;have cP:=a4.size;by_cases bt:z=0
     ·have q5:(z != 0)=false:=by simpa using bt
      have P:=ae (bY.2.2.1.ai a4.o);have bd:=ae bt;clear bt bs;go_wp2_with(at_builtin;refine bQ de rfl (.tmp 82) (.tmp 84) rfl P.o (d:=D.i r) (cs:=#[.int .i64 r]) (by simp only[D.rep]) rfl rfl rfl ad ad ad ?_;intro cC be b6 cd g2 cS c9;have bF:=cb.on g2 (fun hm=>by have:=(P.lt hm).1;omega);clear e0 a6 aP;obtain⟨e0,a6,aP⟩:=bF.two;have b4:=aB cd g2 bF;clear cd g2 cS c9 bF);generalize hX:World.setCell _ _ _=X;have bo:aq X U.heap.size 73 #[.int .i64 x.target,.int .i64 0,.slice A k c,.slice cC (m+1) be]:=hX▸b4.2.2.aM 3 _;have aY:Fr (fun b=>b=U.heap.size) b6 X:=hX▸(Fr.refl (fun b=>b=U.heap.size) _).setCell (.inl rfl) _;have cg:Fr (fun b=>b=U.heap.size) cN X:=Fr.DY (M:=fun b=>b=U.heap.size∨(Value.slice B m aK).ownBlock=some b) (Fr.trans (Fr.trans (Fr.mono (Fr.trans bY.1 (Fr.mono a4.o fun _ h=>h.elim)) fun _ h=>.inl h) (Fr.mono b4.2.1 fun _ h=>.inr h)) (Fr.mono aY fun _ h=>.inl h)) fun b O hm=>hm.elim id fun hm=>absurd (P.lt hm).1 ad;have co:=b4.1.c4 aY fun b O _=>⟨fun h=>h,by rw[O];omega⟩
      have au:=aB bo cg co;clear hX bo aY cg co e0 a6 aP;go_roundw
      case rel=>
       refine⟨m+1,cC,be,by go_num,ad,au.2.1,au.1,?_,fun e he=>?_⟩
       ·rw[aZ ao.1,KN,KN];have ac:=au.2.2;exact r5
       ·rw[aZ ao.1] at he;rcases KP.1 he with he|he
        ·exact bY.2.2.2.1 e he
        ·rw[Li.1 he,b2.2];exact bd.o
      case measure=>exact aH
     ·have q5:(z != 0)=true:=by simpa using bt
      have bV:=ae (b2.1 bt);have bd:=ae bt;have aI:=bY.2.2.2.2.1.trans a4.o;have cm:=ah.2.2.2.2.2.2.2.2.ai aI;have b8:=ag cm (ah.1.trans aI);obtain⟨bl,aA,aO⟩:=cm.two;clear bt bs aI cm;go_wp2_with(fail);generalize hX:World.setCell _ _ _=X;obtain⟨bo,br,cg⟩:=bA (w:=w) [.int .i64 x.target,.int .i64 0,.slice A k c,.slice B m aK] (by rfl) b8.1 b8.2 ad hX;have au:=ae br;clear hX br cg bl aA aO e0 a6 aP;obtain⟨bl,aA,aO⟩:=bo.two;refine Ln (v:=.tuple #[.agg #[.int .i64 x.target,.int .i64 0,.slice A k c,.slice B m aK],.int .i64 z]) (by simp[results,Tryz.results43,go_sem,bl]) rfl ?_;refine⟨_,_,_,_,_,_,_,_,z,rfl,au.o,fun h=>absurd ?_ h,fun _ _=>by rw[bV.o],fun _ h=>absurd h ?_⟩
      ·rw[HA.2]
      ·rw[bV.o];exact bd.o
    ·obtain rfl:m=dk:=ad;have a9:b0 u s f x.places=(x.places.map fun p=>(bG u s f p).1,0):=lZ fun e he=>T e (by rw[KO (aD aQ.2.2.2.2.1)];exact he);have ch:Sl wr (fun b=>cN.heap.size≤b∧b<wr.heap.size) B m ((b0 u s f x.places).1.map D.i):=by
      have a2:=hG;rw[KO (aD aQ.2.2.2.2.1)] at a2;rw[a9];exact a2.sl (fun b _ h=>h.elim) fun b ak O=>⟨O,ak⟩
     have bI:=hG.cap.1;have bN:=HA.1.c4 aw fun b O _=>⟨fun h=>h,by rw[O];omega⟩
     obtain⟨cx,rfl⟩:∃cx,cx=wr:=⟨wr,rfl⟩
     have ca:=bH ch bI a9 bN;obtain⟨eA,c7,dU,eX,bZ⟩:=aQ.2.2.2.2.2;have cf:=(List.getElem?_eq_some_iff.1 c7).1;have bk:=ah.2.2.2.2.1.at_.p.1;rw[KK] at bk;simp only at bk;obtain⟨pb,fu,dD,bx,bW,bJ,e,eN,cM,cE,cw,cG,b5,cK,_,_⟩:=ah.2.2.2.2.1.at_.proc (k:=x.target.toNat) (by show x.target.toNat<pn;omega);simp only at e;subst e;rw[c7] at cM;injection cM with cM;subst cM;have cn:=bZ.ints;obtain⟨L,aJ⟩:=KL (a:=eA.locals) ad;rw[aJ] at b5;have dO:k≤L:=by have:=aQ.2.2.2.1;omega
     have b9:L≤200:=ad;have bX:x.target<(pn:Int):=ad;have bz:eV u x.target=L:=by unfold eV;rw[c7];simp[aJ]
     have ck:=aB bz eN b5;obtain⟨d0,aL,aM⟩:=(ah.2.2.2.1.ai J).two;clear aw aR hG T J V a9 ch bN c7 dU eX bZ cf bk eN cE cw cG b5 cK cn aJ bz;go_wp2_with(fail);clear d0 aL aM;go_loopw [97] (fun _ wr=>∃(bP:Nat) (A2:Ls) (c2:Nat),k≤bP∧bP≤L∧Fr (fun b=>b=U.heap.size∨(Y.heap.size≤b∧b<cN.heap.size)) cx wr∧aq wr U.heap.size 73 #[.int .i64 x.target,.int .i64 0,.slice A2 bP c2,.slice B m aK]∧Gr (fun _=>False) Y.heap.size 3 1 wr A2 bP c2 (((cO s.globals f.ints x.ints).1++List.replicate (bP - k) 0).map D.i)∧∀b,(Value.slice A2 bP c2).ownBlock=some b→(b<cN.heap.size∨cx.heap.size≤b)) (fun _ wr=>L - xE U.heap.size wr)
     case atStart=>exact⟨k,A,c,ad,dO,Lo,bY.2.1,by rw[Nat.sub_self,List.replicate_zero,Lg];exact ca.2.2.2,fun b O=>.inl (HA.1.lt O).2⟩
     case round=>
      obtain⟨bP,A2,c2,cj,bc,aw,aR,hG,aC⟩:=hrel;have cZ:=bC.1.size;have V:Ext U wr:=Fr.low (M:=fun b=>b=U.heap.size∨(Y.heap.size≤b∧b<cN.heap.size)) (Fr.trans (Fr.mono bY.2.2.2.2.2 fun _ h=>h.elim) aw) fun b O=>by rcases O with O|O<;>omega
      have J:=cz.1.trans V;have bT:=cT aw aR hG aC J V;have cR:=aw.size;obtain⟨a0,ai,af⟩:=(ah.2.1.ai J).two;obtain⟨d0,aL,aM⟩:=(ah.2.2.2.1.ai J).two;obtain⟨e0,a6,aP⟩:=aR.two;have b5:=(J.cell ck.2.1 fun h=>h).trans ck.2.2;have bk:pb<wr.heap.size:=KH ck.2.1 J.size;clear aw aR hG aC J V;by_cases bj:bP<L
      ·go_upto_region 17 with(fail);refine eK (fun _=>False) [(0,3),(1,0),(2,3),(3,3),(4,0),(5,3),(6,0),(7,3),(8,3),(9,0),(10,3)] ?_;refine pf ?_;refine ph ?_
       iterate 2 refine pf ?_
       refine ph ?_;refine pf ?_;refine ph ?_
       iterate 2 refine pf ?_
       refine ph ?_;refine pf ?_;refine aE ?_;generalize bR:World.drew wr=aT;have a3:Ext wr aT:=bR▸(Fr.refl _ wr).drew;clear bR a0 ai af d0 aL aM b5 bk e0 a6 aP;have a4:=ae a3;have bs:=bT.2.1.ai a3;have cb:=ae bs;have P:=ae (bT.2.2.1.ai a3);have cP:=a3.size;obtain⟨e0,a6,aP⟩:=bs.two;clear a3 bs;have di:(bP:Int)<(L:Int):=ad;have q7:decide ((bP:Int)<(L:Int))=true:=decide_eq_true di;go_wp2_with(at_builtin;refine bQ de rfl (.tmp 99) (.tmp 100) rfl P.o (d:=D.i 0) (cs:=#[.int .i64 0]) (by simp only[D.rep]) rfl rfl rfl ad ad ad ?_;intro cC be b6 cd g2 cS c9;have bF:=cb.on g2 (fun hm=>by have:=(P.lt hm).1;omega);clear e0 a6 aP;obtain⟨e0,a6,aP⟩:=bF.two;have b4:=bH cd g2 bF cS;clear cd g2 cS c9 bF);generalize hX:World.setCell _ _ _=X;have bo:aq X U.heap.size 73 #[.int .i64 x.target,.int .i64 0,.slice cC (bP+1) be,.slice B m aK]:=hX▸b4.2.2.1.aM 2 _;have aY:Fr (fun b=>b=U.heap.size) b6 X:=hX▸(Fr.refl (fun b=>b=U.heap.size) _).setCell (.inl rfl) _;have cg:Fr (fun b=>b=U.heap.size∨(Y.heap.size≤b∧b<cN.heap.size)) cx X:=Fr.DY (M:=fun b=>(b=U.heap.size∨(Y.heap.size≤b∧b<cN.heap.size))∨(Value.slice A2 bP c2).ownBlock=some b) (Fr.trans (Fr.trans (Fr.mono (Fr.trans bT.1 (Fr.mono a4.o fun _ h=>h.elim)) fun _ h=>.inl h) (Fr.mono b4.2.1 fun _ h=>.inr h)) (Fr.mono aY fun _ h=>.inl (.inl h))) fun b O hm=>hm.elim id fun hm=>.inr ⟨(P.lt hm).1,by rcases bT.2.2.2.1 b hm with h|h<;>omega⟩;have co:=b4.1.c4 aY fun b O _=>⟨fun h=>h,by rw[O];omega⟩
       have cp:∀b,(Value.slice cC (bP+1) be).ownBlock=some b→(b<cN.heap.size∨cx.heap.size≤b):=fun b O=>(b4.2.2.2 b O).elim (fun h=>bT.2.2.2.1 b h) fun h=>.inr ad;have bw:L - xE U.heap.size X<L - xE U.heap.size wr:=by
        unfold xE;rw[bo.cell 2,bT.2.1.cell 2];show L - (bP+1)<L - bP
        omega
       have au:=cI bo cg co cp bw;clear hX bo aY cg co cp bw e0 a6 aP;go_roundw
       case rel=>
        refine⟨bP+1,cC,be,ad,ad,au.2.1,au.1,?_,au.2.2.2.1⟩;rw[show bP+1 - k=(bP - k)+1 by omega,List.replicate_succ',←List.append_assoc,KN];exact au.2.2.1
       case measure=>exact au.2.2.2.2
      ·have dH:bP=L:=ad;have q7:decide ((bP:Int)<(L:Int))=false:=decide_eq_false ad;have cU:=ae dH;clear dH;go_upto_region 17 with(fail);refine eK (fun _=>False) [(0,3),(1,0),(2,3),(3,3),(4,0),(5,3),(6,0),(7,3),(8,3),(9,0),(10,3)] ?_;refine pf ?_;refine ph ?_
       iterate 2 refine pf ?_
       refine ph ?_;refine pf ?_;refine ph ?_
       iterate 2 refine pf ?_
       refine ph ?_;refine pf ?_;refine aE ?_;generalize bR:World.drew wr=aT;have a3:Ext wr aT:=bR▸(Fr.refl _ wr).drew;clear bR a0 ai af d0 aL aM b5 bk e0 a6 aP;have cP:=a3.size;have bs:=bT.2.1.ai a3;have a7:Fr (fun b=>b=U.heap.size∨(Y.heap.size≤b∧b<cN.heap.size)) cx aT:=Fr.trans bT.1 (Fr.mono a3 fun _ h=>h.elim);have aI:=bT.2.2.2.2.1.trans a3;have cm:=ah.2.2.2.2.2.2.2.2.ai aI;have b8:=bH cm (ah.1.trans aI) (bT.2.2.1.ai a3) a7;obtain⟨e0,a6,aP⟩:=bs.two;obtain⟨bl,aA,aO⟩:=cm.two;clear a3 bs aI cm a7;go_wp2_with(fail);generalize hX:World.setCell _ _ _=X;obtain⟨bo,br,cg⟩:=bA (w:=w) [.int .i64 x.target,.int .i64 0,.slice A2 bP c2,.slice B m aK] (by rfl) b8.1 b8.2.1 ad hX;have au:=ag br cg;clear hX br cg bl aA aO e0 a6 aP;obtain⟨bl,aA,aO⟩:=bo.two;refine Ln (v:=.tuple #[.agg #[.int .i64 x.target,.int .i64 0,.slice A2 bP c2,.slice B m aK],.int .i64 0]) (by simp[results,Tryz.results43,go_sem,bl]) rfl ?_;refine⟨_,_,_,_,_,_,_,_,0,rfl,au.1,fun h=>absurd ?_ h,fun _ h=>absurd ?_ h,fun _ _=>⟨rfl,?_⟩⟩
       ·rw[HA.2]
       ·rw[ca.2.2.1]
       ·have cF:=ah.2.2.2.2.2.2.2.2.lt;have bi:=cz.1.size;have cY:=bC.1.size;have c5:=aW.1.size;have dd:=bY.1.size;have b3:=b8.2.2.2.size;have cX:=au.2.size;have gs:=b8.2.2.1.c4 au.2 fun b O _=>⟨fun h=>h,by rw[O];omega⟩
        refine ga.2 ⟨A2,bP,c2,B,m,aK,rfl,b8.2.2.1.cap.1,ca.2.1,?_,?_⟩
        ·have hlen:(cO s.globals f.ints x.ints).1.length=k:=by rw[HA.2];simp[aQ.2.2.2.1]
         show Sl X _ A2 bP (((cO s.globals f.ints x.ints).1++List.replicate (eV u x.target - (cO s.globals f.ints x.ints).1.length) 0).map D.i)
         rw[ck.1,hlen,←cU.o];exact gs.sl (fun b _ h=>h.elim) fun b ak O=>⟨ad,ak⟩
        ·show Sl X _ B m ((b0 u s f x.places).1.map D.i)
         refine(ca.1.ak (ab:=X) fun b O=>?_).mono fun b O=>⟨ad,ad⟩
         rw[au.2.block b ad ad,b8.2.2.2.block b O.2 ad]
 ):p:=h
end CW
open CW in
theorem um(u:ay)(s:aj)(t:Int)(f:al)(cq:cJ)(x:az)(N:Nat)(w:World)(p:UV)(q:SV)(v:IV)(h:jO u s t f cq x N)(cy:x.op=2∨x.op=3)(hu:p.Ok w u)(hs:q.Ok w s)(bM:v.Ok w x) :
  Calls prog 43 #[.agg (p.val u),.agg (q.val s),.int .i64 t,.agg (v.val x)] w (GQ w u x (cO s.globals f.ints x.ints) (b0 u s f x.places)):=by
 exact hr
namespace CX
theorem vj(h:p:=by
 rw[bV.o];exact ff (B:=V.heap.size) bC.1 bd.2 (fun b O=>⟨fun hl=>by have:=G.o b hl;omega,ad⟩) (fun b O=>by have:=G.o b O;omega) ad bd.1 (by rw[uj bY.2.1])
 ):p:=h
theorem dC(h:p:=by
 generalize bO:World.setCell _ _ _=dF;obtain⟨cv,bP⟩:=y.1.push cR.1 (fun b hm=>⟨(cR.2 b hm).1,(cR.2 b hm).2.1,(cR.2 b hm).2.2.1,(cR.2 b hm).2.2.2.1⟩) cC.1 cC.2.1 cC.2.2 bO;have cW:Fr (fun b=>b=lb∨b=O) A dF:=by
  rw[←bO];exact Fr.setCell (Fr.mono cC.2.1 fun _ h=>.inl h) (.inl (.inr rfl)) _
 have ck:=(aQ.1.lo O (by simp)).1;have i:Ext V dF:=Fr.low (M:=fun b=>b=lb∨b=O) (Fr.trans (Fr.mono y.2.1 fun _ h=>h.elim) cW) fun b O=>by rcases O with O|O<;>omega
 have bC:=aB cv bP (cn.trans i);have aD:=i.size;clear bO cv bP cW i br bo dB dY;exact vi
 ):p:=h
theorem sc(h:p:=by
 clear cr dl aY;rcases cg.o with h|h
 all_goals
  first
   | have q1:(x.op == 1)=true:=by simpa using h
   | have q1:(x.op == 1)=false:=by simp;omega
  first
   | have cB:(x.op == 2)=true:=by simpa using h
   | have cB:(x.op == 2)=false:=by simp;omega
  first
   | have dd:(x.op == 3)=true:=by simpa using h
   | have dd:(x.op == 3)=false:=by simp;omega
  first
   | have df:(x.op == 4)=true:=by simpa using h
   | have df:(x.op == 4)=false:=by simp;omega
  first
   | have q5:(x.op == 5)=true:=by simpa using h
   | have q5:(x.op == 5)=false:=by simp;omega
  first
   | have di:(x.op == 6)=true:=by simpa using h
   | have di:(x.op == 6)=false:=by simp;omega
  first
   | have q7:(x.op == 7)=true:=by simpa using h
   | have q7:(x.op == 7)=false:=by simp;omega
  first
   | have dH:(x.op == 8)=true:=by simpa using h
   | have dH:(x.op == 8)=false:=by simp;omega
  have bv:=ae h;clear h;go_wp2_with(fail);refine(um u s t f cq x N X ⟨GA,gn,gc,MA,mn,mc,PA,pn,pc⟩ ⟨bS,bL,bD,TA,tn,tc,HA,hn,hc⟩ ⟨eo,en,es,EA,em,ec,QA,qm,qc,dh,j,db,KA,dk,kc⟩ l.o cg.o (ah.2.2.2.2.1.on aQ.2.2) (ah.2.2.2.2.2.on aQ.2.2) (dE.on aQ.2.1)).mono ?_;rintro e cN ⟨av,aC,FA,dn,bk,dD,fl,bx,z,rfl,cw,cb,dj,ak⟩;have ac:=ae (JG (u:=u) (s:=s) (t:=t) (f:=f) (x:=x) cg.o);have cj:=ae cw;clear cw;generalize cO s.globals f.ints x.ints=aa at *;generalize b0 u s f x.places=bb at *;obtain⟨dS,a1⟩:=aa;obtain⟨bi,bz⟩:=bb;clear a0 ai af a8 am aF d0 aL aM e0 a6 aP c0 c1 c2 c3 H flb J bp k cp;by_cases aK:a1=0
  case neg=>
   obtain rfl:=cb aK;have bV:=ae (ac.Ij aK);have EL:(z == 0)=false:=by simpa using aK
   have IJ:(z != 0)=true:=by simpa using aK
   clear aK cb dj ak ac;exact F4
  by_cases I:bz=0
  case neg=>
   obtain rfl:=dj aK I;have bV:=ae (ac.Ik aK I);have EL:(z == 0)=false:=by simpa using I
   have IJ:(z != 0)=true:=by simpa using I
   clear aK I cb dj ak ac;exact F4
  obtain⟨rfl,bU⟩:=ak aK I;generalize cV:da u x.target dS bi=R at *
 ·
  have bV:=ae (ac.call aK I bv.o);rw[cV] at bV;have a5:=ae bU;clear aK I cb dj ak ac cV bU;go_upto_region 24 with(fail);generalize bw:World.alloc _ _=A;have n:=aU bw;have bt:=aG bw;have r:=cj.trans n;have y:=aB (RO.ai aQ.1 r) (aQ.2.1.trans r) (aQ.2.2.trans r);have Y:=ag bt n;have bq:=n.size;have cz:=cj.size;have T:=ae y.2.2;clear bw n r;obtain⟨a8,am,aF⟩:=(ah.2.2.1.ai y.2.2).two;obtain⟨d0,aL,aM⟩:=(b3.ai y.2.1).two;obtain⟨e0,a6,aP⟩:=y.1.o.two;obtain⟨bp,k,flb,J,H,c0,c1,c2,c3,cp⟩:=y.1.top;obtain⟨f0,dL,dN⟩:=bt.two;clear bt;have ar:(er R).rep A (fresh X cN) [.int .i64 av,.int .i64 aC,.slice FA dn bk,.slice dD fl bx]:=D.aS (fun b O=>Y.2.block b O.2 fun h=>h) _ _ a5.o;have S:=aQ.1.lo;have cM:∀b,fresh X cN b→V.heap.size≤b∧b<A.heap.size∧b≠O∧b≠lb∧b≠b6.heap.size:=fun b aX=>⟨by have:=aX.1;omega,by have:=aX.2;omega,fun he=>by have:=(S O (by simp)).2;have:=aX.1;omega,fun he=>by have:=(S lb (by simp)).2;have:=aX.1;omega,fun he=>by have:=(S b6.heap.size (by simp)).2;have:=aX.1;omega⟩
  have cR:=ag ar cM;clear ar cM S;have dp:=cf;obtain⟨bI,b4,ch,-,-⟩:=y.1.sep;have cx:=y.1.l;have dq:=ae cx;have d2:cN.heap.size≠lb:=by have:=(aQ.1.lo lb (by simp)).2;omega
  have dJ:b6.heap.size≠lb:=b4;have ap:O≠lb:=ch;clear cx;go_upto_region 29 with(fail);refine eK (fun b=>b=lb) [(0,3),(1,0),(2,3),(3,3),(4,0),(5,1),(6,1),(7,3),(8,3),(9,2)] ?_;refine pf ?_;refine ow ?_
  iterate 2 refine pf ?_
  refine ow ?_;refine q0 ?_;refine l4 (fun aV=>Ext A aV∧aq aV A.heap.size 73 #[.int .i64 av,.int .i64 aC,.slice FA dn bk,.slice dD fl bx]∧aV.heap.size=A.heap.size+1) ⟨by first|exact((Fr.refl _ A).drew).alloc _|exact((Fr.refl _ A).alloc _).drew,by first|exact Lp|exact aq.new A.drew _ _,by simp⟩ (fun dw bu=>?_);have au:=ae bu;clear bu;refine aJ rfl (fun K hK=>?_);rw[if_pos (by rfl)];refine x5 xr (.tmp 161) (.tmp 163) rfl (dq.ai au.1) au.2.1 rfl rfl rfl (by simp[Value.oneCell']) ad ad ?_;intro A2 bG cQ cd g2 cS;have cW:Fr (fun b=>b=lb) dw cQ:=g2.mono fun b O=>Li.1 O;refine dz hK (cW) ?_;clear hK K;have a2:Fr (fun b=>b=lb) A cQ:=Fr.trans (au.1.mono fun _ h=>h.elim) cW;have cC:=aB cd a2 (fun b O=>(cS b O).imp (fun h=>Li.1 h) (fun h=>(⟨by have:=au.2.2;omega,h.2⟩:A.heap.size≤b∧b<cQ.heap.size)));have br:=(a2.cell (j:=t.toNat) k ap).trans H;have bo:∀j,cQ.frozen? ⟨O,j,none⟩=false:=fun j=>(a2.frozen k ap).trans (J j);have dB:=a2.size;clear cd g2 cS cW a2 e0 a6 aP f0 dL dN d0 aL aM a8 am aF c0 c1 c2 c3 H flb J;exact Bi
 ·
  have bJ:=ag (ac.many aK I bv.o) (ac.go aK I bv.o);rw[cV] at bJ;have a5:=ae bU;clear aK I cb dj ak ac cV bU;by_cases bg:32≤hn
  ·have cU:decide ((hn:Int)≥32)=true:=by simpa using (by omega:(32:Int)≤(hn:Int))
   have bV:=ae (bJ.1 (by rw[←bY.2.2.2.2];exact bg));clear bg bJ;go_upto_region 24 with(fail);generalize bw:World.alloc _ _=A;have n:=aU bw;have bt:=aG bw;have r:=cj.trans n;have y:=aB (RO.ai aQ.1 r) (aQ.2.1.trans r) (aQ.2.2.trans r);have Y:=ag bt n;have bq:=n.size;have cz:=cj.size;have T:=ae y.2.2;clear bw n r;obtain⟨a8,am,aF⟩:=(ah.2.2.1.ai y.2.2).two;obtain⟨d0,aL,aM⟩:=(b3.ai y.2.1).two;obtain⟨e0,a6,aP⟩:=y.1.o.two;obtain⟨bp,k,flb,J,H,c0,c1,c2,c3,cp⟩:=y.1.top;obtain⟨f0,dL,dN⟩:=bt.two;clear bt;have dx:=T.size;go_wp2_with(fail);refine(oU P s ⟨bS,bL,bD,TA,tn,tc,HA,hn,hc⟩ 4 A (cc.2.2.GJ G.o (ah.1.trans T.o)) (fun b O=>KH (G.o b O) (ah.1.trans T.o).size)).mono ?_;rintro e c6 ⟨⟨co,bB,bQ,bf,bs,bn,bR,cF,b9⟩,rfl,bZ,bX⟩;have e4:=bX.size;have c7:=ae bZ;have aW:=ag (ah.2.2.2.1.ai (T.trans bX)) ((ah.1.trans T.o).trans bX);clear bZ bX f0 dL dN d0 aL aM e0 a6 aP c0 c1 c2 c3 H flb J bp k cp a8 am aF;obtain⟨bl,aA,aO⟩:=aW.1.two;go_wp2_with(fail);generalize hX:World.setCell _ _ _=Z;obtain⟨bh,a9,be⟩:=bA (w:=w) [.slice co bB bQ,.slice bf bs bn,.slice bR cF b9,.int .i64 4] (by rfl) aW.1 aW.2 ad hX;have bd:=ag a9 be;clear hX a9 be bl aA aO;obtain⟨bl,aA,aO⟩:=bh.two;refine Ln (v:=.tuple #[.agg #[.slice co bB bQ,.slice bf bs bn,.slice bR cF b9,.int .i64 4],.bool true]) (by simp[results,Tryz.results14,go_sem,bl]) rfl ?_;rw[bV.o];exact ff (B:=A.heap.size) (Q:={s with fault:=4}) c7.o bd.2 (fun b O=>⟨fun hl=>by have:=G.o b hl;omega,ad⟩) (fun b O=>by have:=G.o b O;omega) ad bd.1 rfl
  ·have cU:decide ((hn:Int)≥32)=false:=by simp;omega
   have bV:=ae (bJ.2 (by rw[←bY.2.2.2.2];exact bg));have bE:=bY.2.2.2.2;clear bg bJ;go_upto_region 24 with(fail);generalize bw:World.alloc _ _=A;have n:=aU bw;have bt:=aG bw;have r:=cj.trans n;have y:=aB (RO.ai aQ.1 r) (aQ.2.1.trans r) (aQ.2.2.trans r);have Y:=ag bt n;have bq:=n.size;have cz:=cj.size;have T:=ae y.2.2;clear bw n r;obtain⟨a8,am,aF⟩:=(ah.2.2.1.ai y.2.2).two;obtain⟨d0,aL,aM⟩:=(b3.ai y.2.1).two;obtain⟨e0,a6,aP⟩:=y.1.o.two;obtain⟨bp,k,flb,J,H,c0,c1,c2,c3,cp⟩:=y.1.top;obtain⟨f0,dL,dN⟩:=bt.two;clear bt;have ar:(er R).rep A (fresh X cN) [.int .i64 av,.int .i64 aC,.slice FA dn bk,.slice dD fl bx]:=D.aS (fun b O=>Y.2.block b O.2 fun h=>h) _ _ a5.o;have S:=aQ.1.lo;have cM:∀b,fresh X cN b→V.heap.size≤b∧b<A.heap.size∧b≠O∧b≠lb∧b≠b6.heap.size:=fun b aX=>⟨by have:=aX.1;omega,by have:=aX.2;omega,fun he=>by have:=(S O (by simp)).2;have:=aX.1;omega,fun he=>by have:=(S lb (by simp)).2;have:=aX.1;omega,fun he=>by have:=(S b6.heap.size (by simp)).2;have:=aX.1;omega⟩
   have cR:=ag ar cM;clear ar cM S;have aR:=y.1.hl;simp only[List.length_set] at aR;have cm:ct≤1000:=ad;clear aR bE;obtain⟨bI,b4,ch,-,-⟩:=y.1.sep;have cx:=y.1.h.ai ((Fr.refl _ A).alloc (.cells #[.int .i64 av,.int .i64 aC,.slice FA dn bk,.slice dD fl bx] 73));have an:=y.1.o.ai ((Fr.refl _ A).alloc (.cells #[.int .i64 av,.int .i64 aC,.slice FA dn bk,.slice dD fl bx] 73));have dq:=ag cx an;clear cx an;go_upto_region 45 with(at_builtin;refine m0 sx rfl (.tmp 168) (.tmp 172) rfl dq.1 (cs:=#[.slice (some ⟨A.heap.size,0,none⟩) 1 1]) rfl rfl (by simp) rfl (by simp[Value.oneCell']) (by simp only;omega) (by simp only;omega) ?_;intro A2 bG cQ cd g2 cS;have c9:=g2.mono (M':=fun b=>b=O) (fun b hm=>Li.1 hm);have cD:=dq.2.on c9 bI;have cC:=aB cd c9 cS;clear cd g2 cS c9 e0 a6 aP f0 dL dN d0 aL aM a8 am aF;obtain⟨e0,a6,aP⟩:=cD.two;clear cD);generalize bO:World.setCell _ _ _=dF;obtain⟨cv,bP⟩:=y.1.start cR.1 (fun b hm=>⟨(cR.2 b hm).1,(cR.2 b hm).2.1,(cR.2 b hm).2.2.1,(cR.2 b hm).2.2.2.2⟩) rfl cC.1 cC.2.1 (fun b hm=>(cC.2.2 b hm).imp (fun h=>Li.1 h) id) bO;have cW:Fr (fun b=>b=O∨b=b6.heap.size) A dF:=by
    rw[←bO];exact Fr.setCell (Fr.trans ((Fr.refl _ A).alloc _) (Fr.mono cC.2.1 fun _ h=>.inl h)) (.inl (.inr rfl)) _
   have ck:=(aQ.1.lo O (by simp)).1;have dt:=(aQ.1.lo b6.heap.size (by simp)).1;have i:Ext V dF:=Fr.low (M:=fun b=>b=O∨b=b6.heap.size) (Fr.trans (Fr.mono y.2.1 fun _ h=>h.elim) cW) fun b O=>by rcases O with O|O<;>omega
   have bC:=aB cv bP (cn.trans i);have aD:=i.size;clear bO cv bP cW i e0 a6 aP c0 c1 c2 c3 H flb J;have aW:=ag (ah.2.2.2.1.ai bC.2.2) (ah.1.trans bC.2.2);have cZ:=bC.2.2.size;obtain⟨bl,aA,aO⟩:=aW.1.two;obtain⟨e0,a6,aP⟩:=bC.2.1.two;go_wp2_with(fail);generalize hX:World.setCell _ _ _=Z;obtain⟨bh,a9,be⟩:=bA (w:=w) [.slice bH cu bc,.slice ab m L,.slice A2 (ct+1) bG,.int .i64 s.fault] (by rfl) aW.1 aW.2 ad hX;have bd:=ag a9 be;clear hX a9 be bl aA aO e0 a6 aP;obtain⟨bl,aA,aO⟩:=bh.two;refine Ln (v:=.tuple #[.agg #[.slice bH cu bc,.slice ab m L,.slice A2 (ct+1) bG,.int .i64 s.fault],.bool true]) (by simp[results,Tryz.results14,go_sem,bl]) rfl ?_;exact C4
 ):p:=h
theorem se(h:p:=by
 exact sb
 ):p:=h
theorem si(h:p:=by
 exact sd
 ):p:=h
end CX
open CX in
theorem qw(u:ay)(s:aj)(t:Int)(f:al)(cq:cJ)(x:az)(N:Nat)(P:Nat→Prop)(w:World)(p:UV)(q:SV)(h:jO u s t f cq x N)(hN:N≤100000)(cy:x.op=2∨x.op=3)(hu:p.Ok w u)(b1:q.Is w P s)(aZ:∀b,P b→b<w.heap.size) :
  Calls prog 14 #[.agg (p.val u),.agg (q.val s),.int .i64 t] w (cG P w (bW u s t f x).1 (bW u s t f x).2):=by
 exact sf
namespace CY
theorem AO(h:p:=by
 rw[bV.o];exact zF
 ):p:=h
theorem z8(h:p:=by
 clear bZ bX a0 ai af d0 aL aM e0 a6 aP c0 c1 c2 c3 H flb J bp k cp a8 am aF;exact Gd
 ):p:=h
theorem sc(h:p:=by
 clear cr dl aY;rcases cg.o with h|h
 all_goals
  first
   | have q1:(x.op == 1)=true:=by simpa using h
   | have q1:(x.op == 1)=false:=by simp;omega
  first
   | have cB:(x.op == 2)=true:=by simpa using h
   | have cB:(x.op == 2)=false:=by simp;omega
  first
   | have dd:(x.op == 3)=true:=by simpa using h
   | have dd:(x.op == 3)=false:=by simp;omega
  first
   | have df:(x.op == 4)=true:=by simpa using h
   | have df:(x.op == 4)=false:=by simp;omega
  first
   | have q5:(x.op == 5)=true:=by simpa using h
   | have q5:(x.op == 5)=false:=by simp;omega
  first
   | have di:(x.op == 6)=true:=by simpa using h
   | have di:(x.op == 6)=false:=by simp;omega
  first
   | have q7:(x.op == 7)=true:=by simpa using h
   | have q7:(x.op == 7)=false:=by simp;omega
  first
   | have dH:(x.op == 8)=true:=by simpa using h
   | have dH:(x.op == 8)=false:=by simp;omega
  have bv:=ae h;clear h;go_wp2_with(fail);refine(qs u s t f x.place N X ⟨GA,gn,gc,MA,mn,mc,PA,pn,pc⟩ ⟨bS,bL,bD,TA,tn,tc,HA,hn,hc⟩ QA qm qc ⟨l.hU.ok,l.hS,l.sm,l.ht,⟨cq,l.hp,ck.1⟩,ah.2.2.2.2.1.on aQ.2.2,ah.2.2.2.2.2.on aQ.2.2,(dE.on aQ.2.1).place⟩).mono ?_;rintro e cN ⟨rfl,bu⟩;rw[ix l.ht];have cw:Ext X cN:=Fr.of bu;have b0:=ck.2.2;have ar:=ae K.o;generalize bG u s f x.place=R at *;obtain⟨av,z⟩:=R;have a2:=ae b0;have y:=aB (RO.ai aQ.1 cw) (aQ.2.1.trans cw) (aQ.2.2.trans cw);have cj:=ae y.2.2;have cz:=cw.size;clear b0 bu cw a0 ai af a8 am aF d0 aL aM e0 a6 aP c0 c1 c2 c3 H flb J bp k cp;obtain⟨a8,am,aF⟩:=(ah.2.2.1.ai y.2.2).two;obtain⟨d0,aL,aM⟩:=(b3.ai y.2.1).two;obtain⟨e0,a6,aP⟩:=y.1.o.two;obtain⟨bp,k,flb,J,H,c0,c1,c2,c3,cp⟩:=y.1.top;obtain⟨a0,ai,af⟩:=(ah.2.1.ai cj.o).two;by_cases bt:z=0
  case neg=>
   have bV:=ae (ar.bad bt);have cD:(z != 0)=true:=by simpa using bt
   exact z7
  have cD:(z != 0)=false:=by simpa using bt
  have aV:=a2.2 bt;have aJ:=lR l.hU.ok;have bi:av≤5000:=by simp only at aV;omega
  have bb:=ae bt;clear bt aV aJ
 ·
  have bw:=ae (ar.lf bb.o bv.o);have b4:=ae (ar.ln bb.o bv.o);go_wp2_with(fail);refine(ur MA TA mn mc tn tc u.af s.table av t cN (ah.2.2.2.2.1.on cj.o).at_.m.ou l.hU.ok.yW (ah.2.2.2.2.2.on cj.o).at_.t.holds ck.2.1 ad).mono ?_;intro e c6 ap;have ak:(fw u.af s.table av t).length=tn:=by rw[fa];exact bY.2.2.2.1.symm
  obtain⟨I,aK,rfl,bI,ch,aC,S⟩:=ap.open_ (n:=tn) ak;have bX:Ext cN c6:=Fr.of S;generalize hT:fw u.af s.table av t=T at *;have r:Own c6 102 2 I tn aK (T.flatMap bJ) (bq I tn aK):=⟨g9 aC (Ld _),rfl⟩
  have aE:∀b∈bq I tn aK,cN.heap.size≤b∧b<c6.heap.size:=fun b O=>aC.lt b (by simpa using O);have au:Sl c6 (fun b=>cN.heap.size≤b∧b<c6.heap.size) I tn (T.map lj):=r.sl (dw _) (by rw[KK];exact ak) aE;have aR:=aB (RO.ai y.1 bX) (y.2.1.trans bX) (y.2.2.trans bX);have aa:=ag au bI;have cC:=bX.size;clear hT ak ap ch aC S bX r aE au bI a0 ai af a8 am aF d0 aL aM e0 a6 aP c0 c1 c2 c3 H flb J bp k cp;obtain⟨a8,am,aF⟩:=(ah.2.2.1.ai aR.2.2).two;obtain⟨d0,aL,aM⟩:=(b3.ai aR.2.1).two;obtain⟨e0,a6,aP⟩:=aR.1.o.two;obtain⟨bp,k,flb,J,H,c0,c1,c2,c3,cp⟩:=aR.1.top;go_upto_region 38 with(fail);generalize hX:World.setCell _ _ _=Y;obtain⟨cv,bP⟩:=aR.1.HU aa.1 aa.2 (fun b aX=>.inr ⟨by have:=aQ.1.lo b6.heap.size (by simp);have:=aX.1;omega,aX.2,by have:=aQ.1.lo b6.heap.size (by simp);have:=aX.1;omega⟩) hX;have cW:=cL hX;have dt:=(aQ.1.lo b6.heap.size (by simp)).1;have i:Ext V Y:=Fr.low (M:=fun b=>b=b6.heap.size) (Fr.trans (Fr.mono aR.2.1 fun _ h=>h.elim) cW) fun b O=>ad;have bC:=aB cv bP (cn.trans i);have bg:=ae bC.2.2;have aD:=i.size;clear hX cv bP cW i a8 am aF d0 aL aM e0 a6 aP c0 c1 c2 c3 H flb J bp k cp
  cases bE:free u.af s.table av t with
  | true=>
   exact F7
  | false=>
   have bV:=ae (b4.o bE);obtain⟨a8,am,aF⟩:=(ah.2.2.1.ai bg.o).two;have aW:=ag (ah.2.2.2.1.ai bg.o) (ah.1.trans bg.o);obtain⟨bl,aA,aO⟩:=aW.1.two;go_wp2_with(fail);generalize hX:World.setCell _ _ _=Z;obtain⟨bh,a9,be⟩:=bA (w:=w) [.slice bS bL bD,.slice TA tn tc,.slice HA hn hc,.int .i64 s.fault] (by rfl) aW.1 aW.2 ad hX;exact AN
 ·
  have bw:=ae (ar.uf bb.o bv.o);have b4:=ae (ar.un bb.o bv.o);go_wp2_with(fail);refine(q3 MA TA mn mc tn tc u.af s.table av t cN (ah.2.2.2.2.1.on cj.o).at_.m.ou l.hU.ok.yW (ah.2.2.2.2.2.on cj.o).at_.t.holds ck.2.1 ad).mono ?_;intro e c6 ap;have ak:(cV u.af s.table av t).length=tn:=by rw[eZ];exact bY.2.2.2.1.symm
  obtain⟨I,aK,rfl,bI,ch,aC,S⟩:=ap.open_ (n:=tn) ak;have bX:Ext cN c6:=Fr.of S;generalize hT:cV u.af s.table av t=T at *;have r:Own c6 102 2 I tn aK (T.flatMap bJ) (bq I tn aK):=⟨g9 aC (Ld _),rfl⟩
  have aE:∀b∈bq I tn aK,cN.heap.size≤b∧b<c6.heap.size:=fun b O=>aC.lt b (by simpa using O);have au:Sl c6 (fun b=>cN.heap.size≤b∧b<c6.heap.size) I tn (T.map lj):=r.sl (dw _) (by rw[KK];exact ak) aE;have aR:=aB (RO.ai y.1 bX) (y.2.1.trans bX) (y.2.2.trans bX);have aa:=ag au bI;have cC:=bX.size;clear hT ak ap ch aC S bX r aE au bI a0 ai af a8 am aF d0 aL aM e0 a6 aP c0 c1 c2 c3 H flb J bp k cp;obtain⟨a8,am,aF⟩:=(ah.2.2.1.ai aR.2.2).two;obtain⟨d0,aL,aM⟩:=(b3.ai aR.2.1).two;obtain⟨e0,a6,aP⟩:=aR.1.o.two;obtain⟨bp,k,flb,J,H,c0,c1,c2,c3,cp⟩:=aR.1.top;go_upto_region 41 with(fail);generalize hX:World.setCell _ _ _=Y;obtain⟨cv,bP⟩:=aR.1.HU aa.1 aa.2 (fun b aX=>.inr ⟨by have:=aQ.1.lo b6.heap.size (by simp);have:=aX.1;omega,aX.2,by have:=aQ.1.lo b6.heap.size (by simp);have:=aX.1;omega⟩) hX;have cW:=cL hX;have dt:=(aQ.1.lo b6.heap.size (by simp)).1;have i:Ext V Y:=Fr.low (M:=fun b=>b=b6.heap.size) (Fr.trans (Fr.mono aR.2.1 fun _ h=>h.elim) cW) fun b O=>ad;have bC:=aB cv bP (cn.trans i);have bg:=ae bC.2.2;have aD:=i.size;clear hX cv bP cW i a8 am aF d0 aL aM e0 a6 aP c0 c1 c2 c3 H flb J bp k cp
  cases bE:heldBy u.af s.table av t with
  | true=>
   exact F7
  | false=>
   have bV:=ae (b4.o bE);obtain⟨a8,am,aF⟩:=(ah.2.2.1.ai bg.o).two;have dx:=bg.size;go_wp2_with(fail);refine(oU P s ⟨bS,bL,bD,TA,tn,tc,HA,hn,hc⟩ 3 Y (cc.2.2.GJ G.o (ah.1.trans bg.o)) (fun b O=>KH (G.o b O) (ah.1.trans bg.o).size)).mono ?_;rintro e c6 ⟨⟨co,bB,bQ,bf,bs,bn,bR,cF,b9⟩,rfl,bZ,bX⟩;have e4:=bX.size;have c7:=ae bZ;have aW:=ag (ah.2.2.2.1.ai (bg.trans bX)) ((ah.1.trans bg.o).trans bX);clear bZ bX a8 am aF;obtain⟨bl,aA,aO⟩:=aW.1.two;go_wp2_with(fail);generalize hX:World.setCell _ _ _=Z;obtain⟨bh,a9,be⟩:=bA (w:=w) [.slice co bB bQ,.slice bf bs bn,.slice bR cF b9,.int .i64 3] (by rfl) aW.1 aW.2 ad hX;have bd:=ag a9 be;clear hX a9 be bl aA aO;obtain⟨bl,aA,aO⟩:=bh.two;refine Ln (v:=.tuple #[.agg #[.slice co bB bQ,.slice bf bs bn,.slice bR cF b9,.int .i64 3],.bool true]) (by simp[results,Tryz.results14,go_sem,bl]) rfl ?_;rw[bV.o];exact ff (B:=Y.heap.size) (Q:={s with fault:=3}) c7.o bd.2 (fun b O=>⟨fun hl=>by have:=G.o b hl;omega,ad⟩) (fun b O=>by have:=G.o b O;omega) ad bd.1 rfl
 ):p:=h
theorem se(h:p:=by
 exact sb
 ):p:=h
theorem si(h:p:=by
 have bk:cU (bx u) cq.locals cq.av x.place:=by
  exact ze
 have ax:=h.hS.x0;have cM:t≤1000:=ad;have dL:=h.hS.tok hN;have b0:=jt (s:=s) (nl:=cq.locals) (nk:=f.av.length) h.hU.ok h.hF (Int.le_refl _) (by rw[h.hF.sR h.hp];exact bk);have K:=ae (JI (u:=u) (s:=s) (t:=t) (f:=f) (x:=x) cy);have ck:=aB bk dL b0;clear bk dL b0 ax;exact sd
 ):p:=h
end CY
open CY in
theorem qy(u:ay)(s:aj)(t:Int)(f:al)(cq:cJ)(x:az)(N:Nat)(P:Nat→Prop)(w:World)(p:UV)(q:SV)(h:jO u s t f cq x N)(hN:N≤100000)(cy:x.op=4∨x.op=5)(hu:p.Ok w u)(b1:q.Is w P s)(aZ:∀b,P b→b<w.heap.size) :
  Calls prog 14 #[.agg (p.val u),.agg (q.val s),.int .i64 t] w (cG P w (bW u s t f x).1 (bW u s t f x).2):=by
 exact sf
namespace CZ
theorem vj(h:p:=by
 rw[bV.o];exact ff (B:=V.heap.size) bC.1 bd.2.drew (fun b O=>⟨fun hl=>by have:=G.o b hl;omega,ad⟩) (fun b O=>by have:=G.o b O;omega) ad bd.1.drew (by rw[xO bY.2.1,List.set_set])
 ):p:=h
theorem dC(h:p:=by
 generalize hX:World.setCell _ _ _=Y;obtain⟨r,bI⟩:=aQ.1.drop hX;have ar:=cL hX;have y:=(aQ.1.lo O (by simp)).1;have i:Ext V Y:=Fr.low (M:=fun b=>b=O) (Fr.trans (Fr.mono aQ.2.1 fun _ h=>h.elim) ar) fun b O=>ad;have bC:=aB r bI (cn.trans i);have aD:=i.size;clear hX r bI ar i a0 ai af a8 am aF d0 aL aM e0 a6 aP c0 c1 c2 c3 H flb J;exact vi
 ):p:=h
theorem AS(h:p:=by
 iterate 3 refine pf ?_
 exact eP
 ):p:=h
theorem sc(h:p:=by
 clear cr dl aY;rcases cg.o with h|h
 all_goals
  first
   | have q1:(x.op == 1)=true:=by simpa using h
   | have q1:(x.op == 1)=false:=by simp;omega
  first
   | have cB:(x.op == 2)=true:=by simpa using h
   | have cB:(x.op == 2)=false:=by simp;omega
  first
   | have dd:(x.op == 3)=true:=by simpa using h
   | have dd:(x.op == 3)=false:=by simp;omega
  first
   | have df:(x.op == 4)=true:=by simpa using h
   | have df:(x.op == 4)=false:=by simp;omega
  first
   | have q5:(x.op == 5)=true:=by simpa using h
   | have q5:(x.op == 5)=false:=by simp;omega
  first
   | have di:(x.op == 6)=true:=by simpa using h
   | have di:(x.op == 6)=false:=by simp;omega
  first
   | have q7:(x.op == 7)=true:=by simpa using h
   | have q7:(x.op == 7)=false:=by simp;omega
  first
   | have dH:(x.op == 8)=true:=by simpa using h
   | have dH:(x.op == 8)=false:=by simp;omega
 ·
  have bV:=ae (xU (u:=u) (s:=s) (t:=t) (f:=f) h);clear h;go_upto_region 45 with(fail);generalize hX:World.setCell _ _ _=Y;have n:=aQ.1.pc x.target;rw[hX] at n;have ar:=cL hX;have i:Ext V Y:=Fr.low (M:=fun b=>b=lb) (Fr.trans (Fr.mono aQ.2.1 fun _ h=>h.elim) ar) fun b O=>ad;have bC:=aB n.is n.o (cn.trans i);have aD:=i.size;clear hX n ar i a0 ai af a8 am aF d0 aL aM e0 a6 aP c0 c1 c2 c3 H flb J;exact F8
 ·
  have bV:=ae (xV (u:=u) (s:=s) (t:=t) (f:=f) h);clear h;go_upto_region 9 with(fail);exact AR
 ):p:=h
theorem se(h:p:=by
 exact sb
 ):p:=h
theorem si(h:p:=by
 exact sd
 ):p:=h
end CZ
open CZ in
theorem qz(u:ay)(s:aj)(t:Int)(f:al)(cq:cJ)(x:az)(N:Nat)(P:Nat→Prop)(w:World)(p:UV)(q:SV)(h:jO u s t f cq x N)(hN:N≤100000)(cy:x.op=7∨x.op=8)(hu:p.Ok w u)(b1:q.Is w P s)(aZ:∀b,P b→b<w.heap.size) :
  Calls prog 14 #[.agg (p.val u),.agg (q.val s),.int .i64 t] w (cG P w (bW u s t f x).1 (bW u s t f x).2):=by
 exact sf
end Go.Proofs.YtnhhdaggkiomoaaGreat

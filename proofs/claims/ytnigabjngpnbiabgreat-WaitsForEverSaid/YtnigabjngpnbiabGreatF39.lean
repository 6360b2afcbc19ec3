/- Part 39 of the proof. No condition of its own. -/
import Derived.Test.YtnigabjngpnbiabGreatF30
import Derived.Test.YtnigabjngpnbiabGreatF38
namespace Go.Proofs.YtnigabjngpnbiabGreat
open Go.RowKit Go.Proofs.Tryz
set_option maxRecDepth 1000000
set_option maxHeartbeats 25600000
set_option linter.unusedVariables false
variable{ng nl:Nat}{p:Prop}
theorem Fr.Ft{M M':Nat->Prop}{a b:World}(h:Fr M a b)(hM:∀k,k<a.heap.size->M k->M' k):Fr M' a b:=⟨h.os,h.tape,h.output,h.size,λk aj hn=>h.block k aj λhm=>hn (hM k aj hm)⟩
def yQ(g:Nat)(w:World):Nat:=match w.cell? ⟨g,2,none⟩ with|some (.slice _ n _)=>n|_=>0
def IU(w:World)(u:aw)(x:aA)(a b:List Int×Int)(e:Ending)(ab:World):Prop:=∃(aV ba:Int) (IA:NH) (i ic:Nat) (bC:NH) (l lc:Nat) (z:Int),e=.returned (.tuple #[.agg #[.int .i64 aV,.int .i64 ba,.slice IA i ic,.slice bC l lc],.int .i64 z])/\Ext w ab/\
 (a.2≠0->z=a.2)/\(a.2=0->b.2≠0->z=b.2)/\(a.2=0->b.2=0->z=0/\(gP (dt u x.target a.1 b.1)).rep ab (fresh w ab) [.int .i64 aV,.int .i64 ba,.slice IA i ic,.slice bC l lc])
namespace D3
theorem tb(h:p:=by
 have Q:=ah bb aa;obtain⟨d0,aQ,aS⟩:=(al.2.2.2.1.aj J).two;obtain⟨bs,am,aK⟩:=(al.2.2.1.aj J).two;obtain⟨f0,cH,dS⟩:=(cz.2.aj V).two;clear bb aa cX Z bu O aF aT hG P J V;go_upto_region 6 with(fail);refine eJ (λ_=>False) [(0,3),(1,0),(2,3),(3,3),(4,0),(5,3),(6,0),(7,3),(8,0),(9,2),(10,3),(11,3),(12,3),(13,3),(14,3)] ?_;refine pf ?_;refine ph ?_
 iterate 2 refine pf ?_
 refine ph ?_;refine pf ?_;refine ph ?_;refine pf ?_;refine ph ?_;refine au rfl (λK hK=>?_);go_simp;have bc:Ext wr wr.drew:=(Fr.refl _ wr).drew;obtain⟨cj,cy⟩:=aP.1.G1 (aP.2.1 ex (M4 Q.1)) ((al.2.2.2.2.2.1.on a3.2.2.2.2.1).on bc).at_.g ((al.2.2.2.2.2.2.2.1.on a3.2.2.2.2.1).on bc).ints (D.on Q.2 (Fr.ext bc));refine(ob ex wr.drew bI IA bU i bx ic s.globals f.ints _ _ _ _ cj cy).mono ?_;rintro e aW ⟨rfl,bn⟩;have a8:=ae (show Ext wr aW from Fr.aF (Fr.of bn));have ar:=λaI=>nT (k:=k) a3.2.2.2.1 Q.1 aI;generalize bd:ev s.globals f.ints ex=R at *;obtain⟨r,z⟩:=R;have bL:=ah ar bd;clear ar bd bn bc d0 aQ aS bs am aK f0 cH dS c0 c1 c2 c3 aZ cj cy;refine dY hK ?_;clear hK K
 iterate 5 refine pf ?_
 refine aG ?_;have bG:=a3.2.1.aj a8.o;have cb:=ae bG;obtain⟨e0,a6,ag⟩:=bG.two;have cI:=a8.size;by_cases aI:z=0
 .have q5:(z != 0)=false:=by simpa using aI
  have aq:=ae (a3.2.2.1.aj a8.o);have bj:=ae aI;clear aI bG;go_wp2_with(at_builtin;refine bJ cF rfl (.tmp 53) (.tmp 55) rfl aq.o (d:=D.i r) (cs:=#[.int .i64 r]) (by simp only[D.rep]) rfl rfl rfl ad ad ad ?_;intro cu bi b6 cd g2 cA c6;have b0:=cb.on g2 (λhm=>by have:=(aq.lt hm).1;omega);clear e0 a6 ag;obtain⟨e0,a6,ag⟩:=b0.two;have b7:=ay cd g2 b0;clear cd g2 cA c6 b0);generalize hX:World.setCell _ _ _=X;have bE:an X U 77 #[.int .i64 x.target,(0:Int),.slice cu (k+1) bi,()]:=hX▸b7.2.2.aK 2 _;have a2:Fr (λb=>b=U.heap.size) b6 X:=hX▸(Fr.refl (λb=>b=U.heap.size) _).setCell (.inl rfl) _;have ct:Fr (λb=>b=U.heap.size) Y X:=Fr.Ft (M:=λb=>b=U.heap.size\/(Value.slice A k c).ownBlock=some b) (Fr.trans (Fr.trans (Fr.mono (Fr.trans a3.1 (Fr.mono a8.o λ_ h=>h.elim)) λ_ h=>.inl h) (Fr.mono b7.2.1 λ_ h=>.inr h)) (Fr.mono a2 λ_ h=>.inl h)) λb O hm=>hm.elim id λhm=>absurd (aq.lt hm).1 ad;have cN:=b7.1.cD a2 λb O _=>⟨λh=>h,by rw[O];omega⟩
  have av:=ay bE ct cN;clear hX bE a2 ct cN e0 a6 ag;go_roundw
  case rel=>
   refine⟨k+1,cu,bi,by go_num,ad,av.2.1,av.1,?_,λe he=>?_⟩
   .rw[aU Q.1,Na,Na];have ac:=av.2.2;exact yu
   .rw[aU Q.1] at he;rcases Nc.1 he with he|he
    .exact a3.2.2.2.1 e he
    .rw[Nv.1 he,bL.2];exact bj.o
  case measure=>exact aH
 .have q5:(z != 0)=true:=by simpa using aI
  have bZ:=ae (bL.1 aI);have bj:=ae aI;have aC:=a3.2.2.2.2.1.trans a8.o;have T:=al.2.2.2.2.2.2.2.2.aj aC;have b2:=ah T (al.1.trans aC);obtain⟨bq,a1,a5⟩:=T.two;clear aI bG aC T;go_wp2_with(fail);generalize hX:World.setCell _ _ _=X;obtain⟨bE,bt,ct⟩:=a9 (w:=w) [.int .i64 x.target,(0:Int),.slice A k c,()] (by rfl) b2.1 b2.2 ad hX;have av:=ae bt;clear hX bt ct bq a1 a5 e0 a6 ag;obtain⟨bq,a1,a5⟩:=bE.two;refine NB (v:=.tuple #[.agg #[.int .i64 x.target,(0:Int),.slice A k c,()],z]) (by simp[results,Tryz.results89,go_sem,bq]) rfl ?_;refine⟨_,_,_,_,_,_,_,_,z,rfl,av.o,λ_=>by rw[bZ.o],λh=>absurd h ?_,λh=>absurd h ?_⟩
  .rw[bZ.o];exact bj.o
  .rw[bZ.o];exact bj.o
 ):p:=h
theorem fP(h:p:=by
 obtain⟨eo,en,es,EA,em,ec,QA,qm,qc,dl,j,dh,KA,di,kc⟩:=v;obtain⟨bg,bD,ch,cT,n,fc,IA,i,ic,bC,l,lc,e,hT⟩:=hs.at_.top h.sm h.ht;simp only at e;subst e;obtain⟨b4,cE,bF,cw⟩:=h.args cp;have aV:x.ints.length=j:=by have:=bK.ints.1;simpa using this
 have bP:x.places.length=di:=by have:=bK.places.1;simpa using this
 have cP:j<=200:=by have:=h.il;omega
 have cV:di<=200:=by have:=h.kl;omega
 have aP:=dH h b4 cE aV bP cw;have cc:=br hu hs bK hT;clear h b4 cE aV bP cw hu hs bK hT;dsimp only[UV.val,SV.val,IV.val];go_enter func89,ntmps89;go_upto_region 1 with(fail);generalize be:World.alloc _ _=W;have aF:=Ko be;have bX:=HS be;have bh:=HT be;have ba:=HU be;have T:=HV be;have al:=yl aF bX bh ba (cc.1.on aF) (cc.2.1.on aF) (cc.2.2.1.on aF) (cc.2.2.2.on aF) T;obtain⟨bs,am,aK⟩:=bh.two;clear be aF bX bh ba cc T;go_wp2_with(fail);refine(od al.2.2.2.2.2.2.2.1 _ _ _).mono ?_;rintro e aO ⟨rfl,aM⟩;have bw:=ae aM;clear bs am aK;go_upto_region 2 with(fail);generalize hU:World.alloc _ _=U;have cl:=aX hU;have bk:=aL hU;have bY:=aM.trans cl;obtain⟨d0,aQ,aS⟩:=(al.2.2.2.1.aj bY).two;have cS:=bk.lt;have cz:=ah bY bk;clear hU cl bk bY aM;go_upto_region 3 with(fail);clear d0 aQ aS;generalize co:World.alloc _ _=Y;have bA:=aX co;have bp:=aL co;have cZ:=bp.lt;have bB:=ah bA bp;clear co bA bp;go_wp2_with(fail);go_loopw [13] (λb5 wr=>∃(k:Nat) (A:NH) (c:Nat),b5=.int .i64 k/\k<=j/\Fr (λb=>b=U.heap.size) Y wr/\an wr U 77 #[.int .i64 x.target,(0:Int),.slice A k c,()]/\Gr (λ_=>False) Y 3 1 wr A k c (((x.ints.take k).map λe=>(ev s.globals f.ints e).1).map D.i)/\xg s.globals f.ints x.ints k) (λb5 _=>j - (intOf b5).toNat)
 case atStart=>exact⟨0,none,0,rfl,ad,NC,bB.2,Gr.nil _ _ _ _ _,λe he=>by simp at he⟩
 case round=>
  obtain⟨k,A,c,rfl,aj,aF,aT,hG,P⟩:=hrel;have V:Ext U wr:=Fr.low (M:=λb=>b=U.heap.size) (Fr.trans (Fr.mono bB.1 λ_ h=>h.elim) aF) λb O=>by rw[O];exact MU _
  have J:=cz.1.trans V;have a3:=dH aF aT hG P J V;have fk:=aF.size;by_cases ap:k<j
  .obtain⟨b,o,ex,cs,rfl,O,bb,aa,bu,Z⟩:=(al.2.2.2.2.2.2.1.ints.on (Fr.ext J)).g1 c7 ap;exact ta
  .obtain rfl:k=j:=ad;have y:cW s.globals f.ints x.ints=(x.ints.map λe=>(ev s.globals f.ints e).1,0):=nU λe he=>P e (by rw[Nb (ax aP.2.2.2.1)];exact he);have b1:Gr (λ_=>False) Y 3 1 wr A k c ((cW s.globals f.ints x.ints).1.map D.i):=by
    have aR:=hG;rw[Nb (ax aP.2.2.2.1)] at aR;rw[y];exact aR
   obtain⟨cD,rfl⟩:∃cD,cD=wr:=⟨wr,rfl⟩
   have HA:=ah b1 y;obtain⟨d0,aQ,aS⟩:=(al.2.2.2.1.aj J).two;clear aF aT hG P J V y b1;go_wp2_with(fail);clear d0 aQ aS;go_loopw [16] (λb5 wr=>∃(m:Nat) (B:NH) (aD:Nat),b5=.int .i64 m/\m<=di/\Fr (λb=>b=U.heap.size) cD wr/\an wr U 77 #[.int .i64 x.target,(0:Int),.slice A k c,.slice B m aD]/\Gr (λ_=>False) cD 3 1 wr B m aD (((x.places.take m).map λp=>(bH u s f p).1).map D.i)/\∀p∈x.places.take m,(bH u s f p).2=0) (λb5 _=>di - (intOf b5).toNat)
   case atStart=>exact⟨0,none,0,rfl,ad,NC,a3.2.1,Gr.nil _ _ _ _ _,λe he=>by simp at he⟩
   case round=>
    obtain⟨m,B,aD,rfl,hm,aF,aT,hG,P⟩:=hrel;have V:Ext U wr:=Fr.low (M:=λb=>b=U.heap.size) (Fr.trans (Fr.mono a3.2.2.2.2.2 λ_ h=>h.elim) aF) λb O=>by rw[O];exact MU _
    have J:=cz.1.trans V;have bW:=dH aF aT hG P J V;have cv:=aF.size;by_cases cG:m<di
    .obtain⟨b,o,pl,b9,aN,zc,rfl,O,bb,ci,cr,cf,bV,cY⟩:=(al.2.2.2.2.2.2.1.places.on (Fr.ext J)).pH cG;have aZ:b<wr:=O;have Q:=ay bb bV cY;obtain⟨a0,ak,af⟩:=(al.2.1.aj J).two;obtain⟨bs,am,aK⟩:=(al.2.2.1.aj J).two;obtain⟨d0,aQ,aS⟩:=(al.2.2.2.1.aj J).two;clear bb bV cY O aF aT hG P J V;go_upto_region 13 with(fail);refine eJ (λ_=>False) [(0,0),(1,0),(2,3),(3,3),(4,0),(5,3),(6,3),(7,0),(8,2),(9,3),(10,3),(11,3),(12,3),(13,3)] ?_
     iterate 2 refine ph ?_
     iterate 2 refine pf ?_
     refine ph ?_
     iterate 2 refine pf ?_
     refine ph ?_;refine au rfl (λK hK=>?_);go_simp;have bc:Ext wr wr.drew:=(Fr.refl _ wr).drew;have cM:=bW.2.2.2.2.1.trans bc;refine(q3 u s t f pl N wr.drew ⟨GA,gn,gc,MA,mn,mc,PA,pn,pc⟩ ⟨bI,bU,bx,TA,tn,tc,some ⟨bg,bD,none⟩,hn,hc⟩ b9 aN zc ⟨aP.1.hU.ok,aP.1.hS,aP.1.sm,aP.1.ht,⟨cq,aP.1.hp,aP.2.2.1 pl (M4 Q.1)⟩,al.2.2.2.2.1.on cM,al.2.2.2.2.2.1.on cM,dK.2 ⟨b9,aN,zc,rfl,Q.2.1,Q.2.2.on (Fr.ext bc)⟩⟩).mono ?_;rintro e aW ⟨rfl,bn⟩;rw[iO aP.1.ht];have a8:=ae (show Ext wr aW from Fr.aF (Fr.of bn));have ar:=λaI=>mA (k:=m) bW.2.2.2.1 Q.1 aI;generalize bd:bH u s f pl=R at *;obtain⟨r,z⟩:=R;have bL:=ah ar bd;clear ar bd bn bc cM a0 ak af bs am aK d0 aQ aS ci cr cf aZ;refine dY hK ?_;clear hK K
     iterate 5 refine pf ?_
     refine aG ?_;have bG:=bW.2.1.aj a8.o;have cb:=ae bG;obtain⟨e0,a6,ag⟩:=bG.two;have cI:=a8.size;by_cases aI:z=0
     .have q5:(z != 0)=false:=by simpa using aI
      have aq:=ae (bW.2.2.1.aj a8.o);have bj:=ae aI;clear aI bG;go_wp2_with(at_builtin;refine bJ cF rfl (.tmp 82) (.tmp 84) rfl aq.o (d:=D.i r) (cs:=#[.int .i64 r]) (by simp only[D.rep]) rfl rfl rfl ad ad ad ?_;intro cu bi b6 cd g2 cA c6;have b0:=cb.on g2 (λhm=>by have:=(aq.lt hm).1;omega);clear e0 a6 ag;obtain⟨e0,a6,ag⟩:=b0.two;have b7:=ay cd g2 b0;clear cd g2 cA c6 b0);generalize hX:World.setCell _ _ _=X;have bE:an X U 77 #[.int .i64 x.target,(0:Int),.slice A k c,.slice cu (m+1) bi]:=hX▸b7.2.2.aK 3 _;have a2:Fr (λb=>b=U.heap.size) b6 X:=hX▸(Fr.refl (λb=>b=U.heap.size) _).setCell (.inl rfl) _;have ct:Fr (λb=>b=U.heap.size) cD X:=Fr.Ft (M:=λb=>b=U.heap.size\/(Value.slice B m aD).ownBlock=some b) (Fr.trans (Fr.trans (Fr.mono (Fr.trans bW.1 (Fr.mono a8.o λ_ h=>h.elim)) λ_ h=>.inl h) (Fr.mono b7.2.1 λ_ h=>.inr h)) (Fr.mono a2 λ_ h=>.inl h)) λb O hm=>hm.elim id λhm=>absurd (aq.lt hm).1 ad;have cN:=b7.1.cD a2 λb O _=>⟨λh=>h,by rw[O];omega⟩
      have av:=ay bE ct cN;clear hX bE a2 ct cN e0 a6 ag;go_roundw
      case rel=>
       refine⟨m+1,cu,bi,by go_num,ad,av.2.1,av.1,?_,λe he=>?_⟩
       .rw[aU Q.1,Na,Na];have ac:=av.2.2;exact yu
       .rw[aU Q.1] at he;rcases Nc.1 he with he|he
        .exact bW.2.2.2.1 e he
        .rw[Nv.1 he,bL.2];exact bj.o
      case measure=>exact aH
     .have q5:(z != 0)=true:=by simpa using aI
      have bZ:=ae (bL.1 aI);have bj:=ae aI;have aC:=bW.2.2.2.2.1.trans a8.o;have T:=al.2.2.2.2.2.2.2.2.aj aC;have b2:=ah T (al.1.trans aC);obtain⟨bq,a1,a5⟩:=T.two;clear aI bG aC T;go_wp2_with(fail);generalize hX:World.setCell _ _ _=X;obtain⟨bE,bt,ct⟩:=a9 (w:=w) [.int .i64 x.target,(0:Int),.slice A k c,.slice B m aD] (by rfl) b2.1 b2.2 ad hX;have av:=ae bt;clear hX bt ct bq a1 a5 e0 a6 ag;obtain⟨bq,a1,a5⟩:=bE.two;refine NB (v:=.tuple #[.agg #[.int .i64 x.target,(0:Int),.slice A k c,.slice B m aD],z]) (by simp[results,Tryz.results89,go_sem,bq]) rfl ?_;refine⟨_,_,_,_,_,_,_,_,z,rfl,av.o,λh=>absurd ?_ h,λ_ _=>by rw[bZ.o],λ_ h=>absurd h ?_⟩
      .rw[HA.2]
      .rw[bZ.o];exact bj.o
    .obtain rfl:m=di:=ad;have a4:b3 u s f x.places=(x.places.map λp=>(bH u s f p).1,0):=mB λe he=>P e (by rw[Nb (ax aP.2.2.2.2.1)];exact he);have bS:Sl wr (λb=>cD.heap.size<=b/\b<wr.heap.size) B m ((b3 u s f x.places).1.map D.i):=by
      have aR:=hG;rw[Nb (ax aP.2.2.2.2.1)] at aR;rw[a4];exact aR.sl (λb _ h=>h.elim) λb ap O=>⟨O,ap⟩
     have bM:=hG.cap.1;have b1:=HA.1.cD aF λb O _=>⟨λh=>h,by rw[O];omega⟩
     obtain⟨cg,rfl⟩:∃cg,cg=wr:=⟨wr,rfl⟩
     have bT:=br bS bM a4 b1;obtain⟨eE,dd,dO,f2,ca⟩:=aP.2.2.2.2.2;have ce:=(List.getElem?_eq_some_iff.1 dd).1;have bo:=al.2.2.2.2.1.at_.p.1;rw[M5] at bo;simp only at bo;obtain⟨pb,gR,dq,S,cB,bQ,e,bl,cU,ci,cr,cf,bv,cL,_,_⟩:=al.2.2.2.2.1.at_.proc (k:=x.target.toNat) (by show x.target.toNat<pn;omega);simp only at e;subst e;rw[dd] at cU;injection cU with cU;subst cU;have cm:=ca.ints;obtain⟨L,aE⟩:=M6 (a:=eE.locals) ad;rw[aE] at bv;have dY:k<=L:=by have:=aP.2.2.2.1;omega
     have cC:L<=200:=ad;have cK:x.target<(pn:Int):=ad;have aJ:fi u x.target=L:=by unfold fi;rw[dd];simp[aE]
     have ck:=ay aJ bl bv;obtain⟨d0,aQ,aS⟩:=(al.2.2.2.1.aj J).two;clear aF aT hG P J V a4 bS b1 dd dO f2 ca ce bo bl ci cr cf bv cL cm aE aJ;go_wp2_with(fail);clear d0 aQ aS;go_loopw [97] (λ_ wr=>∃(bR:Nat) (A2:NH) (c2:Nat),k<=bR/\bR<=L/\Fr (λb=>b=U.heap.size\/(Y.heap.size<=b/\b<cD.heap.size)) cg wr/\an wr U 77 #[.int .i64 x.target,(0:Int),.slice A2 bR c2,.slice B m aD]/\Gr (λ_=>False) Y.heap.size 3 1 wr A2 bR c2 (((cW s.globals f.ints x.ints).1++List.replicate (bR - k) 0).map D.i)/\∀b,(Value.slice A2 bR c2).ownBlock=some b->(b<cD.heap.size\/cg.heap.size<=b)) (λ_ wr=>L - yQ U.heap.size wr)
     case atStart=>exact⟨k,A,c,ad,dY,NC,bW.2.1,by rw[Nat.sub_self,List.replicate_zero,Nt];exact bT.2.2.2,λb O=>.inl (HA.1.lt O).2⟩
     case round=>
      obtain⟨bR,A2,c2,cJ,bP,aF,aT,hG,aB⟩:=hrel;have c9:=bB.1.size;have V:Ext U wr:=Fr.low (M:=λb=>b=U.heap.size\/(Y.heap.size<=b/\b<cD.heap.size)) (Fr.trans (Fr.mono bW.2.2.2.2.2 λ_ h=>h.elim) aF) λb O=>by rcases O with O|O<;>omega
      have J:=cz.1.trans V;have bN:=dH aF aT hG aB J V;have cY:=aF.size;obtain⟨a0,ak,af⟩:=(al.2.1.aj J).two;obtain⟨d0,aQ,aS⟩:=(al.2.2.2.1.aj J).two;obtain⟨e0,a6,ag⟩:=aT.two;have bv:=(J.cell ck.2.1 λh=>h).trans ck.2.2;have bo:pb<wr:=M0 ck.2.1 J.size;clear aF aT hG aB J V;by_cases cn:bR<L
      .go_upto_region 17 with(fail);refine eJ (λ_=>False) [(0,3),(1,0),(2,3),(3,3),(4,0),(5,3),(6,0),(7,3),(8,3),(9,0),(10,3)] ?_;refine pf ?_;refine ph ?_
       iterate 2 refine pf ?_
       refine ph ?_;refine pf ?_;refine ph ?_
       iterate 2 refine pf ?_
       refine ph ?_;refine pf ?_;refine aG ?_;generalize bO:World.drew wr=aW;have a7:Ext wr aW:=bO▸(Fr.refl _ wr).drew;clear bO a0 ak af d0 aQ aS bv bo e0 a6 ag;have a8:=ae a7;have bG:=bN.2.1.aj a7;have cb:=ae bG;have aq:=ae (bN.2.2.1.aj a7);have cI:=a7.size;obtain⟨e0,a6,ag⟩:=bG.two;clear a7 bG;have dj:(bR:Int)<(L:Int):=ad;have q7:decide ((bR:Int)<(L:Int))=true:=decide_eq_true dj;go_wp2_with(at_builtin;refine bJ cF rfl (.tmp 99) (.tmp 100) rfl aq.o (d:=D.i 0) (cs:=#[.int .i64 0]) (by simp only[D.rep]) rfl rfl rfl ad ad ad ?_;intro cu bi b6 cd g2 cA c6;have b0:=cb.on g2 (λhm=>by have:=(aq.lt hm).1;omega);clear e0 a6 ag;obtain⟨e0,a6,ag⟩:=b0.two;have b7:=br cd g2 b0 cA;clear cd g2 cA c6 b0);generalize hX:World.setCell _ _ _=X;have bE:an X U 77 #[.int .i64 x.target,(0:Int),.slice cu (bR+1) bi,.slice B m aD]:=hX▸b7.2.2.1.aK 2 _;have a2:Fr (λb=>b=U.heap.size) b6 X:=hX▸(Fr.refl (λb=>b=U.heap.size) _).setCell (.inl rfl) _;have ct:Fr (λb=>b=U.heap.size\/(Y.heap.size<=b/\b<cD.heap.size)) cg X:=Fr.Ft (M:=λb=>(b=U.heap.size\/(Y.heap.size<=b/\b<cD.heap.size))\/(Value.slice A2 bR c2).ownBlock=some b) (Fr.trans (Fr.trans (Fr.mono (Fr.trans bN.1 (Fr.mono a8.o λ_ h=>h.elim)) λ_ h=>.inl h) (Fr.mono b7.2.1 λ_ h=>.inr h)) (Fr.mono a2 λ_ h=>.inl (.inl h))) λb O hm=>hm.elim id λhm=>.inr ⟨(aq.lt hm).1,by rcases bN.2.2.2.1 b hm with h|h<;>omega⟩;have cN:=b7.1.cD a2 λb O _=>⟨λh=>h,by rw[O];omega⟩
       have cx:∀b,(Value.slice cu (bR+1) bi).ownBlock=some b->(b<cD.heap.size\/cg.heap.size<=b):=λb O=>(b7.2.2.2 b O).elim (λh=>bN.2.2.2.1 b h) λh=>.inr ad;have bm:L - yQ U X<L - yQ U.heap.size wr:=by
        unfold yQ;rw[bE.cell 2,bN.2.1.cell 2];show L - (bR+1)<L - bR
        omega
       have av:=cQ bE ct cN cx bm;clear hX bE a2 ct cN cx bm e0 a6 ag;go_roundw
       case rel=>
        refine⟨bR+1,cu,bi,ad,ad,av.2.1,av.1,?_,av.2.2.2.1⟩;rw[show bR+1 - k=(bR - k)+1 by omega,List.replicate_succ',<-List.append_assoc,Na];exact av.2.2.1
       case measure=>exact av.2.2.2.2
      .have dJ:bR=L:=ad;have q7:decide ((bR:Int)<(L:Int))=false:=decide_eq_false ad;have dc:=ae dJ;clear dJ;go_upto_region 17 with(fail);refine eJ (λ_=>False) [(0,3),(1,0),(2,3),(3,3),(4,0),(5,3),(6,0),(7,3),(8,3),(9,0),(10,3)] ?_;refine pf ?_;refine ph ?_
       iterate 2 refine pf ?_
       refine ph ?_;refine pf ?_;refine ph ?_
       iterate 2 refine pf ?_
       refine ph ?_;refine pf ?_;refine aG ?_;generalize bO:World.drew wr=aW;have a7:Ext wr aW:=bO▸(Fr.refl _ wr).drew;clear bO a0 ak af d0 aQ aS bv bo e0 a6 ag;have cI:=a7.size;have bG:=bN.2.1.aj a7;have bf:Fr (λb=>b=U.heap.size\/(Y.heap.size<=b/\b<cD.heap.size)) cg aW:=Fr.trans bN.1 (Fr.mono a7 λ_ h=>h.elim);have aC:=bN.2.2.2.2.1.trans a7;have T:=al.2.2.2.2.2.2.2.2.aj aC;have b2:=br T (al.1.trans aC) (bN.2.2.1.aj a7) bf;obtain⟨e0,a6,ag⟩:=bG.two;obtain⟨bq,a1,a5⟩:=T.two;clear a7 bG aC T bf;go_wp2_with(fail);generalize hX:World.setCell _ _ _=X;obtain⟨bE,bt,ct⟩:=a9 (w:=w) [.int .i64 x.target,(0:Int),.slice A2 bR c2,.slice B m aD] (by rfl) b2.1 b2.2.1 ad hX;have av:=ah bt ct;clear hX bt ct bq a1 a5 e0 a6 ag;obtain⟨bq,a1,a5⟩:=bE.two;refine NB (v:=.tuple #[.agg #[.int .i64 x.target,(0:Int),.slice A2 bR c2,.slice B m aD],(0:Int)]) (by simp[results,Tryz.results89,go_sem,bq]) rfl ?_;refine⟨_,_,_,_,_,_,_,_,0,rfl,av.1,λh=>absurd ?_ h,λ_ h=>absurd ?_ h,λ_ _=>⟨rfl,?_⟩⟩
       .rw[HA.2]
       .rw[bT.2.2.1]
       .have cO:=al.2.2.2.2.2.2.2.2.lt;have bz:=cz.1.size;have da:=bB.1.size;have df:=a3.1.size;have dg:=bW.1.size;have b8:=b2.2.2.2.size;have c4:=av.2.size;have fg:=b2.2.2.1.cD av.2 λb O _=>⟨λh=>h,by rw[O];omega⟩
        refine gz.2 ⟨A2,bR,c2,B,m,aD,rfl,b2.2.2.1.cap.1,bT.2.1,?_,?_⟩
        .have hlen:(cW s.globals f.ints x.ints).1.length=k:=by rw[HA.2];simp[aP.2.2.2.1]
         show Sl X _ A2 bR (((cW s.globals f.ints x.ints).1++List.replicate (fi u x.target - (cW s.globals f.ints x.ints).1.length) 0).map D.i)
         rw[ck.1,hlen,<-dc.o];exact fg.sl (λb _ h=>h.elim) λb ap O=>⟨ad,ap⟩
        .show Sl X _ B m ((b3 u s f x.places).1.map D.i)
         refine(bT.1.ak (ab:=X) λb O=>?_).mono λb O=>⟨ad,ad⟩
         rw[av.2.block b ad ad,b2.2.2.2.block b O.2 ad]
 ):p:=h
end D3
open D3 in
theorem vz(u:aw)(s:ai)(t:Int)(f:ao)(cq:cR)(x:aA)(N:Nat)(w:World)(p:UV)(q:SV)(v:IV)(h:jJ u s t f cq x N)(cp:x.op=2\/x.op=3)(hu:p.Ok w u)(hs:q.Ok w s)(bK:v.Ok w x) :
  Calls prog 89 #[.agg (p.val u),.agg (q.val s),t,.agg (v.val x)] w (IU w u x (cW s.globals f.ints x.ints) (b3 u s f x.places)):=by
 exact fO
def ik:VE->Bool
 | .ij _=>true
 | .un _ x=>ik x
 | .bin _ x y=>ik x || ik y
 | _=>false
theorem m2:∀x:VE,ik x=false->ia x
 | .num _,_=>trivial
 | .gU _,_=>trivial
 | .loc _,_=>trivial
 | .ij _,h=>by cases h
 | .un _ x,h=>m2 x h
 | .bin _ x y,h=>by
  simp only[ik,Bool.or_eq_false_iff] at h;exact⟨m2 x h.1,m2 y h.2⟩
def zl(ng nl:Nat)(x:VE):Prop:=∀(w:World) (c0 c1 c2 c3:Value),x.ok ng nl->x.at_ w [c0,c1,c2,c3]->Calls prog 8 #[.agg #[c0,c1,c2,c3]] w λe ab=>e=.returned (.bool (ik x))/\Ext w ab
theorem qz(op n:Int)(nm:ByteArray)(A:NH)(c:Nat)(w:World)(b:Bool)(O:(op == 19)=b):Calls prog 8 #[.agg #[op,n,nm,.slice A 0 c]] w λe ab=>e=.returned b/\Ext w ab:=by
 go_enter func8,ntmps8;go_wp2
 go_rounds 1
 go_ret;exact⟨rfl,NC.alloc _⟩
namespace En
theorem BX(h:p:=by
 clear be aF aT e0 e1 e2 e3 O;go_wp2_with(fail);refine(cC.1 W b0 Z a9 H cC.2.1 al.2.2).mono ?_;rintro e aO ⟨rfl,aM⟩;have H1:=ae (al.1.trans aM);clear a0 ak af;obtain⟨a0,ak,af⟩:=(al.2.1.aj aM).two;obtain⟨dP,fg⟩:∃dP,ik x=dP:=⟨_,rfl⟩
 have I:=ae fg;rw[fg];clear fg aM f0 f1 f2 f3;cases dP
 .go_wp2_with(fail);rw[rounds_succ];go_wp2_with(fail);go_ret;exact⟨ret_bool I.symm,H1.o⟩
 .go_wp2_with(fail);go_ret;exact⟨ret_bool I.symm,H1.o⟩
 ):p:=h
theorem te(h:p:=by
 have cp:=hm.1;have cd:(op == 19)=false:=by simp;omega
 have cC:=ay u hm.2 hx;clear cp hm hx u;go_enter func8,ntmps8;go_wp2;refine wp_loop_rounds 2 ?_;rw[rounds_succ];generalize be:World.alloc _ _=W;have aF:=aX be;have aT:=aL be;exact BW
 ):p:=h
end En
open En in
theorem Jn(op:Int)(x:VE)(u:zl ng nl x):zl ng nl (.un op x):=by
 intro w c0 c1 c2 c3 hm h;obtain⟨n,nm,b,o,c,b0,Z,a9,H,T,O,hx,e0,e1,e2,e3⟩:=h;exact td
namespace Eo
theorem BX(h:p:=by
 clear be aF aT e0 e1 e2 e3 b3 co bx e7;go_wp2_with(fail);refine(cC.1 W b0 Z a9 H cC.2.1 al.2.2).mono ?_;rintro e aO ⟨rfl,aM⟩;have a7:=al.1.trans aM;have H1:=ah a7 (VE.ED E.2.2 (Fr.ext a7));clear a0 ak af f0 f1 f2 f3 f;obtain⟨a0,ak,af⟩:=(al.2.1.aj aM).two;have bL:=ae (al.2.1.aj aM);have f0:=(a7.cell (j:=o+4) O (λh=>h)).trans bk.1;have f1:=(a7.cell (j:=o+5) O (λh=>h)).trans bk.2.1;have f2:=(a7.cell (j:=o+6) O (λh=>h)).trans bk.2.2.1;have f3:=(a7.cell (j:=o+7) O (λh=>h)).trans bk.2.2.2;have f:b<aO:=M0 O a7.size;obtain⟨dP,fg⟩:∃dP,ik x=dP:=⟨_,rfl⟩
 obtain⟨a3,bM⟩:∃a3,ik y=a3:=⟨_,rfl⟩
 have I:=ah fg bM;rw[fg];clear fg bM aM a7 O;cases dP
 .go_wp2_with(fail);rw[rounds_succ];go_wp2_with(fail);refine(E.1 aO ci cr cf bv E.2.1 H1.2).mono ?_;rintro e aW ⟨rfl,bf⟩;rw[I.2];have b1:=ae (H1.1.trans bf);clear a0 ak af f0 f1 f2 f3;obtain⟨a0,ak,af⟩:=(bL.aj bf).two;clear bf;cases a3
  .go_wp2_with(fail);rw[rounds_succ];go_wp2_with(fail);go_ret;exact⟨ret_bool (by show false=(ik x || ik y);rw[I.1,I.2];rfl),b1.o⟩
  .go_wp2_with(fail);go_ret;exact⟨ret_bool (by show true=(ik x || ik y);rw[I.1,I.2];rfl),b1.o⟩
 .go_wp2_with(fail);go_ret;exact⟨ret_bool (by show true=(ik x || ik y);rw[I.1];rfl),H1.1⟩
 ):p:=h
theorem te(h:p:=by
 have cp:=hm.1;have cd:(op == 19)=false:=by simp;omega
 have cC:=ay u hm.2.1 hx;have E:=ay k hm.2.2 bb;clear cp hm hx u bb k;go_enter func8,ntmps8;go_wp2;refine wp_loop_rounds 3 ?_;rw[rounds_succ];generalize be:World.alloc _ _=W;have aF:=aX be;have aT:=aL be;have bk:=br b3 co bx e7;exact BW
 ):p:=h
end Eo
open Eo in
theorem G3(op:Int)(x y:VE)(u:zl ng nl x)(k:zl ng nl y):zl ng nl (.bin op x y):=by
 intro w c0 c1 c2 c3 hm h;obtain⟨n,nm,b,o,c,b0,Z,a9,H,ci,cr,cf,bv,T,O,hx,bb,e0,e1,e2,e3,b3,co,bx,e7⟩:=h;exact td
theorem ki{ng nl:Nat}:∀x:VE,zl ng nl x
 | .num n=>λw c0 c1 c2 c3 _ h=>by
  obtain⟨nm,A,c,T⟩:=h;cases T
  exact qz 1 n nm A c w false rfl
 | .gU s=>λw c0 c1 c2 c3 h _=>h.elim
 | .loc n=>λw c0 c1 c2 c3 _ h=>by
  obtain⟨nm,A,c,T⟩:=h;cases T
  exact qz 18 n nm A c w false rfl
 | .ij n=>λw c0 c1 c2 c3 _ h=>by
  obtain⟨nm,A,c,T⟩:=h;cases T
  exact qz 19 n nm A c w true rfl
 | .un op x=>Jn op x (ki x)
 | .bin op x y=>G3 op x y (ki x) (ki y)
end Go.Proofs.YtnigabjngpnbiabGreat

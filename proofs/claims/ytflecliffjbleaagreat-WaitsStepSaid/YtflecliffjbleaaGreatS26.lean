/- Part 26 of the proof. No condition of its own. -/
import Derived.Test.YtflecliffjbleaaGreatS25
namespace Go.Proofs.YtflecliffjbleaaGreat
open Go.RowKit Go.Proofs.Tryz
set_option maxRecDepth 1000000
set_option maxHeartbeats 25600000
set_option linter.unusedVariables false
variable{p:Prop}
theorem Fr.EB{M M':Nat->Prop}{a b:World}(h:Fr M a b)(hM:∀k,k<a.heap.size->M k->M' k):Fr M' a b:=⟨h.os,h.tape,h.output,h.size,λk aj hn=>h.block k aj λhm=>hn (hM k aj hm)⟩
def yb(g:Nat)(w:World):Nat:=match w.cell? ⟨g,2,none⟩ with|some (.slice _ n _)=>n|_=>0
def HI(w:World)(u:aw)(x:ay)(a b:List Int×Int)(e:Ending)(ab:World):Prop:=∃(aB aU:Int) (IA:Mk) (i ic:Nat) (bB:Mk) (l lc:Nat) (z:Int),e=.returned (.tuple #[.agg #[.int .i64 aB,.int .i64 aU,.slice IA i ic,.slice bB l lc],.int .i64 z])/\Ext w ab/\
 (a.2≠0->z=a.2)/\(a.2=0->b.2≠0->z=b.2)/\(a.2=0->b.2=0->z=0/\(gJ (dn u x.target a.1 b.1)).rep ab (fresh w ab) [.int .i64 aB,.int .i64 aU,.slice IA i ic,.slice bB l lc])
namespace Dy
theorem sN(h:p:=by
 have Q:=ah bb aa;obtain⟨d0,aK,aO⟩:=(ag.2.2.2.1.aj J).two;obtain⟨a8,am,aJ⟩:=(ag.2.2.1.aj J).two;obtain⟨f0,dQ,eW⟩:=(cz.2.aj V).two;clear bb aa bl Z bq O aF aS hG P J V;go_upto_region 6 with(fail);refine eK (λ_=>False) [(0,3),(1,0),(2,3),(3,3),(4,0),(5,3),(6,0),(7,3),(8,0),(9,2),(10,3),(11,3),(12,3),(13,3),(14,3)] ?_;refine pf ?_;refine ph ?_
 iterate 2 refine pf ?_
 refine ph ?_;refine pf ?_;refine ph ?_;refine pf ?_;refine ph ?_;refine au rfl (λK hK=>?_);go_simp;have bi:Ext wr wr.drew:=(Fr.refl _ wr).drew;obtain⟨cv,cC⟩:=aR.1.FX (aR.2.1 ex (LF Q.1)) ((ag.2.2.2.2.2.1.on a2.2.2.2.2.1).on bi).at_.g ((ag.2.2.2.2.2.2.2.1.on a2.2.2.2.2.1).on bi).ints (D.on Q.2 (Fr.ext bi));refine(nW ex wr.drew bE IA bK i bw ic s.globals f.ints _ _ _ _ cv cC).mono ?_;rintro e aW ⟨rfl,bg⟩;have a7:=ae (show Ext wr aW from Fr.aF (Fr.of bg));have aq:=λaG=>nK (k:=k) a2.2.2.2.1 Q.1 aG;generalize ar:ev s.globals f.ints ex=R at *;obtain⟨r,z⟩:=R;have bH:=ah aq ar;clear aq ar bg bi d0 aK aO a8 am aJ f0 dQ eW c0 c1 c2 c3 a4 cv cC;refine dU hK ?_;clear hK K
 iterate 5 refine pf ?_
 refine aC ?_;have bV:=a2.2.1.aj a7.o;have b9:=ae bV;obtain⟨e0,a6,aQ⟩:=bV.two;have cF:=a7.size;by_cases aG:z=0
 .have q5:(z != 0)=false:=by simpa using aG
  have al:=ae (a2.2.2.1.aj a7.o);have bh:=ae aG;clear aG bV;go_wp2_with(at_builtin;refine bI cU rfl (.tmp 53) (.tmp 55) rfl al.o (d:=D.i r) (cs:=#[.int .i64 r]) (by simp only[D.rep]) rfl rfl rfl ad ad ad ?_;intro cD bt b4 ce g2 cN cZ;have bU:=b9.on g2 (λhm=>by have:=(al.lt hm).1;omega);clear e0 a6 aQ;obtain⟨e0,a6,aQ⟩:=bU.two;have ca:=aA ce g2 bU;clear ce g2 cN cZ bU);generalize hX:World.setCell _ _ _=X;have bC:ao X U.heap.size 99 #[.int .i64 x.target,.int .i64 0,.slice cD (k+1) bt,.slice none 0 0]:=hX▸ca.2.2.aJ 2 _;have a5:Fr (λb=>b=U.heap.size) b4 X:=hX▸(Fr.refl (λb=>b=U.heap.size) _).setCell (.inl rfl) _;have ct:Fr (λb=>b=U.heap.size) Y X:=Fr.EB (M:=λb=>b=U.heap.size\/(Value.slice A k c).ownBlock=some b) (Fr.trans (Fr.trans (Fr.mono (Fr.trans a2.1 (Fr.mono a7.o λ_ h=>h.elim)) λ_ h=>.inl h) (Fr.mono ca.2.1 λ_ h=>.inr h)) (Fr.mono a5 λ_ h=>.inl h)) λb O hm=>hm.elim id λhm=>absurd (al.lt hm).1 ad;have bW:=ca.1.cS a5 λb O _=>⟨λh=>h,by rw[O];omega⟩
  have av:=aA bC ct bW;clear hX bC a5 ct bW e0 a6 aQ;go_roundw
  case rel=>
   refine⟨k+1,cD,bt,by go_num,ad,av.2.1,av.1,?_,λe he=>?_⟩
   .rw[aU Q.1,LJ,LJ];have ac:=av.2.2;exact xQ
   .rw[aU Q.1] at he;rcases LL.1 he with he|he
    .exact a2.2.2.2.1 e he
    .rw[Ma.1 he,bH.2];exact bh.o
  case measure=>exact aE
 .have q5:(z != 0)=true:=by simpa using aG
  have bT:=ae (bH.1 aG);have bh:=ae aG;have aH:=a2.2.2.2.2.1.trans a7.o;have bf:=ag.2.2.2.2.2.2.2.2.aj aH;have cf:=ah bf (ag.1.trans aH);obtain⟨bp,aM,aV⟩:=bf.two;clear aG bV aH bf;go_wp2_with(fail);generalize hX:World.setCell _ _ _=X;obtain⟨bC,bz,ct⟩:=bs (w:=w) [.int .i64 x.target,.int .i64 0,.slice A k c,.slice none 0 0] (by rfl) cf.1 cf.2 ad hX;have av:=ae bz;clear hX bz ct bp aM aV e0 a6 aQ;obtain⟨bp,aM,aV⟩:=bC.two;refine Mf (v:=.tuple #[.agg #[.int .i64 x.target,.int .i64 0,.slice A k c,.slice none 0 0],.int .i64 z]) (by simp[results,Tryz.results45,go_sem,bp]) rfl ?_;refine⟨_,_,_,_,_,_,_,_,z,rfl,av.o,λ_=>by rw[bT.o],λh=>absurd h ?_,λh=>absurd h ?_⟩
  .rw[bT.o];exact bh.o
  .rw[bT.o];exact bh.o
 ):p:=h
theorem eZ(h:p:=by
 obtain⟨eo,en,es,EA,em,ec,QA,qm,qc,dk,j,df,KA,dg,kc⟩:=v;obtain⟨bo,bn,ch,dc,n,fc,IA,i,ic,bB,l,lc,e,hT⟩:=hs.at_.top h.sm h.ht;simp only at e;subst e;obtain⟨cB,cG,cb,cO⟩:=h.args co;have a1:x.ints.length=j:=by have:=bG.ints.1;simpa using this
 have bN:x.places.length=dg:=by have:=bG.places.1;simpa using this
 have cL:j<=200:=by have:=h.il;omega
 have cW:dg<=200:=by have:=h.kl;omega
 have aR:=dI h cB cG a1 bN cO;have cc:=bA hu hs bG hT;clear h cB cG a1 bN cO hu hs bG hT;dsimp only[UV.val,SV.val,IV.val];go_enter func45,ntmps45;go_upto_region 1 with(fail);generalize bd:World.alloc _ _=W;have aF:=I9 bd;have bQ:=GP bd;have be:=GQ bd;have a9:=GR bd;have bf:=GS bd;have ag:=xH aF bQ be a9 (cc.1.on aF) (cc.2.1.on aF) (cc.2.2.1.on aF) (cc.2.2.2.on aF) bf;obtain⟨a8,am,aJ⟩:=be.two;clear bd aF bQ be a9 cc bf;go_wp2_with(fail);refine(nX ag.2.2.2.2.2.2.2.1 _ _ _).mono ?_;rintro e aP ⟨rfl,aL⟩;have bu:=ae aL;clear a8 am aJ;go_upto_region 2 with(fail);generalize hU:World.alloc _ _=U;have cl:=aZ hU;have b5:=aN hU;have ck:=aL.trans cl;obtain⟨d0,aK,aO⟩:=(ag.2.2.2.1.aj ck).two;have cS:=b5.lt;have cz:=ah ck b5;clear hU cl b5 ck aL;go_upto_region 3 with(fail);clear d0 aK aO;generalize cq:World.alloc _ _=Y;have bx:=aZ cq;have cd:=aN cq;have c4:=cd.lt;have bF:=ah bx cd;clear cq bx cd;go_wp2_with(fail);go_loopw [13] (λcw wr=>∃(k:Nat) (A:Mk) (c:Nat),cw=.int .i64 k/\k<=j/\Fr (λb=>b=U.heap.size) Y wr/\ao wr U.heap.size 99 #[.int .i64 x.target,.int .i64 0,.slice A k c,.slice none 0 0]/\Gr (λ_=>False) Y.heap.size 3 1 wr A k c (((x.ints.take k).map λe=>(ev s.globals f.ints e).1).map D.i)/\wE s.globals f.ints x.ints k) (λcw _=>j - (intOf cw).toNat)
 case atStart=>exact⟨0,none,0,rfl,ad,Mg,bF.2,Gr.nil _ _ _ _ _,λe he=>by simp at he⟩
 case round=>
  obtain⟨k,A,c,rfl,aj,aF,aS,hG,P⟩:=hrel;have V:Ext U wr:=Fr.low (M:=λb=>b=U.heap.size) (Fr.trans (Fr.mono bF.1 λ_ h=>h.elim) aF) λb O=>by rw[O];exact Lz _
  have J:=cz.1.trans V;have a2:=dI aF aS hG P J V;have dL:=aF.size;by_cases ap:k<j
  .obtain⟨b,o,ex,cs,rfl,O,bb,aa,bq,Z⟩:=(ag.2.2.2.2.2.2.1.ints.on (Fr.ext J)).g9 db ap;exact sM
  .obtain rfl:k=j:=ad;have y:cP s.globals f.ints x.ints=(x.ints.map λe=>(ev s.globals f.ints e).1,0):=nL λe he=>P e (by rw[LK (aB aR.2.2.2.1)];exact he);have cr:Gr (λ_=>False) Y.heap.size 3 1 wr A k c ((cP s.globals f.ints x.ints).1.map D.i):=by
    have aY:=hG;rw[LK (aB aR.2.2.2.1)] at aY;rw[y];exact aY
   obtain⟨T,rfl⟩:∃T,T=wr:=⟨wr,rfl⟩
   have HA:=ah cr y;obtain⟨d0,aK,aO⟩:=(ag.2.2.2.1.aj J).two;clear aF aS hG P J V y cr;go_wp2_with(fail);clear d0 aK aO;go_loopw [16] (λcw wr=>∃(m:Nat) (B:Mk) (aD:Nat),cw=.int .i64 m/\m<=dg/\Fr (λb=>b=U.heap.size) T wr/\ao wr U.heap.size 99 #[.int .i64 x.target,.int .i64 0,.slice A k c,.slice B m aD]/\Gr (λ_=>False) T.heap.size 3 1 wr B m aD (((x.places.take m).map λp=>(bj u s f p).1).map D.i)/\∀p∈x.places.take m,(bj u s f p).2=0) (λcw _=>dg - (intOf cw).toNat)
   case atStart=>exact⟨0,none,0,rfl,ad,Mg,a2.2.1,Gr.nil _ _ _ _ _,λe he=>by simp at he⟩
   case round=>
    obtain⟨m,B,aD,rfl,hm,aF,aS,hG,P⟩:=hrel;have V:Ext U wr:=Fr.low (M:=λb=>b=U.heap.size) (Fr.trans (Fr.mono a2.2.2.2.2.2 λ_ h=>h.elim) aF) λb O=>by rw[O];exact Lz _
    have J:=cz.1.trans V;have bS:=dI aF aS hG P J V;have dx:=aF.size;by_cases b3:m<dg
    .obtain⟨b,o,pl,bX,b6,zc,rfl,O,bb,b1,cn,cm,bM,cT⟩:=(ag.2.2.2.2.2.2.1.places.on (Fr.ext J)).pv b3;have a4:b<wr.heap.size:=O;have Q:=aA bb bM cT;obtain⟨a0,ak,af⟩:=(ag.2.1.aj J).two;obtain⟨a8,am,aJ⟩:=(ag.2.2.1.aj J).two;obtain⟨d0,aK,aO⟩:=(ag.2.2.2.1.aj J).two;clear bb bM cT O aF aS hG P J V;go_upto_region 13 with(fail);refine eK (λ_=>False) [(0,0),(1,0),(2,3),(3,3),(4,0),(5,3),(6,3),(7,0),(8,2),(9,3),(10,3),(11,3),(12,3),(13,3)] ?_
     iterate 2 refine ph ?_
     iterate 2 refine pf ?_
     refine ph ?_
     iterate 2 refine pf ?_
     refine ph ?_;refine au rfl (λK hK=>?_);go_simp;have bi:Ext wr wr.drew:=(Fr.refl _ wr).drew;have cE:=bS.2.2.2.2.1.trans bi;refine(my u s t f pl N wr.drew ⟨GA,gn,gc,MA,mn,mc,PA,pn,pc⟩ ⟨bE,bK,bw,TA,tn,tc,some ⟨bo,bn,none⟩,hn,hc⟩ bX b6 zc ⟨aR.1.hU.ok,aR.1.hS,aR.1.sm,aR.1.ht,⟨cp,aR.1.hp,aR.2.2.1 pl (LF Q.1)⟩,ag.2.2.2.2.1.on cE,ag.2.2.2.2.2.1.on cE,dZ.2 ⟨bX,b6,zc,rfl,Q.2.1,Q.2.2.on (Fr.ext bi)⟩⟩).mono ?_;rintro e aW ⟨rfl,bg⟩;rw[gS aR.1.ht];have a7:=ae (show Ext wr aW from Fr.aF (Fr.of bg));have aq:=λaG=>mm (k:=m) bS.2.2.2.1 Q.1 aG;generalize ar:bj u s f pl=R at *;obtain⟨r,z⟩:=R;have bH:=ah aq ar;clear aq ar bg bi cE a0 ak af a8 am aJ d0 aK aO b1 cn cm a4;refine dU hK ?_;clear hK K
     iterate 5 refine pf ?_
     refine aC ?_;have bV:=bS.2.1.aj a7.o;have b9:=ae bV;obtain⟨e0,a6,aQ⟩:=bV.two;have cF:=a7.size;by_cases aG:z=0
     .have q5:(z != 0)=false:=by simpa using aG
      have al:=ae (bS.2.2.1.aj a7.o);have bh:=ae aG;clear aG bV;go_wp2_with(at_builtin;refine bI cU rfl (.tmp 82) (.tmp 84) rfl al.o (d:=D.i r) (cs:=#[.int .i64 r]) (by simp only[D.rep]) rfl rfl rfl ad ad ad ?_;intro cD bt b4 ce g2 cN cZ;have bU:=b9.on g2 (λhm=>by have:=(al.lt hm).1;omega);clear e0 a6 aQ;obtain⟨e0,a6,aQ⟩:=bU.two;have ca:=aA ce g2 bU;clear ce g2 cN cZ bU);generalize hX:World.setCell _ _ _=X;have bC:ao X U.heap.size 99 #[.int .i64 x.target,.int .i64 0,.slice A k c,.slice cD (m+1) bt]:=hX▸ca.2.2.aJ 3 _;have a5:Fr (λb=>b=U.heap.size) b4 X:=hX▸(Fr.refl (λb=>b=U.heap.size) _).setCell (.inl rfl) _;have ct:Fr (λb=>b=U.heap.size) T X:=Fr.EB (M:=λb=>b=U.heap.size\/(Value.slice B m aD).ownBlock=some b) (Fr.trans (Fr.trans (Fr.mono (Fr.trans bS.1 (Fr.mono a7.o λ_ h=>h.elim)) λ_ h=>.inl h) (Fr.mono ca.2.1 λ_ h=>.inr h)) (Fr.mono a5 λ_ h=>.inl h)) λb O hm=>hm.elim id λhm=>absurd (al.lt hm).1 ad;have bW:=ca.1.cS a5 λb O _=>⟨λh=>h,by rw[O];omega⟩
      have av:=aA bC ct bW;clear hX bC a5 ct bW e0 a6 aQ;go_roundw
      case rel=>
       refine⟨m+1,cD,bt,by go_num,ad,av.2.1,av.1,?_,λe he=>?_⟩
       .rw[aU Q.1,LJ,LJ];have ac:=av.2.2;exact xQ
       .rw[aU Q.1] at he;rcases LL.1 he with he|he
        .exact bS.2.2.2.1 e he
        .rw[Ma.1 he,bH.2];exact bh.o
      case measure=>exact aE
     .have q5:(z != 0)=true:=by simpa using aG
      have bT:=ae (bH.1 aG);have bh:=ae aG;have aH:=bS.2.2.2.2.1.trans a7.o;have bf:=ag.2.2.2.2.2.2.2.2.aj aH;have cf:=ah bf (ag.1.trans aH);obtain⟨bp,aM,aV⟩:=bf.two;clear aG bV aH bf;go_wp2_with(fail);generalize hX:World.setCell _ _ _=X;obtain⟨bC,bz,ct⟩:=bs (w:=w) [.int .i64 x.target,.int .i64 0,.slice A k c,.slice B m aD] (by rfl) cf.1 cf.2 ad hX;have av:=ae bz;clear hX bz ct bp aM aV e0 a6 aQ;obtain⟨bp,aM,aV⟩:=bC.two;refine Mf (v:=.tuple #[.agg #[.int .i64 x.target,.int .i64 0,.slice A k c,.slice B m aD],.int .i64 z]) (by simp[results,Tryz.results45,go_sem,bp]) rfl ?_;refine⟨_,_,_,_,_,_,_,_,z,rfl,av.o,λh=>absurd ?_ h,λ_ _=>by rw[bT.o],λ_ h=>absurd h ?_⟩
      .rw[HA.2]
      .rw[bT.o];exact bh.o
    .obtain rfl:m=dg:=ad;have ba:bZ u s f x.places=(x.places.map λp=>(bj u s f p).1,0):=mo λe he=>P e (by rw[LK (aB aR.2.2.2.2.1)];exact he);have b0:Sl wr (λb=>T.heap.size<=b/\b<wr.heap.size) B m ((bZ u s f x.places).1.map D.i):=by
      have aY:=hG;rw[LK (aB aR.2.2.2.2.1)] at aY;rw[ba];exact aY.sl (λb _ h=>h.elim) λb ap O=>⟨O,ap⟩
     have bD:=hG.cap.1;have cr:=HA.1.cS aF λb O _=>⟨λh=>h,by rw[O];omega⟩
     obtain⟨cg,rfl⟩:∃cg,cg=wr:=⟨wr,rfl⟩
     have b2:=bA b0 bD ba cr;obtain⟨ey,c7,dN,f2,b8⟩:=aR.2.2.2.2.2;have b7:=(List.getElem?_eq_some_iff.1 c7).1;have bk:=ag.2.2.2.2.1.at_.p.1;rw[LG] at bk;simp only at bk;obtain⟨pb,gW,cQ,S,cx,br,e,dT,ci,b1,cn,cm,bv,cJ,_,_⟩:=ag.2.2.2.2.1.at_.proc (k:=x.target.toNat) (by show x.target.toNat<pn;omega);simp only at e;subst e;rw[c7] at ci;injection ci with ci;subst ci;have cy:=b8.ints;obtain⟨L,aI⟩:=LH (a:=ey.locals) ad;rw[aI] at bv;have dU:k<=L:=by have:=aR.2.2.2.1;omega
     have cH:L<=200:=ad;have cK:x.target<(pn:Int):=ad;have bL:fa u x.target=L:=by unfold fa;rw[c7];simp[aI]
     have cj:=aA bL dT bv;obtain⟨d0,aK,aO⟩:=(ag.2.2.2.1.aj J).two;clear aF aS hG P J V ba b0 cr c7 dN f2 b8 b7 bk dT b1 cn cm bv cJ cy aI bL;go_wp2_with(fail);clear d0 aK aO;go_loopw [97] (λ_ wr=>∃(bR:Nat) (A2:Mk) (c2:Nat),k<=bR/\bR<=L/\Fr (λb=>b=U.heap.size\/(Y.heap.size<=b/\b<T.heap.size)) cg wr/\ao wr U.heap.size 99 #[.int .i64 x.target,.int .i64 0,.slice A2 bR c2,.slice B m aD]/\Gr (λ_=>False) Y.heap.size 3 1 wr A2 bR c2 (((cP s.globals f.ints x.ints).1++List.replicate (bR - k) 0).map D.i)/\∀b,(Value.slice A2 bR c2).ownBlock=some b->(b<T.heap.size\/cg.heap.size<=b)) (λ_ wr=>L - yb U.heap.size wr)
     case atStart=>exact⟨k,A,c,ad,dU,Mg,bS.2.1,by rw[Nat.sub_self,List.replicate_zero,L6];exact b2.2.2.2,λb O=>.inl (HA.1.lt O).2⟩
     case round=>
      obtain⟨bR,A2,c2,cu,bN,aF,aS,hG,az⟩:=hrel;have dh:=bF.1.size;have V:Ext U wr:=Fr.low (M:=λb=>b=U.heap.size\/(Y.heap.size<=b/\b<T.heap.size)) (Fr.trans (Fr.mono bS.2.2.2.2.2 λ_ h=>h.elim) aF) λb O=>by rcases O with O|O<;>omega
      have J:=cz.1.trans V;have bY:=dI aF aS hG az J V;have cT:=aF.size;obtain⟨a0,ak,af⟩:=(ag.2.1.aj J).two;obtain⟨d0,aK,aO⟩:=(ag.2.2.2.1.aj J).two;obtain⟨e0,a6,aQ⟩:=aS.two;have bv:=(J.cell cj.2.1 λh=>h).trans cj.2.2;have bk:pb<wr.heap.size:=LC cj.2.1 J.size;clear aF aS hG az J V;by_cases bm:bR<L
      .go_upto_region 17 with(fail);refine eK (λ_=>False) [(0,3),(1,0),(2,3),(3,3),(4,0),(5,3),(6,0),(7,3),(8,3),(9,0),(10,3)] ?_;refine pf ?_;refine ph ?_
       iterate 2 refine pf ?_
       refine ph ?_;refine pf ?_;refine ph ?_
       iterate 2 refine pf ?_
       refine ph ?_;refine pf ?_;refine aC ?_;generalize bP:World.drew wr=aW;have aT:Ext wr aW:=bP▸(Fr.refl _ wr).drew;clear bP a0 ak af d0 aK aO bv bk e0 a6 aQ;have a7:=ae aT;have bV:=bY.2.1.aj aT;have b9:=ae bV;have al:=ae (bY.2.2.1.aj aT);have cF:=aT.size;obtain⟨e0,a6,aQ⟩:=bV.two;clear aT bV;have dp:(bR:Int)<(L:Int):=ad;have q7:decide ((bR:Int)<(L:Int))=true:=decide_eq_true dp;go_wp2_with(at_builtin;refine bI cU rfl (.tmp 99) (.tmp 100) rfl al.o (d:=D.i 0) (cs:=#[.int .i64 0]) (by simp only[D.rep]) rfl rfl rfl ad ad ad ?_;intro cD bt b4 ce g2 cN cZ;have bU:=b9.on g2 (λhm=>by have:=(al.lt hm).1;omega);clear e0 a6 aQ;obtain⟨e0,a6,aQ⟩:=bU.two;have ca:=bA ce g2 bU cN;clear ce g2 cN cZ bU);generalize hX:World.setCell _ _ _=X;have bC:ao X U.heap.size 99 #[.int .i64 x.target,.int .i64 0,.slice cD (bR+1) bt,.slice B m aD]:=hX▸ca.2.2.1.aJ 2 _;have a5:Fr (λb=>b=U.heap.size) b4 X:=hX▸(Fr.refl (λb=>b=U.heap.size) _).setCell (.inl rfl) _;have ct:Fr (λb=>b=U.heap.size\/(Y.heap.size<=b/\b<T.heap.size)) cg X:=Fr.EB (M:=λb=>(b=U.heap.size\/(Y.heap.size<=b/\b<T.heap.size))\/(Value.slice A2 bR c2).ownBlock=some b) (Fr.trans (Fr.trans (Fr.mono (Fr.trans bY.1 (Fr.mono a7.o λ_ h=>h.elim)) λ_ h=>.inl h) (Fr.mono ca.2.1 λ_ h=>.inr h)) (Fr.mono a5 λ_ h=>.inl (.inl h))) λb O hm=>hm.elim id λhm=>.inr ⟨(al.lt hm).1,by rcases bY.2.2.2.1 b hm with h|h<;>omega⟩;have bW:=ca.1.cS a5 λb O _=>⟨λh=>h,by rw[O];omega⟩
       have cA:∀b,(Value.slice cD (bR+1) bt).ownBlock=some b->(b<T.heap.size\/cg.heap.size<=b):=λb O=>(ca.2.2.2 b O).elim (λh=>bY.2.2.2.1 b h) λh=>.inr ad;have bJ:L - yb U.heap.size X<L - yb U.heap.size wr:=by
        unfold yb;rw[bC.cell 2,bY.2.1.cell 2];show L - (bR+1)<L - bR
        omega
       have av:=cX bC ct bW cA bJ;clear hX bC a5 ct bW cA bJ e0 a6 aQ;go_roundw
       case rel=>
        refine⟨bR+1,cD,bt,ad,ad,av.2.1,av.1,?_,av.2.2.2.1⟩;rw[show bR+1 - k=(bR - k)+1 by omega,List.replicate_succ',<-List.append_assoc,LJ];exact av.2.2.1
       case measure=>exact av.2.2.2.2
      .have dA:bR=L:=ad;have q7:decide ((bR:Int)<(L:Int))=false:=decide_eq_false ad;have cR:=ae dA;clear dA;go_upto_region 17 with(fail);refine eK (λ_=>False) [(0,3),(1,0),(2,3),(3,3),(4,0),(5,3),(6,0),(7,3),(8,3),(9,0),(10,3)] ?_;refine pf ?_;refine ph ?_
       iterate 2 refine pf ?_
       refine ph ?_;refine pf ?_;refine ph ?_
       iterate 2 refine pf ?_
       refine ph ?_;refine pf ?_;refine aC ?_;generalize bP:World.drew wr=aW;have aT:Ext wr aW:=bP▸(Fr.refl _ wr).drew;clear bP a0 ak af d0 aK aO bv bk e0 a6 aQ;have cF:=aT.size;have bV:=bY.2.1.aj aT;have a3:Fr (λb=>b=U.heap.size\/(Y.heap.size<=b/\b<T.heap.size)) cg aW:=Fr.trans bY.1 (Fr.mono aT λ_ h=>h.elim);have aH:=bY.2.2.2.2.1.trans aT;have bf:=ag.2.2.2.2.2.2.2.2.aj aH;have cf:=bA bf (ag.1.trans aH) (bY.2.2.1.aj aT) a3;obtain⟨e0,a6,aQ⟩:=bV.two;obtain⟨bp,aM,aV⟩:=bf.two;clear aT bV aH bf a3;go_wp2_with(fail);generalize hX:World.setCell _ _ _=X;obtain⟨bC,bz,ct⟩:=bs (w:=w) [.int .i64 x.target,.int .i64 0,.slice A2 bR c2,.slice B m aD] (by rfl) cf.1 cf.2.1 ad hX;have av:=ah bz ct;clear hX bz ct bp aM aV e0 a6 aQ;obtain⟨bp,aM,aV⟩:=bC.two;refine Mf (v:=.tuple #[.agg #[.int .i64 x.target,.int .i64 0,.slice A2 bR c2,.slice B m aD],.int .i64 0]) (by simp[results,Tryz.results45,go_sem,bp]) rfl ?_;refine⟨_,_,_,_,_,_,_,_,0,rfl,av.1,λh=>absurd ?_ h,λ_ h=>absurd ?_ h,λ_ _=>⟨rfl,?_⟩⟩
       .rw[HA.2]
       .rw[b2.2.2.1]
       .have cI:=ag.2.2.2.2.2.2.2.2.lt;have bc:=cz.1.size;have c8:=bF.1.size;have c9:=a2.1.size;have dd:=bS.1.size;have cV:=cf.2.2.2.size;have c5:=av.2.size;have gP:=cf.2.2.1.cS av.2 λb O _=>⟨λh=>h,by rw[O];omega⟩
        refine gu.2 ⟨A2,bR,c2,B,m,aD,rfl,cf.2.2.1.cap.1,b2.2.1,?_,?_⟩
        .have hlen:(cP s.globals f.ints x.ints).1.length=k:=by rw[HA.2];simp[aR.2.2.2.1]
         show Sl X _ A2 bR (((cP s.globals f.ints x.ints).1++List.replicate (fa u x.target - (cP s.globals f.ints x.ints).1.length) 0).map D.i)
         rw[cj.1,hlen,<-cR.o];exact gP.sl (λb _ h=>h.elim) λb ap O=>⟨ad,ap⟩
        .show Sl X _ B m ((bZ u s f x.places).1.map D.i)
         refine(b2.1.ak (ab:=X) λb O=>?_).mono λb O=>⟨ad,ad⟩
         rw[av.2.block b ad ad,cf.2.2.2.block b O.2 ad]
 ):p:=h
end Dy
open Dy in
theorem uR(u:aw)(s:ai)(t:Int)(f:an)(cp:cM)(x:ay)(N:Nat)(w:World)(p:UV)(q:SV)(v:IV)(h:jq u s t f cp x N)(co:x.op=2\/x.op=3)(hu:p.Ok w u)(hs:q.Ok w s)(bG:v.Ok w x) :
  Calls prog 45 #[.agg (p.val u),.agg (q.val s),.int .i64 t,.agg (v.val x)] w (HI w u x (cP s.globals f.ints x.ints) (bZ u s f x.places)):=by
 exact eY
namespace Dz
theorem vN(h:p:=by
 rw[bT.o];exact ft (B:=V.heap.size) bF.1 bh.2 (λb O=>⟨λhl=>by have:=H.o b hl;omega,ad⟩) (λb O=>by have:=H.o b O;omega) ad bh.1 (by rw[uO bS.2.1])
 ):p:=h
theorem dd(h:p:=by
 generalize bj:World.setCell _ _ _=dz;obtain⟨cv,bR⟩:=y.1.push eV.1 (λb hm=>⟨(eV.2 b hm).1,(eV.2 b hm).2.1,(eV.2 b hm).2.2.1,(eV.2 b hm).2.2.2.1⟩) I.1 I.2.1 I.2.2 bj;have cQ:Fr (λb=>b=lb\/b=O) A dz:=by
  rw[<-bj];exact Fr.setCell (Fr.mono I.2.1 λ_ h=>.inl h) (.inl (.inr rfl)) _
 have b0:=(aR.1.lo O (by simp)).1;have G:Ext V dz:=Fr.low (M:=λb=>b=lb\/b=O) (Fr.trans (Fr.mono y.2.1 λ_ h=>h.elim) cQ) λb O=>by rcases O with O|O<;>omega
 have bF:=aA cv bR (bP.trans G);have bg:=G.size;clear bj cv bR cQ G cU cy dv dW;exact vM
 ):p:=h
theorem sH(h:p:=by
 clear cq di ck;rcases cz.o with h|h
 all_goals
  first
   | have q1:(x.op == 1)=true:=by simpa using h
   | have q1:(x.op == 1)=false:=by simp;omega
  first
   | have cO:(x.op == 2)=true:=by simpa using h
   | have cO:(x.op == 2)=false:=by simp;omega
  first
   | have da:(x.op == 3)=true:=by simpa using h
   | have da:(x.op == 3)=false:=by simp;omega
  first
   | have db:(x.op == 4)=true:=by simpa using h
   | have db:(x.op == 4)=false:=by simp;omega
  first
   | have q5:(x.op == 5)=true:=by simpa using h
   | have q5:(x.op == 5)=false:=by simp;omega
  first
   | have dp:(x.op == 6)=true:=by simpa using h
   | have dp:(x.op == 6)=false:=by simp;omega
  first
   | have q7:(x.op == 7)=true:=by simpa using h
   | have q7:(x.op == 7)=false:=by simp;omega
  first
   | have dA:(x.op == 8)=true:=by simpa using h
   | have dA:(x.op == 8)=false:=by simp;omega
  have cC:=ae h;clear h;go_wp2_with(fail);refine(uR u s t f cp x N X ⟨GA,gn,gc,MA,mn,mc,PA,pn,pc⟩ ⟨bE,bK,bw,TA,tn,tc,HA,hn,hc⟩ ⟨eo,en,es,EA,em,ec,QA,qm,qc,dk,j,df,KA,dg,kc⟩ i.o cz.o (ag.2.2.2.2.1.on aR.2.2) (ag.2.2.2.2.2.on aR.2.2) (dw.on aR.2.1)).mono ?_;rintro e cI ⟨aB,aU,FA,dD,br,dB,fl,cD,z,rfl,bL,b9,de,av⟩;have ac:=ae (Kw (u:=u) (s:=s) (t:=t) (f:=f) (x:=x) cz.o);have cd:=ae bL;clear bL;generalize cP s.globals f.ints x.ints=aa at *;generalize bZ u s f x.places=bb at *;obtain⟨dM,aT⟩:=aa;obtain⟨bi,bz⟩:=bb;clear a0 ak af a8 am aJ d0 aK aO e0 a6 aQ c0 c1 c2 c3 J flb ab bq k a7;by_cases aG:aT=0
  case neg=>
   obtain rfl:=b9 aG;have bT:=ae (ac.Jg aG);have Fp:(z == 0)=false:=by simpa using aG
   have JE:(z != 0)=true:=by simpa using aG
   clear aG b9 de av ac;exact GX
  by_cases Q:bz=0
  case neg=>
   obtain rfl:=de aG Q;have bT:=ae (ac.Jh aG Q);have Fp:(z == 0)=false:=by simpa using Q
   have JE:(z != 0)=true:=by simpa using Q
   clear aG Q b9 de av ac;exact GX
  obtain⟨rfl,bX⟩:=av aG Q;generalize bC:dn u x.target dM bi=R at *
 ·
  have bT:=ae (ac.call aG Q cC.o);rw[bC] at bT;have a1:=ae bX;clear aG Q b9 de av ac bC bX;go_upto_region 24 with(fail);generalize bO:World.alloc _ _=A;have l:=aZ bO;have n:=aN bO;have r:=cd.trans l;have y:=aA (RO.aj aR.1 r) (aR.2.1.trans r) (aR.2.2.trans r);have ap:=ah n l;have aS:=l.size;have dE:=cd.size;have Y:=ae y.2.2;clear bO l r;obtain⟨a8,am,aJ⟩:=(ag.2.2.1.aj y.2.2).two;obtain⟨d0,aK,aO⟩:=(ca.aj y.2.1).two;obtain⟨e0,a6,aQ⟩:=y.1.o.two;obtain⟨bq,k,flb,ab,J,c0,c1,c2,c3,a7⟩:=y.1.top;obtain⟨f0,dQ,eW⟩:=n.two;clear n;have ar:(gJ R).rep A (fresh X cI) [.int .i64 aB,.int .i64 aU,.slice FA dD br,.slice dB fl cD]:=D.aP (λb O=>ap.2.block b O.2 λh=>h) _ _ a1.o;have T:=aR.1.lo;have c5:∀b,fresh X cI b->V.heap.size<=b/\b<A.heap.size/\b≠O/\b≠lb/\b≠b4.heap.size:=λb a4=>⟨by have:=a4.1;omega,by have:=a4.2;omega,λhe=>by have:=(T O (by simp)).2;have:=a4.1;omega,λhe=>by have:=(T lb (by simp)).2;have:=a4.1;omega,λhe=>by have:=(T b4.heap.size (by simp)).2;have:=a4.1;omega⟩
  have eV:=ah ar c5;clear ar c5 T;have c6:=cr;obtain⟨bx,bD,bM,-,-⟩:=y.1.sep;have bk:=y.1.l;have dq:=ae bk;have dY:cI.heap.size≠lb:=by have:=(aR.1.lo lb (by simp)).2;omega
  have dG:b4.heap.size≠lb:=bD;have aj:O≠lb:=bM;clear bk;go_upto_region 29 with(fail);refine eK (λb=>b=lb) [(0,3),(1,0),(2,3),(3,3),(4,0),(5,1),(6,1),(7,3),(8,3),(9,2)] ?_;refine pf ?_;refine oG ?_
  iterate 2 refine pf ?_
  refine oG ?_;refine ry ?_;refine qK (λaY=>Ext A aY/\ao aY A.heap.size 99 #[.int .i64 aB,.int .i64 aU,.slice FA dD br,.slice dB fl cD]/\aY.heap.size=A.heap.size+1) ⟨by first|exact((Fr.refl _ A).drew).alloc _|exact((Fr.refl _ A).alloc _).drew,by first|exact Mh|exact ao.new A.drew _ _,by simp⟩ (λci a9=>?_);have ax:=ae a9;clear a9;refine aI rfl (λK hK=>?_);rw[if_pos (by rfl)];refine yD xX (.tmp 161) (.tmp 163) rfl (dq.aj ax.1) ax.2.1 rfl rfl rfl (by simp[Value.oneCell']) ad ad ?_;intro A2 ch cL ce g2 cN;have cQ:Fr (λb=>b=lb) ci cL:=g2.mono λb O=>Ma.1 O;refine dP hK (cQ) ?_;clear hK K;have aW:Fr (λb=>b=lb) A cL:=Fr.trans (ax.1.mono λ_ h=>h.elim) cQ;have I:=aA ce aW (λb O=>(cN b O).imp (λh=>Ma.1 h) (λh=>(⟨by have:=ax.2.2;omega,h.2⟩:A.heap.size<=b/\b<cL.heap.size)));have cU:=(aW.cell (j:=t.toNat) k aj).trans J;have cy:∀j,cL.frozen? ⟨O,j,none⟩=false:=λj=>(aW.frozen k aj).trans (ab j);have dv:=aW.size;clear ce g2 cN cQ aW e0 a6 aQ f0 dQ eW d0 aK aO a8 am aJ c0 c1 c2 c3 J flb ab;exact B2
 ·
  have c7:=ah (ac.many aG Q cC.o) (ac.go aG Q cC.o);rw[bC] at c7;have a1:=ae bX;clear aG Q b9 de av ac bC bX;by_cases aD:32<=hn
  .have cb:decide ((hn:Int)>=32)=true:=by simpa using (by omega:(32:Int)<=(hn:Int))
   have bT:=ae (c7.1 (by rw[<-bS.2.2.2.2];exact aD));clear aD c7;go_upto_region 24 with(fail);generalize bO:World.alloc _ _=A;have l:=aZ bO;have n:=aN bO;have r:=cd.trans l;have y:=aA (RO.aj aR.1 r) (aR.2.1.trans r) (aR.2.2.trans r);have ap:=ah n l;have aS:=l.size;have dE:=cd.size;have Y:=ae y.2.2;clear bO l r;obtain⟨a8,am,aJ⟩:=(ag.2.2.1.aj y.2.2).two;obtain⟨d0,aK,aO⟩:=(ca.aj y.2.1).two;obtain⟨e0,a6,aQ⟩:=y.1.o.two;obtain⟨bq,k,flb,ab,J,c0,c1,c2,c3,a7⟩:=y.1.top;obtain⟨f0,dQ,eW⟩:=n.two;clear n;have dm:=Y.size;go_wp2_with(fail);refine(py P s ⟨bE,bK,bw,TA,tn,tc,HA,hn,hc⟩ 4 A (cc.2.2.Hw H.o (ag.1.trans Y.o)) (λb O=>LC (H.o b O) (ag.1.trans Y.o).size)).mono ?_;rintro e cA ⟨⟨dC,bn,bI,dl,bm,bl,bW,cH,cf⟩,rfl,b8,b7⟩;have f2:=b7.size;have cK:=ae b8;have a2:=ah (ag.2.2.2.1.aj (Y.trans b7)) ((ag.1.trans Y.o).trans b7);clear b8 b7 f0 dQ eW d0 aK aO e0 a6 aQ c0 c1 c2 c3 J flb ab bq k a7 a8 am aJ;obtain⟨bp,aM,aV⟩:=a2.1.two;go_wp2_with(fail);generalize hX:World.setCell _ _ _=Z;obtain⟨bt,ba,bf⟩:=bs (w:=w) [.slice dC bn bI,.slice dl bm bl,.slice bW cH cf,.int .i64 4] (by rfl) a2.1 a2.2 ad hX;have bh:=ah ba bf;clear hX ba bf bp aM aV;obtain⟨bp,aM,aV⟩:=bt.two;refine Mf (v:=.tuple #[.agg #[.slice dC bn bI,.slice dl bm bl,.slice bW cH cf,.int .i64 4],.bool true]) (by simp[results,Tryz.results20,go_sem,bp]) rfl ?_;rw[bT.o];exact ft (B:=A.heap.size) (aq:={s with fault:=4}) cK.o bh.2 (λb O=>⟨λhl=>by have:=H.o b hl;omega,ad⟩) (λb O=>by have:=H.o b O;omega) ad bh.1 rfl
  .have cb:decide ((hn:Int)>=32)=false:=by simp;omega
   have bT:=ae (c7.2 (by rw[<-bS.2.2.2.2];exact aD));have bu:=bS.2.2.2.2;clear aD c7;go_upto_region 24 with(fail);generalize bO:World.alloc _ _=A;have l:=aZ bO;have n:=aN bO;have r:=cd.trans l;have y:=aA (RO.aj aR.1 r) (aR.2.1.trans r) (aR.2.2.trans r);have ap:=ah n l;have aS:=l.size;have dE:=cd.size;have Y:=ae y.2.2;clear bO l r;obtain⟨a8,am,aJ⟩:=(ag.2.2.1.aj y.2.2).two;obtain⟨d0,aK,aO⟩:=(ca.aj y.2.1).two;obtain⟨e0,a6,aQ⟩:=y.1.o.two;obtain⟨bq,k,flb,ab,J,c0,c1,c2,c3,a7⟩:=y.1.top;obtain⟨f0,dQ,eW⟩:=n.two;clear n;have ar:(gJ R).rep A (fresh X cI) [.int .i64 aB,.int .i64 aU,.slice FA dD br,.slice dB fl cD]:=D.aP (λb O=>ap.2.block b O.2 λh=>h) _ _ a1.o;have T:=aR.1.lo;have c5:∀b,fresh X cI b->V.heap.size<=b/\b<A.heap.size/\b≠O/\b≠lb/\b≠b4.heap.size:=λb a4=>⟨by have:=a4.1;omega,by have:=a4.2;omega,λhe=>by have:=(T O (by simp)).2;have:=a4.1;omega,λhe=>by have:=(T lb (by simp)).2;have:=a4.1;omega,λhe=>by have:=(T b4.heap.size (by simp)).2;have:=a4.1;omega⟩
   have eV:=ah ar c5;clear ar c5 T;have az:=y.1.hl;simp only[List.length_set] at az;have b3:bJ<=1000:=ad;clear az bu;obtain⟨bx,bD,bM,-,-⟩:=y.1.sep;have bk:=y.1.h.aj ((Fr.refl _ A).alloc (.cells #[.int .i64 aB,.int .i64 aU,.slice FA dD br,.slice dB fl cD] 99));have al:=y.1.o.aj ((Fr.refl _ A).alloc (.cells #[.int .i64 aB,.int .i64 aU,.slice FA dD br,.slice dB fl cD] 99));have dq:=ah bk al;clear bk al;go_upto_region 45 with(at_builtin;refine nr sR rfl (.tmp 168) (.tmp 172) rfl dq.1 (cs:=#[.slice (some ⟨A.heap.size,0,none⟩) 1 1]) rfl rfl (by simp) rfl (by simp[Value.oneCell']) (by simp only;omega) (by simp only;omega) ?_;intro A2 ch cL ce g2 cN;have cZ:=g2.mono (M':=λb=>b=O) (λb hm=>Ma.1 hm);have cE:=dq.2.on cZ bx;have I:=aA ce cZ cN;clear ce g2 cN cZ e0 a6 aQ f0 dQ eW d0 aK aO a8 am aJ;obtain⟨e0,a6,aQ⟩:=cE.two;clear cE);generalize bj:World.setCell _ _ _=dz;obtain⟨cv,bR⟩:=y.1.start eV.1 (λb hm=>⟨(eV.2 b hm).1,(eV.2 b hm).2.1,(eV.2 b hm).2.2.1,(eV.2 b hm).2.2.2.2⟩) rfl I.1 I.2.1 (λb hm=>(I.2.2 b hm).imp (λh=>Ma.1 h) id) bj;have cQ:Fr (λb=>b=O\/b=b4.heap.size) A dz:=by
    rw[<-bj];exact Fr.setCell (Fr.trans ((Fr.refl _ A).alloc _) (Fr.mono I.2.1 λ_ h=>.inl h)) (.inl (.inr rfl)) _
   have b0:=(aR.1.lo O (by simp)).1;have dt:=(aR.1.lo b4.heap.size (by simp)).1;have G:Ext V dz:=Fr.low (M:=λb=>b=O\/b=b4.heap.size) (Fr.trans (Fr.mono y.2.1 λ_ h=>h.elim) cQ) λb O=>by rcases O with O|O<;>omega
   have bF:=aA cv bR (bP.trans G);have bg:=G.size;clear bj cv bR cQ G e0 a6 aQ c0 c1 c2 c3 J flb ab;have a2:=ah (ag.2.2.2.1.aj bF.2.2) (ag.1.trans bF.2.2);have dh:=bF.2.2.size;obtain⟨bp,aM,aV⟩:=a2.1.two;obtain⟨e0,a6,aQ⟩:=bF.2.1.two;go_wp2_with(fail);generalize hX:World.setCell _ _ _=Z;obtain⟨bt,ba,bf⟩:=bs (w:=w) [.slice bV cx L,.slice bA m S,.slice A2 (bJ+1) ch,.int .i64 s.fault] (by rfl) a2.1 a2.2 ad hX;have bh:=ah ba bf;clear hX ba bf bp aM aV e0 a6 aQ;obtain⟨bp,aM,aV⟩:=bt.two;refine Mf (v:=.tuple #[.agg #[.slice bV cx L,.slice bA m S,.slice A2 (bJ+1) ch,.int .i64 s.fault],.bool true]) (by simp[results,Tryz.results20,go_sem,bp]) rfl ?_;exact DI
 ):p:=h
theorem sJ(h:p:=by
 exact sG
 ):p:=h
theorem sL(h:p:=by
 exact sI
 ):p:=h
end Dz
open Dz in
theorem qS(u:aw)(s:ai)(t:Int)(f:an)(cp:cM)(x:ay)(N:Nat)(P:Nat->Prop)(w:World)(p:UV)(q:SV)(h:jq u s t f cp x N)(hN:N<=100000)(co:x.op=2\/x.op=3)(hu:p.Ok w u)(b2:q.Is w P s)(be:∀b,P b->b<w.heap.size) :
  Calls prog 20 #[.agg (p.val u),.agg (q.val s),.int .i64 t] w (c8 P w (b1 u s t f x).1 (b1 u s t f x).2):=by
 exact sK
namespace DA
theorem BC(h:p:=by
 rw[bT.o];exact Ag
 ):p:=h
theorem AU(h:p:=by
 clear b8 b7 a0 ak af d0 aK aO e0 a6 aQ c0 c1 c2 c3 J flb ab bq k a7 a8 am aJ;exact G4
 ):p:=h
theorem sH(h:p:=by
 clear cq di ck;rcases cz.o with h|h
 all_goals
  first
   | have q1:(x.op == 1)=true:=by simpa using h
   | have q1:(x.op == 1)=false:=by simp;omega
  first
   | have cO:(x.op == 2)=true:=by simpa using h
   | have cO:(x.op == 2)=false:=by simp;omega
  first
   | have da:(x.op == 3)=true:=by simpa using h
   | have da:(x.op == 3)=false:=by simp;omega
  first
   | have db:(x.op == 4)=true:=by simpa using h
   | have db:(x.op == 4)=false:=by simp;omega
  first
   | have q5:(x.op == 5)=true:=by simpa using h
   | have q5:(x.op == 5)=false:=by simp;omega
  first
   | have dp:(x.op == 6)=true:=by simpa using h
   | have dp:(x.op == 6)=false:=by simp;omega
  first
   | have q7:(x.op == 7)=true:=by simpa using h
   | have q7:(x.op == 7)=false:=by simp;omega
  first
   | have dA:(x.op == 8)=true:=by simpa using h
   | have dA:(x.op == 8)=false:=by simp;omega
  have cC:=ae h;clear h;go_wp2_with(fail);refine(my u s t f x.place N X ⟨GA,gn,gc,MA,mn,mc,PA,pn,pc⟩ ⟨bE,bK,bw,TA,tn,tc,HA,hn,hc⟩ QA qm qc ⟨i.hU.ok,i.hS,i.sm,i.ht,⟨cp,i.hp,cj.1⟩,ag.2.2.2.2.1.on aR.2.2,ag.2.2.2.2.2.on aR.2.2,(dw.on aR.2.1).place⟩).mono ?_;rintro e cI ⟨rfl,bu⟩;rw[gS i.ht];have bL:Ext X cI:=Fr.of bu;have bZ:=cj.2.2;have ar:=ae au.o;generalize bj u s f x.place=R at *;obtain⟨l,z⟩:=R;have aY:=ae bZ;have y:=aA (RO.aj aR.1 bL) (aR.2.1.trans bL) (aR.2.2.trans bL);have cd:=ae y.2.2;have dE:=bL.size;clear bZ bu bL a0 ak af a8 am aJ d0 aK aO e0 a6 aQ c0 c1 c2 c3 J flb ab bq k a7;obtain⟨a8,am,aJ⟩:=(ag.2.2.1.aj y.2.2).two;obtain⟨d0,aK,aO⟩:=(ca.aj y.2.1).two;obtain⟨e0,a6,aQ⟩:=y.1.o.two;obtain⟨bq,k,flb,ab,J,c0,c1,c2,c3,a7⟩:=y.1.top;obtain⟨a0,ak,af⟩:=(ag.2.1.aj cd.o).two;by_cases aG:z=0
  case neg=>
   have bT:=ae (ar.bad aG);have cZ:(z != 0)=true:=by simpa using aG
   exact AT
  have cZ:(z != 0)=false:=by simpa using aG
  have aI:=aY.2 aG;have bz:=j0 i.hU.ok;have bi:l<=5000:=by simp only at aI;omega
  have bb:=ae aG;clear aG aI bz
 ·
  have aa:=ae (ar.lf bb.o cC.o);have bM:=ae (ar.ln bb.o cC.o);go_wp2_with(fail);refine(uT MA TA mn mc tn tc u.af s.table l t cI (ag.2.2.2.2.1.on cd.o).at_.m.qx i.hU.ok.zH (ag.2.2.2.2.2.on cd.o).at_.t.holds cj.2.1 ad).mono ?_;intro e cA aj;have ap:(fJ u.af s.table l t).length=tn:=by rw[fp];exact bS.2.2.2.1.symm
  obtain⟨I,aD,rfl,bD,b0,az,aB⟩:=aj.open_ (n:=tn) ap;have b7:Ext cI cA:=Fr.of aB;generalize hT:fJ u.af s.table l t=T at *;have r:Own cA 95 2 I tn aD (T.flatMap cb) (bx I tn aD):=⟨iR az (L3 _),rfl⟩
  have ax:∀b∈bx I tn aD,cI.heap.size<=b/\b<cA.heap.size:=λb O=>az.lt b (by simpa using O);have av:Sl cA (λb=>cI.heap.size<=b/\b<cA.heap.size) I tn (T.map mf):=r.sl (dS _) (by rw[LG];exact ap) ax;have aS:=aA (RO.aj y.1 b7) (y.2.1.trans b7) (y.2.2.trans b7);have Q:=ah av bD;have cD:=b7.size;clear hT ap aj b0 az aB b7 r ax av bD a0 ak af a8 am aJ d0 aK aO e0 a6 aQ c0 c1 c2 c3 J flb ab bq k a7;obtain⟨a8,am,aJ⟩:=(ag.2.2.1.aj aS.2.2).two;obtain⟨d0,aK,aO⟩:=(ca.aj aS.2.1).two;obtain⟨e0,a6,aQ⟩:=aS.1.o.two;obtain⟨bq,k,flb,ab,J,c0,c1,c2,c3,a7⟩:=aS.1.top;go_upto_region 38 with(fail);generalize hX:World.setCell _ _ _=Y;obtain⟨cv,bR⟩:=aS.1.IS Q.1 Q.2 (λb a4=>.inr ⟨by have:=aR.1.lo b4.heap.size (by simp);have:=a4.1;omega,a4.2,by have:=aR.1.lo b4.heap.size (by simp);have:=a4.1;omega⟩) hX;have cQ:=cJ hX;have dt:=(aR.1.lo b4.heap.size (by simp)).1;have G:Ext V Y:=Fr.low (M:=λb=>b=b4.heap.size) (Fr.trans (Fr.mono aS.2.1 λ_ h=>h.elim) cQ) λb O=>ad;have bF:=aA cv bR (bP.trans G);have bC:=ae bF.2.2;have bg:=G.size;clear hX cv bR cQ G a8 am aJ d0 aK aO e0 a6 aQ c0 c1 c2 c3 J flb ab bq k a7
  cases b3:free u.af s.table l t with
  | true=>
   exact G0
  | false=>
   have bT:=ae (bM.o b3);obtain⟨a8,am,aJ⟩:=(ag.2.2.1.aj bC.o).two;have a2:=ah (ag.2.2.2.1.aj bC.o) (ag.1.trans bC.o);obtain⟨bp,aM,aV⟩:=a2.1.two;go_wp2_with(fail);generalize hX:World.setCell _ _ _=Z;obtain⟨bt,ba,bf⟩:=bs (w:=w) [.slice bE bK bw,.slice TA tn tc,.slice HA hn hc,.int .i64 s.fault] (by rfl) a2.1 a2.2 ad hX;exact BB
 ·
  have aa:=ae (ar.uf bb.o cC.o);have bM:=ae (ar.un bb.o cC.o);go_wp2_with(fail);refine(rA MA TA mn mc tn tc u.af s.table l t cI (ag.2.2.2.2.1.on cd.o).at_.m.qx i.hU.ok.zH (ag.2.2.2.2.2.on cd.o).at_.t.holds cj.2.1 ad).mono ?_;intro e cA aj;have ap:(cY u.af s.table l t).length=tn:=by rw[fj];exact bS.2.2.2.1.symm
  obtain⟨I,aD,rfl,bD,b0,az,aB⟩:=aj.open_ (n:=tn) ap;have b7:Ext cI cA:=Fr.of aB;generalize hT:cY u.af s.table l t=T at *;have r:Own cA 95 2 I tn aD (T.flatMap cb) (bx I tn aD):=⟨iR az (L3 _),rfl⟩
  have ax:∀b∈bx I tn aD,cI.heap.size<=b/\b<cA.heap.size:=λb O=>az.lt b (by simpa using O);have av:Sl cA (λb=>cI.heap.size<=b/\b<cA.heap.size) I tn (T.map mf):=r.sl (dS _) (by rw[LG];exact ap) ax;have aS:=aA (RO.aj y.1 b7) (y.2.1.trans b7) (y.2.2.trans b7);have Q:=ah av bD;have cD:=b7.size;clear hT ap aj b0 az aB b7 r ax av bD a0 ak af a8 am aJ d0 aK aO e0 a6 aQ c0 c1 c2 c3 J flb ab bq k a7;obtain⟨a8,am,aJ⟩:=(ag.2.2.1.aj aS.2.2).two;obtain⟨d0,aK,aO⟩:=(ca.aj aS.2.1).two;obtain⟨e0,a6,aQ⟩:=aS.1.o.two;obtain⟨bq,k,flb,ab,J,c0,c1,c2,c3,a7⟩:=aS.1.top;go_upto_region 41 with(fail);generalize hX:World.setCell _ _ _=Y;obtain⟨cv,bR⟩:=aS.1.IS Q.1 Q.2 (λb a4=>.inr ⟨by have:=aR.1.lo b4.heap.size (by simp);have:=a4.1;omega,a4.2,by have:=aR.1.lo b4.heap.size (by simp);have:=a4.1;omega⟩) hX;have cQ:=cJ hX;have dt:=(aR.1.lo b4.heap.size (by simp)).1;have G:Ext V Y:=Fr.low (M:=λb=>b=b4.heap.size) (Fr.trans (Fr.mono aS.2.1 λ_ h=>h.elim) cQ) λb O=>ad;have bF:=aA cv bR (bP.trans G);have bC:=ae bF.2.2;have bg:=G.size;clear hX cv bR cQ G a8 am aJ d0 aK aO e0 a6 aQ c0 c1 c2 c3 J flb ab bq k a7
  cases b3:heldBy u.af s.table l t with
  | true=>
   exact G0
  | false=>
   have bT:=ae (bM.o b3);obtain⟨a8,am,aJ⟩:=(ag.2.2.1.aj bC.o).two;have dm:=bC.size;go_wp2_with(fail);refine(py P s ⟨bE,bK,bw,TA,tn,tc,HA,hn,hc⟩ 3 Y (cc.2.2.Hw H.o (ag.1.trans bC.o)) (λb O=>LC (H.o b O) (ag.1.trans bC.o).size)).mono ?_;rintro e cA ⟨⟨dC,bn,bI,dl,bm,bl,bW,cH,cf⟩,rfl,b8,b7⟩;have f2:=b7.size;have cK:=ae b8;have a2:=ah (ag.2.2.2.1.aj (bC.trans b7)) ((ag.1.trans bC.o).trans b7);clear b8 b7 a8 am aJ;obtain⟨bp,aM,aV⟩:=a2.1.two;go_wp2_with(fail);generalize hX:World.setCell _ _ _=Z;obtain⟨bt,ba,bf⟩:=bs (w:=w) [.slice dC bn bI,.slice dl bm bl,.slice bW cH cf,.int .i64 3] (by rfl) a2.1 a2.2 ad hX;have bh:=ah ba bf;clear hX ba bf bp aM aV;obtain⟨bp,aM,aV⟩:=bt.two;refine Mf (v:=.tuple #[.agg #[.slice dC bn bI,.slice dl bm bl,.slice bW cH cf,.int .i64 3],.bool true]) (by simp[results,Tryz.results20,go_sem,bp]) rfl ?_;rw[bT.o];exact ft (B:=Y.heap.size) (aq:={s with fault:=3}) cK.o bh.2 (λb O=>⟨λhl=>by have:=H.o b hl;omega,ad⟩) (λb O=>by have:=H.o b O;omega) ad bh.1 rfl
 ):p:=h
theorem sJ(h:p:=by
 exact sG
 ):p:=h
theorem sL(h:p:=by
 have bk:cL (br u) cp.locals cp.ax x.place:=by
  obtain⟨len,_,al⟩:=h.ok;exact DM
 have K:=h.hS.yz;have bO:t<=1000:=ad;have eW:=h.hS.tok hN;have bZ:=iF (s:=s) (nl:=cp.locals) (nk:=f.ax.length) h.hU.ok h.hF (Int.le_refl _) (by rw[h.hF.qq h.hp];exact bk);have au:=ae (KC (u:=u) (s:=s) (t:=t) (f:=f) (x:=x) co);have cj:=aA bk eW bZ;clear bk eW bZ K;exact sI
 ):p:=h
end DA
open DA in
theorem qU(u:aw)(s:ai)(t:Int)(f:an)(cp:cM)(x:ay)(N:Nat)(P:Nat->Prop)(w:World)(p:UV)(q:SV)(h:jq u s t f cp x N)(hN:N<=100000)(co:x.op=4\/x.op=5)(hu:p.Ok w u)(b2:q.Is w P s)(be:∀b,P b->b<w.heap.size) :
  Calls prog 20 #[.agg (p.val u),.agg (q.val s),.int .i64 t] w (c8 P w (b1 u s t f x).1 (b1 u s t f x).2):=by
 exact sK
end Go.Proofs.YtflecliffjbleaaGreat

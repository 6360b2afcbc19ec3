/- Part 32 of the proof. No condition of its own. -/
import Derived.Test.YtkhnkojkplbioaaGreatQ31
namespace Go.Proofs.YtkhnkojkplbioaaGreat
open Go.RowKit Go.Proofs.Tryz
set_option maxRecDepth 1000000
set_option maxHeartbeats 25600000
set_option linter.unusedVariables false
variable{p:Prop}{w:World}
theorem Ei(w:World)(b i:Nat)(v:Value):Fr (λk=>k=b) w.drew (w.setCell ⟨b,i,none⟩ v).drew:=
 have h:=(Fr.refl (λk=>k=b) w).setCell (p:=⟨b,i,none⟩) (.inl rfl) v
 ⟨h.os,h.tape,h.output,h.size,h.block⟩
theorem uC{M:Nat->Prop}{ab:World}(h:Fr M w ab):Fr M w.drew ab.drew:=⟨h.os,h.tape,h.output,h.size,h.block⟩
theorem qG:∀(ps:List (ByteArray×Bool)) (q:ByteArray×Bool) (i k:Int),dU (ps++[q]) i k=dU ps i k++[if q.2 then ⟨q.1,5,k+bU ps⟩ else ⟨q.1,4,i+cd ps⟩]
 | [],(s,true),i,k=>by simp[dU,bU]
 | [],(s,false),i,k=>by simp[dU,cd]
 | (x,true)::ps,q,i,k=>by
  have:=(gQ x true ps).2;have au:=(gQ x true ps).1;rw[Lz,dU,dU,qG ps q i (k+1),this,au];simp
  split<;>simp<;>omega
 | (x,false)::ps,q,i,k=>by
  have:=(gQ x false ps).2;have au:=(gQ x false ps).1;rw[Lz,dU,dU,qG ps q (i+1) k,this,au];simp;split<;>simp<;>omega
theorem ll(ps:List (ByteArray×Bool))(q:ByteArray×Bool):cd (ps++[q])=cd ps+(if q.2 then 0 else 1)/\bU (ps++[q])=bU ps+(if q.2 then 1 else 0):=by
 obtain⟨s,b⟩:=q;cases b<;>simp[cd,bU]
theorem yR{P:Nat->Prop}{p:cM}{cs:List Value}:(gi p).rep w P cs↔∃A n c,cs=[.string p.name,.int .i64 p.ints,.int .i64 p.au,.int .i64 p.locals,.slice A n c]/\n<=c/\Sl w P A n (p.code.map ej):=by
 unfold gi;rw[bM,ct];constructor
 .rintro⟨y,rfl,h⟩;exact Hg
 .rintro⟨A,n,c,rfl,hc,hs⟩;exact⟨_,rfl,bq.2 ⟨_,rfl,bq.2 ⟨_,rfl,bq.2 ⟨_,rfl,aN.2 ⟨A,n,c,[],rfl,hc,hs,aP.2 rfl⟩⟩⟩⟩⟩
def IQ(w:World)(x:cM)(e:Ending)(ab:World):Prop:=∃(A:L3) (n c:Nat) (bU:L3) (bW bE:Nat),
 e=.returned (.tuple #[.agg #[.string x.name,.int .i64 x.ints,.int .i64 x.au,.int .i64 x.locals,.slice A n c],.slice bU bW bE,.int .i64 0,.int .i64 0])/\(gi x).rep ab (fresh w ab) [.string x.name,.int .i64 x.ints,.int .i64 x.au,.int .i64 x.locals,.slice A n c]/\Ext w ab
namespace Cs
theorem dE(h:p:=by
 clear a7 am aF;generalize hX:World.setCell _ _ _=X;have b5:=cO hX;have bM:=bY.2.2.2.2.2.1.on b5 ad;have z:aq X g 215 #[.slice GA gn gc,.slice MA mn mc,.slice FA fn fc,.slice A2 (ln+k+1) c2,.int .i64 0,.int .i64 0,.int .i64 0,.int .i64 0,.slice none 0 0,.slice none 0 0]:=hX▸bY.2.2.2.2.1.aM 3 _;have aQ:=ag b5 z;clear c0 bR bu hX b5 z;obtain⟨c0,bR,bu⟩:=bM.two;have c3:=ae bM;clear bM;have bq:=mV (f.params.take k);have aM:=iK (f.params.take k);have e4:(f.params.take k).length<=2:=by rw[List.length_take];omega
 have d1:wrap64 (bU (f.params.take k)+1)=bU (f.params.take k)+1:=IntWalk.wrap64_in _ ad;go_upto_region 5 with(fail);generalize b6:World.setCell _ _ _=bT
 try rw[d1] at b6
 have ay:=cO b6;obtain⟨bH,a6,cm,cc,_,_,cP⟩:=bY.o;obtain⟨b5,z⟩:=aQ.o;have ai:=(aO.o:W.heap.size<=g)
 have r1:Gr (λ_=>False) W.heap.size 166 3 bT A2 (ln+(k+1)) c2 ((br p++dU (f.params.take (k+1)) 0 0).map b2):=by
  exact G3
 have f0:Ext w bT:=Fr.low (M:=λb=>w.heap.size<=b) ((a6.mono λ_ h=>h.elim).trans ((b5.mono λb O=>ad).trans (ay.mono λb O=>ad))) λ_ h=>h;have gT:=(cm.on b5 ad).on ay ad;have co:=(cc.on b5 ad).on ay ad;have rg:=z.on ay ad;have ro:aq bT o 100 #[.string f.name,.int .i64 (cd (f.params.take (k+1))),.int .i64 (bU (f.params.take (k+1))),.int .i64 0,.slice none 0 0]:=by
  rw[a1 bZ.o,(ll _ _).1,(ll _ _).2,b0,<-b6];simpa using c3.aM 2 _
 exact Hi
 ):p:=h
theorem eU(h:p:=by
 refine tf ?_;refine b9 ?_;generalize cu:World.setCell _ _ _=Y;obtain⟨_,s,_⟩:=qe b7 bm ai cu;have bx:=ae (bo.trans s);have m:=N.aj s;have ea:=ae m;have dr:=ae (cp.aj s);have cY:=bO.aj s;have an:=b1.aj s;have cC:=ae (bS.aj s);replace h0:=(s.cell bF (λh=>h)).trans h0
 replace b4:=(s.cell bF (λh=>h)).trans b4
 have cV:=s.size;replace bF:pb<Y.heap.size:=Ll bF cV
 clear cu c0 bR bu b7 bm ai s a0 aj af a7 am aF bO b1;obtain⟨bO,b1⟩:=aJ cY an;obtain⟨a0,aj,af⟩:=m.two;obtain⟨a7,am,aF⟩:=cY.two;obtain⟨c0,bR,bu⟩:=an.two;clear m cY an;have cJ:¬Y.heap.size<=g:=ad;have er:¬Y.heap.size<=o:=ad;have ei:¬Y.heap.size<=w.heap.size+1:=ad;have es:¬Y.heap.size<=pb:=ad
 cases b0:q.2 with
 | true=>
  rw[b0] at b4;go_wp2;refine eC (λb=>Y.heap.size<=b) [(0,3),(1,3),(2,3),(3,3),(4,0),(5,3),(6,0),(7,3),(8,3),(9,3),(10,0),(11,3),(12,0),(13,3),(14,1),(15,2),(16,3),(17,3),(18,2)] ?_
  iterate 4 refine pf ?_
  refine oQ ?_;refine pf ?_;refine oQ ?_
  iterate 3 refine pf ?_
  refine oQ ?_;refine pf ?_;refine oQ ?_;refine pf ?_;refine rz ?_;generalize hV:World.drew (World.alloc _ _)=da;have e1:=gK hV;have cM:aq da Y.heap.size 166 #[.string q.1,.int .i64 5,.int .i64 (bU (f.params.take k))]:=hV▸(LX).drew;clear hV;refine ax rfl (λK hK=>?_);rw[if_pos (by rfl)];refine fa jj (.tmp 57) (.tmp 67) (by rfl) (cC.aj e1) cM (jX ⟨q.1,5,bU (f.params.take k)⟩) (by rfl) (by rfl) (by rfl) ad ad (aD e1.size) ?_;intro A2 c2 cK bH az cl ca;have a6:Ext w cK:=Fr.low (M:=λb=>w.heap.size<=b) (((bx.trans e1).mono λ_ h=>h.elim).trans (az.mono λb O=>by have:=(cC.lt O).1;omega)) λ_ h=>h;have aB:∀b,(Value.slice A (ln+k) c).ownBlock=some b->W.heap.size<=b/\b≠g/\b≠o:=λb O=>⟨(cC.lt O).1,λe=>by subst e;exact bK.1 O,λe=>by subst e;exact bK.2 O⟩
  have cm:=(ea.aj e1).on az λO=>by have:=(aB _ O).1;omega
  have cc:=(dr.aj e1).on az λO=>by have:=(aB _ O).1;omega
  have kg:=(bO.aj e1).on az λO=>(aB _ O).2.1 rfl;have d5:=(b1.aj e1).on az λO=>(aB _ O).2.2 rfl;have cP:(Value.slice A2 (ln+k+1) c2).ownBlock≠some g/\(Value.slice A2 (ln+k+1) c2).ownBlock≠some o:=by
   exact zJ
  have bY:=h2 bH a6 cm cc kg d5 cP;clear bH az cl a6 aB cm cc cP a0 aj af a7 am aF c0 bR bu e1 cM h0 b4 bF cJ er ei es;obtain⟨a7,am,aF⟩:=kg.two;obtain⟨c0,bR,bu⟩:=d5.two;clear kg d5;refine dP hK ?_;clear hK K
  iterate 2 refine pf ?_
  exact eT
 | false=>
  rw[b0] at b4;go_wp2;refine eC (λb=>Y.heap.size<=b) [(0,3),(1,3),(2,3),(3,3),(4,0),(5,3),(6,0),(7,3),(8,3),(9,3),(10,0),(11,3),(12,0),(13,3),(14,1),(15,2),(16,3),(17,3),(18,2)] ?_
  iterate 4 refine pf ?_
  refine oQ ?_;refine pf ?_;refine oQ ?_
  iterate 3 refine pf ?_
  refine oQ ?_;refine pf ?_;refine oQ ?_;refine pf ?_;refine rz ?_;generalize hV:World.drew (World.alloc _ _)=da;have e1:=gK hV;have cM:aq da Y.heap.size 166 #[.string q.1,.int .i64 4,.int .i64 (cd (f.params.take k))]:=hV▸(LX).drew;clear hV;refine ax rfl (λK hK=>?_);rw[if_pos (by rfl)];refine fa jj (.tmp 79) (.tmp 89) (by rfl) (cC.aj e1) cM (jX ⟨q.1,4,cd (f.params.take k)⟩) (by rfl) (by rfl) (by rfl) ad ad (aD e1.size) ?_;intro A2 c2 cK bH az cl ca;have a6:Ext w cK:=Fr.low (M:=λb=>w.heap.size<=b) (((bx.trans e1).mono λ_ h=>h.elim).trans (az.mono λb O=>by have:=(cC.lt O).1;omega)) λ_ h=>h;have aB:∀b,(Value.slice A (ln+k) c).ownBlock=some b->W.heap.size<=b/\b≠g/\b≠o:=λb O=>⟨(cC.lt O).1,λe=>by subst e;exact bK.1 O,λe=>by subst e;exact bK.2 O⟩
  have cm:=(ea.aj e1).on az λO=>by have:=(aB _ O).1;omega
  have cc:=(dr.aj e1).on az λO=>by have:=(aB _ O).1;omega
  have kg:=(bO.aj e1).on az λO=>(aB _ O).2.1 rfl;have d5:=(b1.aj e1).on az λO=>(aB _ O).2.2 rfl;have cP:(Value.slice A2 (ln+k+1) c2).ownBlock≠some g/\(Value.slice A2 (ln+k+1) c2).ownBlock≠some o:=by
   exact zJ
  have bY:=h2 bH a6 cm cc kg d5 cP;clear bH az cl a6 aB cm cc cP a0 aj af a7 am aF c0 bR bu e1 cM h0 b4 bF cJ er ei es;obtain⟨a7,am,aF⟩:=kg.two;obtain⟨c0,bR,bu⟩:=d5.two;clear kg d5;refine dP hK ?_;clear hK K
  iterate 2 refine pf ?_
  refine ax rfl (λK hK=>?_);go_simp;refine dP hK ?_;clear hK K;refine aC ?_;clear a7 am aF;generalize hX:World.setCell _ _ _=X;have b5:=cO hX;have bM:=bY.2.2.2.2.2.1.on b5 ad;have z:aq X g 215 #[.slice GA gn gc,.slice MA mn mc,.slice FA fn fc,.slice A2 (ln+k+1) c2,.int .i64 0,.int .i64 0,.int .i64 0,.int .i64 0,.slice none 0 0,.slice none 0 0]:=hX▸bY.2.2.2.2.1.aM 3 _;have aQ:=ag b5 z;clear c0 bR bu hX b5 z;obtain⟨c0,bR,bu⟩:=bM.two;have c3:=ae bM;clear bM;have bq:=mV (f.params.take k);have aM:=iK (f.params.take k);have e4:(f.params.take k).length<=2:=by rw[List.length_take];omega
  have d1:wrap64 (cd (f.params.take k)+1)=cd (f.params.take k)+1:=IntWalk.wrap64_in _ ad;go_upto_region 5 with(fail);generalize b6:World.setCell _ _ _=bT
  try rw[d1] at b6
  have ay:=cO b6;obtain⟨bH,a6,cm,cc,_,_,cP⟩:=bY.o;obtain⟨b5,z⟩:=aQ.o;have ai:=(aO.o:W.heap.size<=g)
  have r1:Gr (λ_=>False) W.heap.size 166 3 bT A2 (ln+(k+1)) c2 ((br p++dU (f.params.take (k+1)) 0 0).map b2):=by
   exact G3
  have f0:Ext w bT:=Fr.low (M:=λb=>w.heap.size<=b) ((a6.mono λ_ h=>h.elim).trans ((b5.mono λb O=>ad).trans (ay.mono λb O=>ad))) λ_ h=>h;have gT:=(cm.on b5 ad).on ay ad;have co:=(cc.on b5 ad).on ay ad;have rg:=z.on ay ad;have ro:aq bT o 100 #[.string f.name,.int .i64 (cd (f.params.take (k+1))),.int .i64 (bU (f.params.take (k+1))),.int .i64 0,.slice none 0 0]:=by
   rw[a1 bZ.o,(ll _ _).1,(ll _ _).2,b0,<-b6];simpa using c3.aM 1 _
  exact Hi
 ):p:=h
theorem v7(h:p:=by
 refine(dZ A (ln+k) c _ q.1 V.drew (ch.on (Fr.ext bm.drew)) ad).mono ?_;rintro e aS ⟨rfl,ar⟩;rw[ak];simp only[iZ];refine dP hK ?_;clear hK K
 iterate 3 refine tf ?_
 have cG:=aR.aj (Fr.aF ar);have aN:=bm.trans (Fr.aF ar);clear aR bm ar;exact key wr.heap.size aS ⟨aN,cG,Lk _⟩
 ):p:=h
theorem sZ(h:p:=by
 have eo:((br p).map b2).length=ln:=hl.1;have du:ln<=100:=by rw[<-hl.1,Lo,k1];omega
 have bp:f.params.length=pn:=by rw[<-cg.1,Lo]
 have gu:pn<=2:=by have:=(hp.funcs f J).jF;omega
 obtain⟨cq,dm,cR,bX,b8,gO,dx⟩:=DF hp J hm bG hl cg bl;have aE:=ag eo bp;clear h a9 hm bG hl cg bl hp J ds lm lf eo bp;go_enter func93,ntmps93;go_upto_region 1 with(fail);generalize be:World.alloc _ _=W;have aw:=lC be;have bD:=jw be;have cf:=h1 be;have cF:=jx be;have c5:=aw.size;obtain⟨bo,N,cp⟩:=ek aw cf cF;have y:=kH ((b8.on (Fr.ext aw)).on (Fr.ext (Fr.refl _ W).drew));obtain⟨a0,aj,af⟩:=bD.two;have eB:¬W.heap.size<=w.heap.size:=by have:=cF.lt;omega
 have cD:w.heap.size+2<W.heap.size:=cF.lt;clear be aw bD cf cF;refine eC (λb=>W.heap.size<=b) [(0,0),(2,3),(1,1),(3,1),(4,3),(5,2),(6,3)] ?_;refine oQ ?_;refine pf ?_;refine rz ?_;generalize hV:World.drew (World.alloc _ _)=e6;have e1:=gK hV;have cL:Gr (λ_=>False) W.heap.size 166 3 e6 (some ⟨W.heap.size,0,none⟩) 0 0 []:=hV▸(Gr.lit (w:=W) (n:=0) (l:=[]) rfl (by rfl) ad (by simp only[D.aQ])).aj LW.drew;have dQ:=kH (b8.on (Fr.ext (bo.trans e1)));clear hV y;refine aG rfl (λK hK=>?_);rw[if_pos (by rfl)];refine js jj (.tmp 16) (.tmp 17) (by rfl) cL (k5 (br p)) aE.1 dQ (λh=>by subst h;exact Sl.none_ b8.o) (by rfl) (by rfl) ad ad e1.size ?_;intro ba cv aU cb f1 o1 c1;refine dq hK (f1.mono λb O=>ad) ?_;clear hK K;have e2:Ext W aU:=Fr.low (M:=λb=>W.heap.size<=b) ((e1.mono λ_ h=>h.elim).trans (f1.mono λb O=>ad)) λ_ h=>h;have dt:=λb O=>(cb.lt (g:=b) O)
 have eH:W.heap.size<=aU.heap.size:=e2.size;refine pf ?_;refine ax rfl (λK hK=>?_);go_simp;generalize hV:World.alloc _ _=eG;have e3:=aW hV;have cY:=aI hV;refine dP hK ?_;clear hK K;refine pf ?_;refine aC ?_;have bd:=ae (bo.trans (e2.trans e3));have bh:=ae (cb.aj e3);have db:=N.aj (e2.trans e3);have dB:=ae db;have bb:=ae (cp.aj (e2.trans e3));have bO:=ae cY;have bz:w.heap.size+3<=aU.heap.size:=by have:=e2.size;have:=cp.lt;omega
 have cE:∀b,(Value.slice ba ln cv).ownBlock=some b->W.heap.size<=b/\b<aU.heap.size:=λb O=>dt b O;have aA:=ae cE;clear hV e1 cL dQ cb f1 o1 c1 e2 e3 cY dt eB a0 aj af bo N cp cE;obtain⟨a0,aj,af⟩:=db.two;clear db;generalize eD:aU.heap.size=g at *;go_upto_region 3 with(fail);generalize hV:World.alloc _ _=V;have L:=aW hV;have an:=aI hV;have cT:g<eG.heap.size:=bO.lt;generalize dY:eG.heap.size=o at *;have aL:=ae (show Gr (λ_=>False) W.heap.size 166 3 V ba ln cv ((br p).map b2)/\(Value.slice ba ln cv).ownBlock≠some g/\(Value.slice ba ln cv).ownBlock≠some o/\Ext w V/\aq V (w.heap.size+1) 157 #[.string f.name,.slice PA pn pc,.slice fy bn bc]/\
   aq V (w.heap.size+2) 100 #[.string ⟨#[]⟩,.int .i64 0,.int .i64 0,.int .i64 0,.slice none 0 0]/\aq V g 215 #[.slice GA gn gc,.slice MA mn mc,.slice FA fn fc,.slice ba ln cv,.int .i64 0,.int .i64 0,.int .i64 0,.int .i64 0,.slice none 0 0,.slice none 0 0]/\aq V o 100 #[.string f.name,.int .i64 0,.int .i64 0,.int .i64 0,.slice none 0 0] from
  ⟨bh.aj L,λO=>by have:=aA.o _ O;omega,λO=>by have:=aA.o _ O;omega,bd.trans L,dB.aj L,bb.aj L,bO.aj L,an⟩)
 have el:W.heap.size<=g:=ad;clear hV L an bh bd dB bb bO a0 aj af aA eD dY;have aO:=ae el;obtain⟨cr,bN,cQ,dh,f2,bv,et,fd⟩:=aL.o;have dH:=ae (show Gr (λ_=>False) W.heap.size 166 3 V ba (ln+0) cv ((br p++dU (f.params.take 0) 0 0).map b2)/\(Value.slice ba (ln+0) cv).ownBlock≠some g/\(Value.slice ba (ln+0) cv).ownBlock≠some o/\Ext w V/\aq V (w.heap.size+1) 157 #[.string f.name,.slice PA pn pc,.slice fy bn bc]/\aq V (w.heap.size+2) 100 #[.string ⟨#[]⟩,.int .i64 0,.int .i64 0,.int .i64 0,.slice none 0 0]/\aq V g 215 #[.slice GA gn gc,.slice MA mn mc,.slice FA fn fc,.slice ba (ln+0) cv,.int .i64 0,.int .i64 0,.int .i64 0,.int .i64 0,.slice none 0 0,.slice none 0 0]/\aq V o 100 #[.string f.name,.int .i64 (cd (f.params.take 0)),.int .i64 (bU (f.params.take 0)),.int .i64 0,.slice none 0 0] from ⟨by simpa[dU] using cr,bN,cQ,dh,f2,bv,et,by simpa[cd,bU] using fd⟩);clear cr bN cQ dh f2 bv et fd;go_wp2
 go_loopw [12] (λcy wr=>∃(k:Nat) (A:L3) (c:Nat),k<=pn/\cy=.int .i64 k/\Gr (λ_=>False) W.heap.size 166 3 wr A (ln+k) c ((br p++dU (f.params.take k) 0 0).map b2)/\(Value.slice A (ln+k) c).ownBlock≠some g/\(Value.slice A (ln+k) c).ownBlock≠some o/\Ext w wr/\aq wr (w.heap.size+1) 157 #[.string f.name,.slice PA pn pc,.slice fy bn bc]/\aq wr (w.heap.size+2) 100 #[.string ⟨#[]⟩,.int .i64 0,.int .i64 0,.int .i64 0,.slice none 0 0]/\aq wr g 215 #[.slice GA gn gc,.slice MA mn mc,.slice FA fn fc,.slice A (ln+k) c,.int .i64 0,.int .i64 0,.int .i64 0,.int .i64 0,.slice none 0 0,.slice none 0 0]/\aq wr o 100 #[.string f.name,.int .i64 (cd (f.params.take k)),.int .i64 (bU (f.params.take k)),.int .i64 0,.slice none 0 0]) (λcy _=>pn - (intOf cy).toNat)
 case atStart=>exact⟨0,ba,cv,ad,rfl,dH.o⟩
 case round=>
  obtain⟨k,A,c,ap,rfl,hG,di,dj,aw,cf,cF,cY,an⟩:=hrel;clear aL dH;have bS:=ae hG;have bK:=ag di dj;obtain⟨bo,N,cp,bO,b1⟩:=Dp aw cf cF cY an;obtain⟨a0,aj,af⟩:=cf.two;obtain⟨a7,am,aF⟩:=cY.two;have aP:=aw.size;by_cases al:k<pn
  .obtain⟨pb,gP,q,cs,rfl,eQ,bA,bE,a8,Z⟩:=(gO.on (Fr.ext aw)).g6 rV al;obtain rfl:=od.1 bE;have h0:=Z 0 _ rfl;have b4:=Z 1 _ rfl;simp only[Lu] at h0;have bF:pb<wr.heap.size:=eQ;have bZ:=ae bA;have ak:dD (br p++dU (f.params.take k) 0 0) q.1=none:=by
    refine jY λj x bi hx=>?_;have a5:=(cq.funcs f dm.o).fresh;have cH:x.name∈(br p++dU (f.params.take k) 0 0).map (·.name):=LL.2 ⟨x,Ln bi,rfl⟩;rw[Lr,fS,fP] at cH;have dA:f.params=f.params.take k++q::f.params.drop (k+1):=by
     have:=List.take_append_drop k f.params;rw[<-this];congr 1
     .rw[this]
     .rw[this,List.drop_eq_getElem?_toList_append,bA];rfl
    rw[dA,Lr,Lq,<-List.append_assoc,List.nodup_append] at a5;exact a5.2.2 _ cH q.1 (by simp) hx
   have y:=bS.sl (Q:=av wr) (λb _ h=>h.elim) (λb h _=>h);have ch:=ae y;clear bE a8 Z eQ bA hG di dj aw cf cF cY an y;go_upto_region 6 with(fail);refine rC (λ_=>False) [10,15] (.free 0 (.free 1 (.free 2 (.held 3 (.free 4 (.held 5 (.free 6 (.free 7 (.free 8 (.held 9 (.pick [10,14] (λi=>bif i == 10 then .free 11 (.free 12 (.free 13 (.pick [14] (λ_=>.pick [15] (λ_=>.free 16 (.stop)))))) else .pick [10] (λ_=>.free 11 (.free 12 (.free 13 (.pick [15] (λ_=>.free 16 (.stop)))))))))))))))))) ?_
   iterate 3 refine tf ?_
   refine th ?_;refine tf ?_;refine th ?_
   iterate 3 refine tf ?_
   refine th ?_;refine ly (P:=?Kh) (ops:=?Kq) (Q:=?Kr) (R:=?Ks) (tails:=?Kt) (rest:=.pick [15] (λ_=>.free 16 (.stop))) (aa:=?Ki) (C:=λc9 V=>Ext wr V/\aq V c9 166 #[.string ⟨#[]⟩,.int .i64 0,.int .i64 0]/\wr.heap.size<=c9) (λkey=>?Jf) ?Ja
   case Jf=>
    refine a2 ?_ ?_
    ·
     refine bQ rfl (λK hK=>?_) rfl;go_simp;refine(dZ A (ln+k) c _ q.1 wr.drew (ch.on (Fr.ext LW.drew)) ad).mono ?_;rintro e aS ⟨rfl,ar⟩;rw[ak];simp only[iZ];refine dP hK ?_;clear hK K
     iterate 3 refine tf ?_
     refine ao ?_;refine dT ?_;generalize hV:World.alloc _ _=V;have aR:=aI hV;have bm:Ext wr V:=hV▸(Fr.aF ar).alloc _;exact DO
    ·
     exact v5
   case Ja=>
    rintro c9 V ⟨bm,b7,ai⟩;obtain⟨c0,bR,bu⟩:=b7.two;exact fp
  .obtain rfl:pn=k:=ad;rw[Ls (by rw[aE.2];exact Lk _)] at hG an;have ce:=b1.o;rw[Ls (by rw[aE.2];exact Lk _)] at ce;clear bS b1 an;obtain⟨bS,b1⟩:=aJ hG ce;obtain⟨c0,bR,bu⟩:=ce.two;clear hG di dj aw cf cF cY ce;go_upto_region 15 with(fail);generalize hX:World.setCell _ _ _=X;have b5:=cO hX;have z:aq X g 215 #[.slice GA gn gc,.slice MA mn mc,.slice FA fn fc,.slice A (ln+pn) c,.int .i64 (cd f.params),.int .i64 0,.int .i64 0,.int .i64 0,.slice none 0 0,.slice none 0 0]:=hX▸bO.aM 4 _;have d2:w.heap.size<=g:=by have:=(aO.o:W.heap.size<=g);omega
   have bs:Ext w X:=Fr.low (M:=λb=>w.heap.size<=b) ((bo.mono λ_ h=>h.elim).trans (b5.mono λb O=>ad)) λ_ h=>h;have bI:=bS.dm (ab:=X) b5.size λb al hp=>b5.block b al λhe=>by
    subst he;rcases hp with hp|hp
    .exact hp.elim
    .exact bK.1 hp
   have aT:∀b,av w b->off (Ms g (.slice none 0 0) (.slice none 0 0)) X b:=λb O=>⟨Ll O bs.size,λhm=>by
    rcases hm with hm|hm|hm
    .have:b<w.heap.size:=O;omega
    .cases hm
    .cases hm⟩
   have dO:=(cR.al (ab:=X) λb O=>bs.block b O λh=>h).mono aT;have cz:=(bX.al (ab:=X) λb O=>bs.block b O λh=>h).mono aT;have dK:=(dx.al (ab:=X) λb O=>bs.block b O λh=>h).mono aT;have dR:Sl X (off (Ms g (.slice none 0 0) (.slice none 0 0)) X) A (ln+pn) ((br p++dU f.params 0 0).map b2):=by
    obtain⟨d0,xs,ac,au⟩:=bI;exact Sl.qB ac (uy au) d0 λb aX _ al=>⟨al,λhm=>by
     rcases hm with hm|hm|hm
     .subst hm;exact bK.1 (by rw[aX];rfl)
     .cases hm
     .cases hm⟩
   have ee:cN X g (o+1) p.af p.funcs (br p++dU f.params 0 0) A (ln+pn) c (cd f.params) 0 [] [] none 0 none 0:=
    ⟨⟨GA,gn,gc,MA,mn,mc,FA,fn,fc,z,ad,ad,dO,cz⟩,⟨ad,by have:=b5.size;have:=bu;omega⟩,⟨ad,dR⟩,lz.nil _ _ _ _ _ _⟩
   have bL:=N.on b5 (by have:=(aO.o:W.heap.size<=g);omega);obtain⟨ev,d9,bf,eE⟩:=iX ee dK bs bL;have d8:=ae (cp.on b5 (by have:=(aO.o:W.heap.size<=g);omega));have ec:=ae (b1.on b5 ad);clear a0 aj af a7 am aF c0 bR bu hX b5 z bs bI aT dO cz dK dR ee;obtain⟨a0,aj,af⟩:=bL.two;clear bL;have eW:=mV f.params;have ep:=iK f.params;have cU:=ae (show ∀b,Ms g (.slice none 0 0) (.slice none 0 0) b->w.heap.size<=b from λb hm=>by
    rcases hm with hm|hm|hm
    .omega
    .cases hm
    .cases hm)
   have dg:Sc (bC (gq p)) (h3 p f) (br p++dU f.params 0 0) (fu p++cw f.params) (bk p++f.params.map (·.1)) (cd f.params) (bU f.params):=vi cq.o dm.o;have eu:(bC (gq p)).af=p.af:=by rw[oD]
   have I:f.body.num<=64:=LD (jq (λf:aK=>f.body.num) dm.o) cq.jF;have dk:=dV f.body 4 _ _ _ (cd f.params) [] (cq.funcs f dm.o).body dg;have cB:(br p++dU f.params 0 0).length<=200:=by
    have ac:=aE.1;rw[Lo] at ac;have au:=congrArg List.length (fP f.params 0 0);rw[Lo,Lo] at au;have aY:=aE.2;rw[Lm,ac,au];omega
   obtain⟨a4,dF,ed,dX⟩:=iX dg dk eu cB;clear dg dk eu cB;go_wp2_with(fail);have bp:=aE.2;have cB:=dX.o;refine(de (bC (gq p)) (bU f.params) p.funcs f.body (h3 p f) 4 _ _ _ (cd f.params) 0 [] [] g (o+1) A (ln+pn) c none 0 none 0 fy bn bc X (cq.funcs f dm.o).body a4.o (Eg cq.o dm.o) (λh ah=>by have:=(cq.funcs h ah).jF;omega) (by rw[ed.o];exact ev.o) d9.o (by simp;omega) rfl ad ad ad).mono ?_;rintro e c7 ⟨rfl,bV,cj,cA,cI,bt,bN,aZ,ci⟩;have dk:=dF.o;rw[ed.o] at aZ;clear bp cB dF;generalize bA:dL f.body (br p++dU f.params 0 0) (cd f.params) []=r at *;obtain⟨r1,gM⟩:=r;obtain⟨⟨gI,cZ,ej,_⟩,bg,dd⟩:=dk;simp only[LN,LF] at bN aZ ci cZ bg dd;have cW:r1.length<=128:=by rw[cZ];omega
   have dl:∀b,b≠g->¬Ms g (.slice none 0 0) (.slice none 0 0) b:=λb O hm=>by
    rcases hm with hm|hm|hm
    .exact O hm
    .cases hm
    .cases hm
   obtain⟨dp,d3⟩:=d8.cS (dl _ (by have:=(aO.o:W.heap.size<=g);omega)) ci;obtain⟨cX,d4⟩:=ec.cS (dl _ ad) ci;obtain⟨cn,eO⟩:=aJ aZ ci;obtain⟨e9,eV,eR,fe,e0,eY,e7,eN,eL,gr,_⟩:=aZ.blk;have c8:=bJ dp d3 cX d4;have bZ:=bJ bA bN bg dd;clear a0 aj af aZ ci dp cX cZ ej d3 d4 bA bN;obtain⟨a7,am,aF⟩:=gr.two;clear gr;clear bg dd dl;go_wp2_with(fail);refine(g8 cn.o nF (f.body.num:Int) (jB (is:=[]) (ps:=[]) (Sl.bR _) (Sl.bR _) (Lk _) (Lk _)) ad (aD bZ.2.1)).mono ?_;rintro e cS ⟨rfl,dG,dn,dM,dS,cx,dc⟩;have dW:=ae cx;have ck:Mv g (.slice bV r1.length cj) (.slice cA bt.length cI) c7 (.slice dG (r1++[nF]).length dn) (.slice dM (bt++[(f.body.num:Int)]).length dS) cS:=by rw[Lm,Lm];exact dc
   have eq:=ae (eO.trans ck);obtain⟨dp,d3⟩:=c8.1.cS c8.2.1 ck;obtain⟨cX,d4⟩:=c8.2.2.1.cS c8.2.2.2 ck;obtain⟨ex,ey⟩:=aJ dp cX;obtain⟨e8,eS,eP,fb,eZ,eX,e5,eM,eK,ct,_⟩:=cx.blk;have eb:=ae ct;clear cx dc ck a7 am aF;obtain⟨a7,am,aF⟩:=ct.two;obtain⟨c0,bR,bu⟩:=cX.two;have em:¬g=o:=ad;clear ct cX dp;go_wp2;refine eC (λb=>b=o) [(0,3),(1,3),(2,3),(3,0),(4,3),(5,3),(6,3),(7,0),(8,3),(9,1),(10,3),(11,2)] ?_
   iterate 3 refine pf ?_
   refine oQ ?_
   iterate 3 refine pf ?_
   refine oQ ?_;refine pf ?_;refine aG rfl (λK hK=>?_);go_simp;refine dq hK (Ei cS o 3 _) ?_;clear hK K;refine pf ?_;refine ax rfl (λK hK=>?_);go_simp;refine dP hK ?_;clear hK K;refine aC ?_;generalize hX:World.setCell _ _ _=gC;have T:=FC hX;have df:aq gC o 100 #[.string f.name,.int .i64 (cd f.params),.int .i64 (bU f.params),.int .i64 gM,.slice dG (r1.length+1) dn]:=hX▸(ey.aM 3 _).aM 4 _;have dN:=eb.on T em;have dI:=ex.on T (by have:=(aO.o:W.heap.size<=g);omega);obtain⟨dw,eF,dC⟩:=ek T df dI;clear hX T a7 am aF c0 bR bu dI;obtain⟨a7,am,aF⟩:=dN.two;obtain⟨c0,bR,bu⟩:=df.two;have ef:¬g=w.heap.size+2:=by have:=(aO.o:W.heap.size<=g);omega
   have eg:¬o=w.heap.size+2:=by have:=(aO.o:W.heap.size<=g);omega
   clear dN df;obtain⟨d6,dy,dz⟩:=dC.two;go_wp2;refine eC (λb=>b=w.heap.size+2) [(0,0),(1,3),(2,3),(3,3),(4,0),(5,3),(6,3),(7,3),(8,0),(9,3),(10,3),(11,3),(12,0),(13,1),(14,3),(15,3),(16,3)] ?_;refine Ga ?_
   iterate 3 refine pf ?_
   refine Ga ?_
   iterate 3 refine pf ?_
   refine Ga ?_
   iterate 3 refine pf ?_
   refine Ga ?_;refine aG rfl (λK hK=>?_);go_simp;generalize hX:World.setCell _ _ _=d7;obtain⟨ct,_,b3⟩:=bw (w:=w) [.string f.name,.int .i64 (cd f.params),.int .i64 (bU f.params),.int .i64 gM,.slice dG (r1.length+1) dn] (by rfl) dC.o (Fr.low (M:=λb=>w.heap.size<=b) ((bf.mono λ_ h=>h.elim).trans ((eq.fr.mono λb hm=>cU.o b hm).trans (dw.mono λb O=>by have:=(aO.o:W.heap.size<=g);omega))) λ_ h=>h) (Nat.le_add_right _ _) hX;refine dq hK (uC (uC b3)) ?_;clear hK K
   iterate 3 refine pf ?_
   refine aC ?_;obtain⟨bB,eI,eJ⟩:=ct.two;have ew:=ag b3 ct;clear a7 am aF c0 bR bu d6 dy dz hX b3 ct;go_wp2;refine LU (v:=.tuple #[.agg #[.string f.name,.int .i64 (cd f.params),.int .i64 (bU f.params),.int .i64 gM,.slice dG (r1.length+1) dn],.slice dM (bt.length+1) dS,.int .i64 0,.int .i64 0]) (by simp[results,Tryz.results93,go_sem,bB]) rfl ?_;obtain⟨b3,ct⟩:=ew.o;have ai:=(aO.o:W.heap.size<=g)
   have en:ez p f=⟨f.name,cd f.params,bU f.params,gM,r1++[nF]⟩:=by
    unfold ez;simp only[bZ.1]
   have bj:Ext w d7:=Fr.low (M:=λb=>w.heap.size<=b) ((bf.mono λ_ h=>h.elim).trans ((eq.fr.mono λb hm=>cU.o b hm).trans ((dw.mono λb O=>ad).trans (b3.mono λb O=>ad)))) λ_ h=>h;have bW:=dW.rows.one;have aV:=bW.cap.1;have eA:Gr _ _ _ _ d7.drew.drew _ _ _ _:=(((bW.dm (ab:=gC) dw.size λb al hp=>dw.block b al λhe=>by
    rcases hp with hp|hp
    .have:=hp.1;omega
    .have:=(bW.lt hp).1;omega).dm (ab:=d7) b3.size λb al hp=>b3.block b al λhe=>by
    rcases hp with hp|hp
    .have:=hp.1;omega
    .have:=(bW.lt hp).1;omega).aj (Fr.refl _ d7).drew).aj (Fr.refl _ d7.drew).drew
   have eh:=eA.sl (Q:=fresh w d7.drew.drew) (λb ac au=>⟨by have:=au.1;omega,ac⟩) (λb ac au=>⟨ad,ac⟩);rw[Lm] at eh aV;refine⟨dG,r1.length+1,dn,dM,bt.length+1,dS,by rw[en],?_,bj.drew.drew⟩;rw[en];exact yR.2 ⟨dG,r1.length+1,dn,rfl,aV,eh⟩
 ):p:=h
end Cs
open Cs in
theorem tj(de:∀U nk F b,lQ U nk F b)(p:bP)(hp:oR p)(f:aK)(J:f∈p.funcs)(GA:L3)(gn gc:Nat)(MA:L3)(mn mc:Nat)(FA:L3)(fn fc:Nat)(S:L3)(ln lc:Nat)(PA:L3)(pn pc:Nat)(fy:L3)(bn bc:Nat)(w:World)
  (h:hy w (av w) p GA gn MA mn FA fn) (hl:Sl w (av w) S ln ((br p).map b2)) (cg:Sl w (av w) PA pn (f.params.map dv)) (bl:Sl w (av w) fy bn (c6 f.body)) :
  Calls prog 93 #[.agg #[.slice GA gn gc,.slice MA mn mc,.slice FA fn fc],.slice S ln lc,.agg #[.string f.name,.slice PA pn pc,.slice fy bn bc]] w (IQ w (ez p f)):=by
 have a9:=h.g;have hm:=h.m;have bG:=h.f;have ds:p.globals.length=gn:=by rw[<-a9.1,Lo]
 have lm:p.af.length=mn:=by rw[<-hm.1,Lo]
 have lf:p.funcs.length=fn:=by rw[<-bG.1,Lo]
 exact sY
end Go.Proofs.YtkhnkojkplbioaaGreat

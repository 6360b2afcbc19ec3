/- Part 41 of the proof. No condition of its own. -/
import Derived.Test.YtnigabjngpnbiaaGreatQ38
namespace Go.Proofs.YtnigabjngpnbiaaGreat
open Go.RowKit Go.Proofs.Tryz
set_option maxRecDepth 1000000
set_option maxHeartbeats 25600000
set_option linter.unusedVariables false
variable{p:Prop}{w:World}
theorem CY(w:World)(b i:Nat)(v:Value):Fr (λk=>k=b) w.drew (w.setCell ⟨b,i,none⟩ v).drew:=
 have h:=(Fr.refl (λk=>k=b) w).setCell (p:=⟨b,i,none⟩) (.inl rfl) v
 ⟨h.os,h.tape,h.output,h.size,h.block⟩
theorem sj{M:Nat->Prop}{J:World}(h:Fr M w J):Fr M w.drew J.drew:=⟨h.os,h.tape,h.output,h.size,h.block⟩
theorem oN:∀(ps:List (ByteArray×Bool)) (q:ByteArray×Bool) (i k:Int),dy (ps++[q]) i k=dy ps i k++[if q.2 then ⟨q.1,5,k+bJ ps⟩ else ⟨q.1,4,i+b5 ps⟩]
 | [],(s,true),i,k=>by simp[dy,bJ]
 | [],(s,false),i,k=>by simp[dy,b5]
 | (x,true)::ps,q,i,k=>by
  have:=(ga x true ps).2;have ap:=(ga x true ps).1;rw[JX,dy,dy,oN ps q i (k+1),this,ap];simp
  split<;>simp<;>omega
 | (x,false)::ps,q,i,k=>by
  have:=(ga x false ps).2;have ap:=(ga x false ps).1;rw[JX,dy,dy,oN ps q (i+1) k,this,ap];simp;split<;>simp<;>omega
theorem kt(ps:List (ByteArray×Bool))(q:ByteArray×Bool):b5 (ps++[q])=b5 ps+(if q.2 then 0 else 1)/\bJ (ps++[q])=bJ ps+(if q.2 then 1 else 0):=by
 obtain⟨s,b⟩:=q;cases b<;>simp[b5,bJ]
theorem w7{P:Nat->Prop}{p:cG}{cs:List Value}:(fB p).rep w P cs↔∃A n c,cs=[.string p.name,.int .i64 p.ints,.int .i64 p.aq,.int .i64 p.locals,.slice A n c]/\n<=c/\Sl w P A n (p.code.map dH):=by
 unfold fB;rw[bK,dj];constructor
 .rintro⟨y,rfl,h⟩;exact FO
 .rintro⟨A,n,c,rfl,hc,hs⟩;exact⟨_,rfl,bm.2 ⟨_,rfl,bm.2 ⟨_,rfl,bm.2 ⟨_,rfl,aO.2 ⟨A,n,c,[],rfl,hc,hs,aS.2 rfl⟩⟩⟩⟩⟩
def Hb(w:World)(x:cG)(e:Ending)(J:World):Prop:=∃(A:Kj) (n c:Nat) (bP:Kj) (cg bQ:Nat),
 e=.returned (.tuple #[.agg #[.string x.name,.int .i64 x.ints,.int .i64 x.aq,.int .i64 x.locals,.slice A n c],.slice bP cg bQ,.int .i64 0,.int .i64 0])/\(fB x).rep J (fresh w J) [.string x.name,.int .i64 x.ints,.int .i64 x.aq,.int .i64 x.locals,.slice A n c]/\Ext w J
namespace A7
theorem eI(h:p:=by
 clear b0 am aw;generalize hX:World.setCell _ _ _=X;have bM:=da hX;have bP:=bN.2.2.2.2.2.1.on bM ad;have m:au X g 191 #[.slice GA gn gc,.slice MA mn mc,.slice FA fn fc,.slice bg (ln+k+1) c2,.int .i64 0,.int .i64 0,.int .i64 0,.int .i64 0,.slice none 0 0,.slice none 0 0]:=hX▸bN.2.2.2.2.1.bH 3 _;have aJ:=ak bM m;clear c0 bT bw hX bM m;obtain⟨c0,bT,bw⟩:=bP.two;have de:=ae bP;clear bP;have aT:=lM (f.params.take k);have ai:=h1 (f.params.take k);have cO:(f.params.take k).length<=2:=by rw[List.length_take];omega
 have dR:wrap64 (bJ (f.params.take k)+1)=bJ (f.params.take k)+1:=IntWalk.wrap64_in _ ad;go_upto_region 5 with(fail);generalize bD:World.setCell _ _ _=cD
 try rw[dR] at bD
 have av:=da bD;obtain⟨bb,cn,c7,cM,_,_,bj⟩:=bN.o;obtain⟨bM,m⟩:=aJ.o;have bm:=(aM.o:W.heap.size<=g)
 have r1:Gr (λ_=>False) W.heap.size 133 3 cD bg (ln+(k+1)) c2 ((a5 p++dy (f.params.take (k+1)) 0 0).map bR):=by
  exact FB
 have ef:Ext w cD:=Fr.low (M:=λb=>w.heap.size<=b) ((cn.mono λ_ h=>h.elim).trans ((bM.mono λb O=>ad).trans (av.mono λb O=>ad))) λ_ h=>h;have eg:=(c7.on bM ad).on av ad;have eL:=(cM.on bM ad).on av ad;have rg:=m.on av ad;have ro:au cD o 103 #[.string f.name,.int .i64 (b5 (f.params.take (k+1))),.int .i64 (bJ (f.params.take (k+1))),.int .i64 0,.slice none 0 0]:=by
  rw[aX br.o,(kt _ _).1,(kt _ _).2,aN,<-bD];simpa using de.bH 2 _
 exact FP
 ):p:=h
theorem gO(h:p:=by
 refine tf ?_;refine cY ?_;generalize cm:World.setCell _ _ _=Y;obtain⟨_,s,_⟩:=oj b8 a9 bm cm;have bs:=ae (bd.trans s);have aZ:=ah.aj s;have ek:=ae aZ;have dF:=ae (bv.aj s);have cU:=bQ.aj s;have cZ:=ci.aj s;have c3:=ae (bS.aj s);replace h0:=(s.cell a3 (λh=>h)).trans h0
 replace cv:=(s.cell a3 (λh=>h)).trans cv
 have bY:=s.size;replace a3:pb<Y.heap.size:=JJ a3 bY
 clear cm c0 bT bw b8 a9 bm s a0 al af b0 am aw bQ ci;obtain⟨bQ,ci⟩:=aI cU cZ;obtain⟨a0,al,af⟩:=aZ.two;obtain⟨b0,am,aw⟩:=cU.two;obtain⟨c0,bT,bw⟩:=cZ.two;clear aZ cU cZ;have et:¬Y.heap.size<=g:=ad;have ex:¬Y.heap.size<=o:=ad;have er:¬Y.heap.size<=w.heap.size+1:=ad;have ey:¬Y.heap.size<=pb:=ad
 cases aN:q.2 with
 | true=>
  rw[aN] at cv;go_wp2;refine fj (λb=>Y.heap.size<=b) [(0,3),(1,3),(2,3),(3,3),(4,0),(5,3),(6,0),(7,3),(8,3),(9,3),(10,0),(11,3),(12,0),(13,3),(14,1),(15,2),(16,3),(17,3),(18,2)] ?_
  iterate 4 refine pf ?_
  refine pK ?_;refine pf ?_;refine pK ?_
  iterate 3 refine pf ?_
  refine pK ?_;refine pf ?_;refine pK ?_;refine pf ?_;refine sG ?_;generalize hV:World.drew (World.alloc _ _)=ee;have e1:=jW hV;have cR:au ee Y.heap.size 133 #[.string q.1,.int .i64 5,.int .i64 (bJ (f.params.take k))]:=hV▸(Kg).drew;clear hV;refine az rfl (λK hK=>?_);rw[if_pos (by rfl)];refine kb ir (.tmp 57) (.tmp 67) (by rfl) (c3.aj e1) cR (jh ⟨q.1,5,bJ (f.params.take k)⟩) (by rfl) (by rfl) (by rfl) ad ad (aC e1.size) ?_;intro bg c2 cE bb ax I ck;have cn:Ext w cE:=Fr.low (M:=λb=>w.heap.size<=b) (((bs.trans e1).mono λ_ h=>h.elim).trans (ax.mono λb O=>by have:=(c3.lt O).1;omega)) λ_ h=>h;have aE:∀b,(Value.slice A (ln+k) c).ownBlock=some b->W.heap.size<=b/\b≠g/\b≠o:=λb O=>⟨(c3.lt O).1,λe=>by subst e;exact cb.1 O,λe=>by subst e;exact cb.2 O⟩
  have c7:=(ek.aj e1).on ax λO=>by have:=(aE _ O).1;omega
  have cM:=(dF.aj e1).on ax λO=>by have:=(aE _ O).1;omega
  have d9:=(bQ.aj e1).on ax λO=>(aE _ O).2.1 rfl;have ec:=(ci.aj e1).on ax λO=>(aE _ O).2.2 rfl;have bj:(Value.slice bg (ln+k+1) c2).ownBlock≠some g/\(Value.slice bg (ln+k+1) c2).ownBlock≠some o:=by
   exact xY
  have bN:=jE bb cn c7 cM d9 ec bj;clear bb ax I cn aE c7 cM bj a0 al af b0 am aw c0 bT bw e1 cR h0 cv a3 et ex er ey;obtain⟨b0,am,aw⟩:=d9.two;obtain⟨c0,bT,bw⟩:=ec.two;clear d9 ec;refine eC hK ?_;clear hK K
  iterate 2 refine pf ?_
  exact gM
 | false=>
  rw[aN] at cv;go_wp2;refine fj (λb=>Y.heap.size<=b) [(0,3),(1,3),(2,3),(3,3),(4,0),(5,3),(6,0),(7,3),(8,3),(9,3),(10,0),(11,3),(12,0),(13,3),(14,1),(15,2),(16,3),(17,3),(18,2)] ?_
  iterate 4 refine pf ?_
  refine pK ?_;refine pf ?_;refine pK ?_
  iterate 3 refine pf ?_
  refine pK ?_;refine pf ?_;refine pK ?_;refine pf ?_;refine sG ?_;generalize hV:World.drew (World.alloc _ _)=ee;have e1:=jW hV;have cR:au ee Y.heap.size 133 #[.string q.1,.int .i64 4,.int .i64 (b5 (f.params.take k))]:=hV▸(Kg).drew;clear hV;refine az rfl (λK hK=>?_);rw[if_pos (by rfl)];refine kb ir (.tmp 79) (.tmp 89) (by rfl) (c3.aj e1) cR (jh ⟨q.1,4,b5 (f.params.take k)⟩) (by rfl) (by rfl) (by rfl) ad ad (aC e1.size) ?_;intro bg c2 cE bb ax I ck;have cn:Ext w cE:=Fr.low (M:=λb=>w.heap.size<=b) (((bs.trans e1).mono λ_ h=>h.elim).trans (ax.mono λb O=>by have:=(c3.lt O).1;omega)) λ_ h=>h;have aE:∀b,(Value.slice A (ln+k) c).ownBlock=some b->W.heap.size<=b/\b≠g/\b≠o:=λb O=>⟨(c3.lt O).1,λe=>by subst e;exact cb.1 O,λe=>by subst e;exact cb.2 O⟩
  have c7:=(ek.aj e1).on ax λO=>by have:=(aE _ O).1;omega
  have cM:=(dF.aj e1).on ax λO=>by have:=(aE _ O).1;omega
  have d9:=(bQ.aj e1).on ax λO=>(aE _ O).2.1 rfl;have ec:=(ci.aj e1).on ax λO=>(aE _ O).2.2 rfl;have bj:(Value.slice bg (ln+k+1) c2).ownBlock≠some g/\(Value.slice bg (ln+k+1) c2).ownBlock≠some o:=by
   exact xY
  have bN:=jE bb cn c7 cM d9 ec bj;clear bb ax I cn aE c7 cM bj a0 al af b0 am aw c0 bT bw e1 cR h0 cv a3 et ex er ey;obtain⟨b0,am,aw⟩:=d9.two;obtain⟨c0,bT,bw⟩:=ec.two;clear d9 ec;refine eC hK ?_;clear hK K
  iterate 2 refine pf ?_
  refine az rfl (λK hK=>?_);go_simp;refine eC hK ?_;clear hK K;refine aG ?_;clear b0 am aw;generalize hX:World.setCell _ _ _=X;have bM:=da hX;have bP:=bN.2.2.2.2.2.1.on bM ad;have m:au X g 191 #[.slice GA gn gc,.slice MA mn mc,.slice FA fn fc,.slice bg (ln+k+1) c2,.int .i64 0,.int .i64 0,.int .i64 0,.int .i64 0,.slice none 0 0,.slice none 0 0]:=hX▸bN.2.2.2.2.1.bH 3 _;have aJ:=ak bM m;clear c0 bT bw hX bM m;obtain⟨c0,bT,bw⟩:=bP.two;have de:=ae bP;clear bP;have aT:=lM (f.params.take k);have ai:=h1 (f.params.take k);have cO:(f.params.take k).length<=2:=by rw[List.length_take];omega
  have dR:wrap64 (b5 (f.params.take k)+1)=b5 (f.params.take k)+1:=IntWalk.wrap64_in _ ad;go_upto_region 5 with(fail);generalize bD:World.setCell _ _ _=cD
  try rw[dR] at bD
  have av:=da bD;obtain⟨bb,cn,c7,cM,_,_,bj⟩:=bN.o;obtain⟨bM,m⟩:=aJ.o;have bm:=(aM.o:W.heap.size<=g)
  have r1:Gr (λ_=>False) W.heap.size 133 3 cD bg (ln+(k+1)) c2 ((a5 p++dy (f.params.take (k+1)) 0 0).map bR):=by
   exact FB
  have ef:Ext w cD:=Fr.low (M:=λb=>w.heap.size<=b) ((cn.mono λ_ h=>h.elim).trans ((bM.mono λb O=>ad).trans (av.mono λb O=>ad))) λ_ h=>h;have eg:=(c7.on bM ad).on av ad;have eL:=(cM.on bM ad).on av ad;have rg:=m.on av ad;have ro:au cD o 103 #[.string f.name,.int .i64 (b5 (f.params.take (k+1))),.int .i64 (bJ (f.params.take (k+1))),.int .i64 0,.slice none 0 0]:=by
   rw[aX br.o,(kt _ _).1,(kt _ _).2,aN,<-bD];simpa using de.bH 1 _
  exact FP
 ):p:=h
theorem tM(h:p:=by
 refine(dC A (ln+k) c _ q.1 V.drew (cc.on (Fr.ext a9.drew)) ad).mono ?_;rintro e aL ⟨rfl,L⟩;rw[ab];simp only[ia];refine eC hK ?_;clear hK K
 iterate 3 refine tf ?_
 have cA:=aK.aj (Fr.aL L);have ag:=a9.trans (Fr.aL L);clear aK a9 L;exact key wr.heap.size aL ⟨ag,cA,JI _⟩
 ):p:=h
theorem q6(h:p:=by
 have ev:((a5 p).map bR).length=ln:=hl.1;have dt:ln<=100:=by rw[<-hl.1,JM,kg];omega
 have bB:f.params.length=pn:=by rw[<-b3.1,JM]
 have b4:pn<=2:=by have:=(hp.funcs f aA).iN;omega
 obtain⟨cw,dk,cF,b6,bW,c5,dD⟩:=Fg hp aA hm bq hl b3 bE;have aQ:=ak ev bB;clear h aS hm bq hl b3 bE hp aA dB lm lf ev bB;go_enter func59,ntmps59;go_upto_region 1 with(fail);generalize ba:World.alloc _ _=W;have ar:=l6 ba;have bH:=jV ba;have b7:=iF ba;have cC:=jD ba;have cP:=ar.size;obtain⟨bd,ah,bv⟩:=eS ar b7 cC;have bZ:=j1 ((bW.on (Fr.ext ar)).on (Fr.ext (Fr.refl _ W).drew));obtain⟨a0,al,af⟩:=bH.two;have eH:¬W.heap.size<=w.heap.size:=by have:=cC.lt;omega
 have e4:w.heap.size+2<W.heap.size:=cC.lt;clear ba ar bH b7 cC;refine fj (λb=>W.heap.size<=b) [(0,0),(2,3),(1,1),(3,1),(4,3),(5,2),(6,3)] ?_;refine pK ?_;refine pf ?_;refine sG ?_;generalize hV:World.drew (World.alloc _ _)=cQ;have e1:=jW hV;have co:Gr (λ_=>False) W.heap.size 133 3 cQ (some ⟨W.heap.size,0,none⟩) 0 0 []:=hV▸(Gr.lit (w:=W) (n:=0) (l:=[]) rfl (by rfl) ad (by simp only[D.aR])).aj Kf.drew;have d2:=j1 (bW.on (Fr.ext (bd.trans e1)));clear hV bZ;refine aP rfl (λK hK=>?_);rw[if_pos (by rfl)];refine lr ir (.tmp 16) (.tmp 17) (by rfl) co (kj (a5 p)) aQ.1 d2 (λh=>by subst h;exact Sl.none_ bW.o) (by rfl) (by rfl) ad ad e1.size ?_;intro bU cp aV bX f1 o1 c1;refine gu hK (f1.mono λb O=>ad) ?_;clear hK K;have e2:Ext W aV:=Fr.low (M:=λb=>W.heap.size<=b) ((e1.mono λ_ h=>h.elim).trans (f1.mono λb O=>ad)) λ_ h=>h;have cl:=λb O=>(bX.lt (g:=b) O)
 have eP:W.heap.size<=aV.heap.size:=e2.size;refine pf ?_;refine az rfl (λK hK=>?_);go_simp;generalize hV:World.alloc _ _=eO;have e3:=aY hV;have cU:=aF hV;refine eC hK ?_;clear hK K;refine pf ?_;refine aG ?_;have a4:=ae (bd.trans (e2.trans e3));have cj:=ae (bX.aj e3);have df:=ah.aj (e2.trans e3);have dS:=ae df;have bt:=ae (bv.aj (e2.trans e3));have bQ:=ae cU;have aH:w.heap.size+3<=aV.heap.size:=by have:=e2.size;have:=bv.lt;omega
 have bK:∀b,(Value.slice bU ln cp).ownBlock=some b->W.heap.size<=b/\b<aV.heap.size:=λb O=>cl b O;have ay:=ae bK;clear hV e1 co d2 bX f1 o1 c1 e2 e3 cU cl eH a0 al af bd ah bv bK;obtain⟨a0,al,af⟩:=df.two;clear df;generalize eK:aV.heap.size=g at *;go_upto_region 3 with(fail);generalize hV:World.alloc _ _=V;have T:=aY hV;have cZ:=aF hV;have dp:g<eO.heap.size:=bQ.lt;generalize d8:eO.heap.size=o at *;have S:=ae (show Gr (λ_=>False) W.heap.size 133 3 V bU ln cp ((a5 p).map bR)/\(Value.slice bU ln cp).ownBlock≠some g/\(Value.slice bU ln cp).ownBlock≠some o/\Ext w V/\au V (w.heap.size+1) 123 #[.string f.name,.slice PA pn pc,.slice cW bn bc]/\
   au V (w.heap.size+2) 103 #[.string ⟨#[]⟩,.int .i64 0,.int .i64 0,.int .i64 0,.slice none 0 0]/\au V g 191 #[.slice GA gn gc,.slice MA mn mc,.slice FA fn fc,.slice bU ln cp,.int .i64 0,.int .i64 0,.int .i64 0,.int .i64 0,.slice none 0 0,.slice none 0 0]/\au V o 103 #[.string f.name,.int .i64 0,.int .i64 0,.int .i64 0,.slice none 0 0] from
  ⟨cj.aj T,λO=>by have:=ay.o _ O;omega,λO=>by have:=ay.o _ O;omega,a4.trans T,dS.aj T,bt.aj T,bQ.aj T,cZ⟩)
 have eq:W.heap.size<=g:=ad;clear hV T cZ cj a4 dS bt bQ a0 al af ay eK d8;have aM:=ae eq;obtain⟨ct,bz,cu,dc,dj,cK,dO,eF⟩:=S.o;have dW:=ae (show Gr (λ_=>False) W.heap.size 133 3 V bU (ln+0) cp ((a5 p++dy (f.params.take 0) 0 0).map bR)/\(Value.slice bU (ln+0) cp).ownBlock≠some g/\(Value.slice bU (ln+0) cp).ownBlock≠some o/\Ext w V/\au V (w.heap.size+1) 123 #[.string f.name,.slice PA pn pc,.slice cW bn bc]/\au V (w.heap.size+2) 103 #[.string ⟨#[]⟩,.int .i64 0,.int .i64 0,.int .i64 0,.slice none 0 0]/\au V g 191 #[.slice GA gn gc,.slice MA mn mc,.slice FA fn fc,.slice bU (ln+0) cp,.int .i64 0,.int .i64 0,.int .i64 0,.int .i64 0,.slice none 0 0,.slice none 0 0]/\au V o 103 #[.string f.name,.int .i64 (b5 (f.params.take 0)),.int .i64 (bJ (f.params.take 0)),.int .i64 0,.slice none 0 0] from ⟨by simpa[dy] using ct,bz,cu,dc,dj,cK,dO,by simpa[b5,bJ] using eF⟩);clear ct bz cu dc dj cK dO eF;go_wp2
 go_loopw [12] (λcr wr=>∃(k:Nat) (A:Kj) (c:Nat),k<=pn/\cr=.int .i64 k/\Gr (λ_=>False) W.heap.size 133 3 wr A (ln+k) c ((a5 p++dy (f.params.take k) 0 0).map bR)/\(Value.slice A (ln+k) c).ownBlock≠some g/\(Value.slice A (ln+k) c).ownBlock≠some o/\Ext w wr/\au wr (w.heap.size+1) 123 #[.string f.name,.slice PA pn pc,.slice cW bn bc]/\au wr (w.heap.size+2) 103 #[.string ⟨#[]⟩,.int .i64 0,.int .i64 0,.int .i64 0,.slice none 0 0]/\au wr g 191 #[.slice GA gn gc,.slice MA mn mc,.slice FA fn fc,.slice A (ln+k) c,.int .i64 0,.int .i64 0,.int .i64 0,.int .i64 0,.slice none 0 0,.slice none 0 0]/\au wr o 103 #[.string f.name,.int .i64 (b5 (f.params.take k)),.int .i64 (bJ (f.params.take k)),.int .i64 0,.slice none 0 0]) (λcr _=>pn - (intOf cr).toNat)
 case atStart=>exact⟨0,bU,cp,ad,rfl,dW.o⟩
 case round=>
  obtain⟨k,A,c,aj,rfl,hG,dr,du,ar,b7,cC,cU,cZ⟩:=hrel;clear S dW;have bS:=ae hG;have cb:=ak dr du;obtain⟨bd,ah,bv,bQ,ci⟩:=BG ar b7 cC cU cZ;obtain⟨a0,al,af⟩:=b7.two;obtain⟨b0,am,aw⟩:=cU.two;have N:=ar.size;by_cases aq:k<pn
  .obtain⟨pb,db,q,cs,rfl,ch,bx,bA,a8,Z⟩:=(c5.on (Fr.ext ar)).iG p9 aq;obtain rfl:=mM.1 bA;have h0:=Z 0 _ rfl;have cv:=Z 1 _ rfl;simp only[JS] at h0;have a3:pb<wr.heap.size:=ch;have br:=ae bx;have ab:dg (a5 p++dy (f.params.take k) 0 0) q.1=none:=by
    refine ji λj x be hx=>?_;have aR:=(cw.funcs f dk.o).fresh;have ew:x.name∈(a5 p++dy (f.params.take k) 0 0).map (·.name):=J6.2 ⟨x,JL be,rfl⟩;rw[JP,fo,fi] at ew;have dP:f.params=f.params.take k++q::f.params.drop (k+1):=by
     have:=List.take_append_drop k f.params;rw[<-this];congr 1
     .rw[this]
     .rw[this,List.drop_eq_getElem?_toList_append,bx];rfl
    rw[dP,JP,JO,<-List.append_assoc,List.nodup_append] at aR;exact aR.2.2 _ ew q.1 (by simp) hx
   have bZ:=bS.sl (Q:=ao wr) (λb _ h=>h.elim) (λb h _=>h);have cc:=ae bZ;clear bA a8 Z ch bx hG dr du ar b7 cC cU cZ bZ;go_upto_region 6 with(fail);refine uU (λ_=>False) [10,15] (.free 0 (.free 1 (.free 2 (.held 3 (.free 4 (.held 5 (.free 6 (.free 7 (.free 8 (.held 9 (.pick [10,14] (λi=>bif i == 10 then .free 11 (.free 12 (.free 13 (.pick [14] (λ_=>.pick [15] (λ_=>.free 16 (.stop)))))) else .pick [10] (λ_=>.free 11 (.free 12 (.free 13 (.pick [15] (λ_=>.free 16 (.stop)))))))))))))))))) ?_
   iterate 3 refine tf ?_
   refine th ?_;refine tf ?_;refine th ?_
   iterate 3 refine tf ?_
   refine th ?_;refine kB (P:=?IJ) (ops:=?IW) (Q:=?IX) (R:=?IY) (tails:=?IZ) (rest:=.pick [15] (λ_=>.free 16 (.stop))) (aa:=?IK) (C:=λcS V=>Ext wr V/\au V cS 133 #[.string ⟨#[]⟩,.int .i64 0,.int .i64 0]/\wr.heap.size<=cS) (λkey=>?Hz) ?Ht
   case Hz=>
    refine b1 ?_ ?_
    ·
     refine ca rfl (λK hK=>?_) rfl;go_simp;refine(dC A (ln+k) c _ q.1 wr.drew (cc.on (Fr.ext Kf.drew)) ad).mono ?_;rintro e aL ⟨rfl,L⟩;rw[ab];simp only[ia];refine eC hK ?_;clear hK K
     iterate 3 refine tf ?_
     refine aB ?_;refine gX ?_;generalize hV:World.alloc _ _=V;have aK:=aF hV;have a9:Ext wr V:=hV▸(Fr.aL L).alloc _;exact Cp
    ·
     exact tL
   case Ht=>
    rintro cS V ⟨a9,b8,bm⟩;obtain⟨c0,bT,bw⟩:=b8.two;exact gN
  .obtain rfl:pn=k:=ad;rw[JQ (by rw[aQ.2];exact JI _)] at hG cZ;have cL:=ci.o;rw[JQ (by rw[aQ.2];exact JI _)] at cL;clear bS ci cZ;obtain⟨bS,ci⟩:=aI hG cL;obtain⟨c0,bT,bw⟩:=cL.two;clear hG dr du ar b7 cC cU cL;go_upto_region 15 with(fail);generalize hX:World.setCell _ _ _=X;have bM:=da hX;have m:au X g 191 #[.slice GA gn gc,.slice MA mn mc,.slice FA fn fc,.slice A (ln+pn) c,.int .i64 (b5 f.params),.int .i64 0,.int .i64 0,.int .i64 0,.slice none 0 0,.slice none 0 0]:=hX▸bQ.bH 4 _;have dq:w.heap.size<=g:=by have:=(aM.o:W.heap.size<=g);omega
   have bf:Ext w X:=Fr.low (M:=λb=>w.heap.size<=b) ((bd.mono λ_ h=>h.elim).trans (bM.mono λb O=>ad)) λ_ h=>h;have bG:=bS.ek (J:=X) bM.size λb aq hp=>bM.block b aq λhe=>by
    subst he;rcases hp with hp|hp
    .exact hp.elim
    .exact cb.1 hp
   have aO:∀b,ao w b->off (Ms g (.slice none 0 0) (.slice none 0 0)) X b:=λb O=>⟨JJ O bf.size,λhm=>by
    rcases hm with hm|hm|hm
    .have:b<w.heap.size:=O;omega
    .cases hm
    .cases hm⟩
   have dG:=(cF.al (J:=X) λb O=>bf.block b O λh=>h).mono aO;have y:=(b6.al (J:=X) λb O=>bf.block b O λh=>h).mono aO;have d0:=(dD.al (J:=X) λb O=>bf.block b O λh=>h).mono aO;have d3:Sl X (off (Ms g (.slice none 0 0) (.slice none 0 0)) X) A (ln+pn) ((a5 p++dy f.params 0 0).map bR):=by
    obtain⟨d7,xs,ac,ap⟩:=bG;exact Sl.oJ ac (sd ap) d7 λb bu _ aq=>⟨aq,λhm=>by
     rcases hm with hm|hm|hm
     .subst hm;exact cb.1 (by rw[bu];rfl)
     .cases hm
     .cases hm⟩
   have eo:cx X g (o+1) p.af p.funcs (a5 p++dy f.params 0 0) A (ln+pn) c (b5 f.params) 0 [] [] none 0 none 0:=
    ⟨⟨GA,gn,gc,MA,mn,mc,FA,fn,fc,m,ad,ad,dG,y⟩,⟨ad,by have:=bM.size;have:=bw;omega⟩,⟨ad,d3⟩,lu.nil _ _ _ _ _ _⟩
   have bI:=ah.on bM (by have:=(aM.o:W.heap.size<=g);omega);obtain⟨eA,ej,bl,eM⟩:=jF eo d0 bf bI;have ei:=ae (bv.on bM (by have:=(aM.o:W.heap.size<=g);omega));have em:=ae (ci.on bM ad);clear a0 al af b0 am aw c0 bT bw hX bM m bf bG aO dG y d0 d3 eo;obtain⟨a0,al,af⟩:=bI.two;clear bI;have e6:=lM f.params;have e7:=h1 f.params;have bi:=ae (show ∀b,Ms g (.slice none 0 0) (.slice none 0 0) b->w.heap.size<=b from λb hm=>by
    rcases hm with hm|hm|hm
    .omega
    .cases hm
    .cases hm)
   have dn:Sc (bp (hY p)) (kI p f) (a5 p++dy f.params 0 0) (gU p++hR f.params) (bF p++f.params.map (·.1)) (b5 f.params) (bJ f.params):=sV cw.o dk.o;have ez:(bp (hY p)).af=p.af:=by rw[mZ]
   have z:f.body.num<=64:=JZ (iA (λf:a1=>f.body.num) dk.o) cw.iN;have dd:=dz f.body 4 _ _ _ (b5 f.params) [] (cw.funcs f dk.o).body dn;have ce:(a5 p++dy f.params 0 0).length<=200:=by
    have ac:=aQ.1;rw[JM] at ac;have ap:=congrArg List.length (fi f.params 0 0);rw[JM,JM] at ap;have aD:=aQ.2;rw[JK,ac,ap];omega
   obtain⟨a6,dV,en,d4⟩:=jF dn dd ez ce;clear dn dd ez ce;go_wp2_with(fail);have bB:=aQ.2;have ce:=d4.o;refine(di (bp (hY p)) (bJ f.params) p.funcs f.body (kI p f) 4 _ _ _ (b5 f.params) 0 [] [] g (o+1) A (ln+pn) c none 0 none 0 cW bn bc X (cw.funcs f dk.o).body a6.o (CX cw.o dk.o) (λh an=>by have:=(cw.funcs h an).iN;omega) (by rw[en.o];exact eA.o) ej.o (by simp;omega) rfl ad ad ad).mono ?_;rintro e cy ⟨rfl,cg,cN,cz,cG,aW,bz,a7,bO⟩;have dd:=dV.o;rw[en.o] at a7;clear bB ce dV;generalize bx:ds f.body (a5 p++dy f.params 0 0) (b5 f.params) []=r at *;obtain⟨r1,c9⟩:=r;obtain⟨⟨gD,cV,dX,_⟩,bh,c6⟩:=dd;simp only[J8,J0] at bz a7 bO cV bh c6;have cB:r1.length<=128:=by rw[cV];omega
   have dx:∀b,b≠g->¬Ms g (.slice none 0 0) (.slice none 0 0) b:=λb O hm=>by
    rcases hm with hm|hm|hm
    .exact O hm
    .cases hm
    .cases hm
   obtain⟨dA,ea⟩:=ei.gW (dx _ (by have:=(aM.o:W.heap.size<=g);omega)) bO;obtain⟨c8,eb⟩:=em.gW (dx _ ad) bO;obtain⟨cf,eJ⟩:=aI a7 bO;obtain⟨fh,e0,eY,fl,fd,fa,ff,eW,eU,eh,_⟩:=a7.blk;have cT:=b9 dA ea c8 eb;have br:=b9 bx bz bh c6;clear a0 al af a7 bO dA c8 cV dX ea eb bx bz;obtain⟨b0,am,aw⟩:=eh.two;clear eh;clear bh c6 dx;go_wp2_with(fail);refine(gv cf.o m9 (f.body.num:Int) (iL (is:=[]) (ps:=[]) (Sl.c7 _) (Sl.c7 _) (JI _) (JI _)) ad (aC br.2.1)).mono ?_;rintro e cJ ⟨rfl,dv,dh,dE,dJ,cI,c4⟩;have dK:=ae cI;have cX:Mv g (.slice cg r1.length cN) (.slice cz aW.length cG) cy (.slice dv (r1++[m9]).length dh) (.slice dE (aW++[(f.body.num:Int)]).length dJ) cJ:=by rw[JK,JK];exact c4
   have dZ:=ae (eJ.trans cX);obtain⟨dA,ea⟩:=cT.1.gW cT.2.1 cX;obtain⟨c8,eb⟩:=cT.2.2.1.gW cT.2.2.2 cX;obtain⟨eD,eE⟩:=aI dA c8;obtain⟨fg,eZ,eX,fk,fb,e9,fe,eV,eT,cd,_⟩:=cI.blk;have el:=ae cd;clear cI c4 cX b0 am aw;obtain⟨b0,am,aw⟩:=cd.two;obtain⟨c0,bT,bw⟩:=c8.two;have es:¬g=o:=ad;clear cd c8 dA;go_wp2;refine fj (λb=>b=o) [(0,3),(1,3),(2,3),(3,0),(4,3),(5,3),(6,3),(7,0),(8,3),(9,1),(10,3),(11,2)] ?_
   iterate 3 refine pf ?_
   refine pK ?_
   iterate 3 refine pf ?_
   refine pK ?_;refine pf ?_;refine aP rfl (λK hK=>?_);go_simp;refine gu hK (CY cJ o 3 _) ?_;clear hK K;refine pf ?_;refine az rfl (λK hK=>?_);go_simp;refine eC hK ?_;clear hK K;refine aG ?_;generalize hX:World.setCell _ _ _=gz;have dN:=Hh hX;have dl:au gz o 103 #[.string f.name,.int .i64 (b5 f.params),.int .i64 (bJ f.params),.int .i64 c9,.slice dv (r1.length+1) dh]:=hX▸(eE.bH 3 _).bH 4 _;have d1:=el.on dN es;have dY:=eD.on dN (by have:=(aM.o:W.heap.size<=g);omega);obtain⟨dH,eN,dT⟩:=eS dN dl dY;clear hX dN b0 am aw c0 bT bw dY;obtain⟨b0,am,aw⟩:=d1.two;obtain⟨c0,bT,bw⟩:=dl.two;have e5:¬g=w.heap.size+2:=by have:=(aM.o:W.heap.size<=g);omega
   have e8:¬o=w.heap.size+2:=by have:=(aM.o:W.heap.size<=g);omega
   clear d1 dl;obtain⟨d6,dI,dM⟩:=dT.two;go_wp2;refine fj (λb=>b=w.heap.size+2) [(0,0),(1,3),(2,3),(3,3),(4,0),(5,3),(6,3),(7,3),(8,0),(9,3),(10,3),(11,3),(12,0),(13,1),(14,3),(15,3),(16,3)] ?_;refine EE ?_
   iterate 3 refine pf ?_
   refine EE ?_
   iterate 3 refine pf ?_
   refine EE ?_
   iterate 3 refine pf ?_
   refine EE ?_;refine aP rfl (λK hK=>?_);go_simp;generalize hX:World.setCell _ _ _=ed;obtain⟨cd,_,cq⟩:=bk (w:=w) [.string f.name,.int .i64 (b5 f.params),.int .i64 (bJ f.params),.int .i64 c9,.slice dv (r1.length+1) dh] (by rfl) dT.o (Fr.low (M:=λb=>w.heap.size<=b) ((bl.mono λ_ h=>h.elim).trans ((dZ.fr.mono λb hm=>bi.o b hm).trans (dH.mono λb O=>by have:=(aM.o:W.heap.size<=g);omega))) λ_ h=>h) (Nat.le_add_right _ _) hX;refine gu hK (sj (sj cq)) ?_;clear hK K
   iterate 3 refine pf ?_
   refine aG ?_;obtain⟨bL,eQ,eR⟩:=cd.two;have eB:=ak cq cd;clear b0 am aw c0 bT bw d6 dI dM hX cq cd;go_wp2;refine Ke (v:=.tuple #[.agg #[.string f.name,.int .i64 (b5 f.params),.int .i64 (bJ f.params),.int .i64 c9,.slice dv (r1.length+1) dh],.slice dE (aW.length+1) dJ,.int .i64 0,.int .i64 0]) (by simp[results,Tryz.results59,go_sem,bL]) rfl ?_;obtain⟨cq,cd⟩:=eB.o;have bm:=(aM.o:W.heap.size<=g)
   have eu:dQ p f=⟨f.name,b5 f.params,bJ f.params,c9,r1++[m9]⟩:=by
    unfold dQ;simp only[br.1]
   have d5:Ext w ed:=Fr.low (M:=λb=>w.heap.size<=b) ((bl.mono λ_ h=>h.elim).trans ((dZ.fr.mono λb hm=>bi.o b hm).trans ((dH.mono λb O=>ad).trans (cq.mono λb O=>ad)))) λ_ h=>h;have bV:=dK.rows.one;have b2:=bV.cap.1;have eG:Gr _ _ _ _ ed.drew.drew _ _ _ _:=(((bV.ek (J:=gz) dH.size λb aq hp=>dH.block b aq λhe=>by
    rcases hp with hp|hp
    .have:=hp.1;omega
    .have:=(bV.lt hp).1;omega).ek (J:=ed) cq.size λb aq hp=>cq.block b aq λhe=>by
    rcases hp with hp|hp
    .have:=hp.1;omega
    .have:=(bV.lt hp).1;omega).aj (Fr.refl _ ed).drew).aj (Fr.refl _ ed.drew).drew
   have ep:=eG.sl (Q:=fresh w ed.drew.drew) (λb ac ap=>⟨by have:=ap.1;omega,ac⟩) (λb ac ap=>⟨ad,ac⟩);rw[JK] at ep b2;refine⟨dv,r1.length+1,dh,dE,aW.length+1,dJ,by rw[eu],?_,d5.drew.drew⟩;rw[eu];exact w7.2 ⟨dv,r1.length+1,dh,rfl,b2,ep⟩
 ):p:=h
end A7
open A7 in
theorem rn(di:∀U nk F b,kP U nk F b)(p:bC)(hp:nE p)(f:a1)(aA:f∈p.funcs)(GA:Kj)(gn gc:Nat)(MA:Kj)(mn mc:Nat)(FA:Kj)(fn fc:Nat)(bo:Kj)(ln lc:Nat)(PA:Kj)(pn pc:Nat)(cW:Kj)(bn bc:Nat)(w:World)
  (h:fU w (ao w) p GA gn MA mn FA fn) (hl:Sl w (ao w) bo ln ((a5 p).map bR)) (b3:Sl w (ao w) PA pn (f.params.map dU)) (bE:Sl w (ao w) cW bn (dw f.body)) :
  Calls prog 59 #[.agg #[.slice GA gn gc,.slice MA mn mc,.slice FA fn fc],.slice bo ln lc,.agg #[.string f.name,.slice PA pn pc,.slice cW bn bc]] w (Hb w (dQ p f)):=by
 have aS:=h.g;have hm:=h.m;have bq:=h.f;have dB:p.globals.length=gn:=by rw[<-aS.1,JM]
 have lm:p.af.length=mn:=by rw[<-hm.1,JM]
 have lf:p.funcs.length=fn:=by rw[<-bq.1,JM]
 exact q4
end Go.Proofs.YtnigabjngpnbiaaGreat

/- Part 29 of the proof (LoJ), without conditions of its own. -/
import Derived.Test.YtjhgbdckgkppnaaGreatQ28
namespace Go.Proofs.YtjhgbdckgkppnaaGreat
open Go.RowKit Go.Proofs.Tryz
set_option maxRecDepth 1000000
set_option maxHeartbeats 25600000
set_option linter.unusedVariables false
variable{p:Prop}{w:World}
theorem Aw(w:World)(b i:Nat)(v:Value):Fr (fun k=>k=b) w.drew (w.setCell ⟨b,i,none⟩ v).drew:=
 have h:=(Fr.refl (fun k=>k=b) w).setCell (p:=⟨b,i,none⟩) (.inl rfl) v
 ⟨h.os,h.tape,h.output,h.size,h.block⟩
theorem ra{M:Nat→Prop}{ab:World}(h:Fr M w ab):Fr M w.drew ab.drew:=⟨h.os,h.tape,h.output,h.size,h.block⟩
theorem ou:∀(ps:List (ByteArray×Bool)) (q:ByteArray×Bool) (i k:Int),dC (ps++[q]) i k=dC ps i k++[if q.2 then ⟨q.1,5,k+bI ps⟩ else ⟨q.1,4,i+bX ps⟩]
 | [],(s,true),i,k=>by simp[dC,bI]
 | [],(s,false),i,k=>by simp[dC,bX]
 | (x,true)::ps,q,i,k=>by
  have:=(fU x true ps).2;have J:=(fU x true ps).1;rw[Gs,dC,dC,ou ps q i (k+1),this,J];simp
  split<;>simp<;>omega
 | (x,false)::ps,q,i,k=>by
  have:=(fU x false ps).2;have J:=(fU x false ps).1;rw[Gs,dC,dC,ou ps q (i+1) k,this,J];simp;split<;>simp<;>omega
theorem j8(ps:List (ByteArray×Bool))(q:ByteArray×Bool):bX (ps++[q])=bX ps+(if q.2 then 0 else 1)∧bI (ps++[q])=bI ps+(if q.2 then 1 else 0):=by
 obtain⟨s,b⟩:=q;cases b<;>simp[bX,bI]
theorem vh{P:Nat→Prop}{p:c5}{cs:List Value}:(fm p).rep w P cs↔∃A n c,cs=[.string p.name,.int .i64 p.ints,.int .i64 p.av,.int .i64 p.locals,.slice A n c]∧n≤c∧Sl w P A n (p.code.map dK):=by
 unfold fm;rw[bw,ca];constructor
 ·rintro⟨y,rfl,h⟩;exact Dk
 ·rintro⟨A,n,c,rfl,hc,hs⟩;exact⟨_,rfl,a9.2 ⟨_,rfl,a9.2 ⟨_,rfl,a9.2 ⟨_,rfl,aJ.2 ⟨A,n,c,[],rfl,hc,hs,aM.2 rfl⟩⟩⟩⟩⟩
def EG(w:World)(x:c5)(e:Ending)(ab:World):Prop:=∃(A:GR) (n c:Nat) (bI:GR) (bG bq:Nat),
 e=.returned (.tuple #[.agg #[.string x.name,.int .i64 x.ints,.int .i64 x.av,.int .i64 x.locals,.slice A n c],.slice bI bG bq,.int .i64 0,.int .i64 0])∧(fm x).rep ab (fresh w ab) [.string x.name,.int .i64 x.ints,.int .i64 x.av,.int .i64 x.locals,.slice A n c]∧Ext w ab
namespace y1
theorem pU(h:p:=by
 refine aD ?_;generalize ah:World.setCell _ _ _=eE;have aW:Fr (fun b=>b=o) cv eE:=ah▸((Fr.refl (fun b=>b=o) cv).setCell (.inl rfl) _).setCell (.inl rfl) _;have ds:ag eE o 85 #[.string f.name,.int .i64 (bX f.params),.int .i64 (bI f.params),.int .i64 gN,.slice cV (fg.length+1) bF]:=ah▸(eJ.aH 3 _).aH 4 _;have dZ:=ei.on aW es;have dX:=eI.on aW (by have:=(aP.o:W.heap.size≤g);omega);have dG:=ae aW;have eR:=ae ds;have dP:=ae dX;clear ah aW a7 am aE c0 bw a2 dX;obtain⟨a7,am,aE⟩:=dZ.two;obtain⟨c0,bw,a2⟩:=ds.two;have d7:¬g=w.heap.size+2:=by have:=(aP.o:W.heap.size≤g);omega
 have d9:¬o=w.heap.size+2:=by have:=(aP.o:W.heap.size≤g);omega
 clear dZ ds;obtain⟨dm,dH,dI⟩:=dP.two;go_wp2;refine eh (fun b=>b=w.heap.size+2) [(0,0),(1,3),(2,3),(3,3),(4,0),(5,3),(6,3),(7,3),(8,0),(9,3),(10,3),(11,3),(12,0),(13,1),(14,3),(15,3),(16,3)] ?_;refine Ci ?_
 iterate 3 refine pf ?_
 refine Ci ?_
 iterate 3 refine pf ?_
 refine Ci ?_
 iterate 3 refine pf ?_
 refine Ci ?_;refine aA rfl (fun K hK=>?_);go_simp;generalize ah:World.setCell _ _ _=ed;obtain⟨bD,_,cM⟩:=cx (w:=w) [.string f.name,.int .i64 (bX f.params),.int .i64 (bI f.params),.int .i64 gN,.slice cV (fg.length+1) bF] (by rfl) dP.o (Fr.low (M:=fun b=>w.heap.size≤b) ((be.mono fun _ h=>h.elim).trans ((df.fr.mono fun b hm=>de.o b hm).trans (dG.mono fun b O=>by have:=(aP.o:W.heap.size≤g);omega))) fun _ h=>h) (Nat.le_add_right _ _) ah;refine hK _ _ (ra (ra cM)) ?_;clear hK K
 try simp only[PU]
 iterate 3 refine pf ?_
 refine aD ?_;obtain⟨a4,eU,eV⟩:=bD.two;have eG:=ai cM bD;clear a7 am aE c0 bw a2 dm dH dI ah cM bD;go_wp2;refine GM (v:=.tuple #[.agg #[.string f.name,.int .i64 (bX f.params),.int .i64 (bI f.params),.int .i64 gN,.slice cV (fg.length+1) bF],.slice cY (bl.length+1) c7,.int .i64 0,.int .i64 0]) (by simp[results,Tryz.results78,go_sem,a4]) rfl ?_;obtain⟨cM,bD⟩:=eG.o;have a3:=(aP.o:W.heap.size≤g)
 have et:dR p f=⟨f.name,bX f.params,bI f.params,gN,fg++[lX]⟩:=by
  unfold dR;simp only[bT.1]
 have aN:Ext w ed:=Fr.low (M:=fun b=>w.heap.size≤b) ((be.mono fun _ h=>h.elim).trans ((df.fr.mono fun b hm=>de.o b hm).trans ((dG.mono fun b O=>ad).trans (cM.mono fun b O=>ad)))) fun _ h=>h;have cn:=c9.rows.one;have a6:=cn.cap.1;have eK:Gr _ _ _ _ ed.drew.drew _ _ _ _:=(((cn.cz (ab:=eE) dG.size fun b ao hp=>dG.block b ao fun he=>by
  rcases hp with hp|hp
  ·have:=hp.1;omega
  ·have:=(cn.lt hp).1;omega).cz (ab:=ed) cM.size fun b ao hp=>cM.block b ao fun he=>by
  rcases hp with hp|hp
  ·have:=hp.1;omega
  ·have:=(cn.lt hp).1;omega).al (Fr.refl _ ed).drew).al (Fr.refl _ ed.drew).drew
 have en:=eK.sl (Q:=fresh w ed.drew.drew) (fun b ac J=>⟨by have:=J.1;omega,ac⟩) (fun b ac J=>⟨ad,ac⟩);rw[Gd] at en a6;refine⟨cV,fg.length+1,bF,cY,bl.length+1,c7,by rw[et],?_,aN.drew.drew⟩;rw[et];exact vh.2 ⟨cV,fg.length+1,bF,rfl,a6,en⟩
 ):p:=h
theorem h6(h:p:=by
 refine aD ?_;clear a7 am aE;generalize ah:World.setCell _ _ _=X;have bV:Fr (fun b=>b=g) cy X:=ah▸(Fr.refl (fun b=>b=g) cy).setCell (.inl rfl) _;have bz:=bB.2.2.2.2.2.1.on bV ad;have z:ag X g 187 #[.slice GA gn gc,.slice MA mn mc,.slice FA fn fc,.slice A2 (ln+k+1) c2,.int .i64 0,.int .i64 0,.int .i64 0,.int .i64 0,.slice none 0 0,.slice none 0 0]:=ah▸bB.2.2.2.2.1.aH 3 _;have aU:=ai bV z;clear c0 bw a2 ah bV z;obtain⟨c0,bw,a2⟩:=bz.two;have dn:=ae bz;clear bz;have a8:=ll (f.params.take k);have u:=hE (f.params.take k);have f5:(f.params.take k).length≤2:=by rw[List.length_take];omega
 have d5:wrap64 (bX (f.params.take k)+1)=bX (f.params.take k)+1:=IntWalk.wrap64_in _ ad;go_upto_region 5 with(fail);generalize bH:World.setCell _ _ _=bE
 try rw[d5] at bH
 have aJ:Fr (fun b=>b=o) X bE:=bH▸(Fr.refl (fun b=>b=o) X).setCell (.inl rfl) _;obtain⟨an,ch,cT,cC,_,_,cE⟩:=bB.o;obtain⟨bV,z⟩:=aU.o;have a3:=(aP.o:W.heap.size≤g)
 have fg:Gr (fun _=>False) W.heap.size 149 3 bE A2 (ln+(k+1)) c2 ((bf p++dC (f.params.take (k+1)) 0 0).map bN):=by
  exact C7
 have gU:Ext w bE:=Fr.low (M:=fun b=>w.heap.size≤b) ((ch.mono fun _ h=>h.elim).trans ((bV.mono fun b O=>ad).trans (aJ.mono fun b O=>ad))) fun _ h=>h;have gV:=(cT.on bV ad).on aJ ad;have dw:=(cC.on bV ad).on aJ ad;have rg:=z.on aJ ad;have ro:ag bE o 85 #[.string f.name,.int .i64 (bX (f.params.take (k+1))),.int .i64 (bI (f.params.take (k+1))),.int .i64 0,.slice none 0 0]:=by
  rw[bo bT.o,(j8 _ _).1,(j8 _ _).2,bv,←bH];simpa using dn.aH 1 _
 exact Dl
 ):p:=h
theorem di(h:p:=by
 clear a7 am aE;generalize ah:World.setCell _ _ _=X;have bV:Fr (fun b=>b=g) cy X:=ah▸(Fr.refl (fun b=>b=g) cy).setCell (.inl rfl) _;have bz:=bB.2.2.2.2.2.1.on bV ad;have z:ag X g 187 #[.slice GA gn gc,.slice MA mn mc,.slice FA fn fc,.slice A2 (ln+k+1) c2,.int .i64 0,.int .i64 0,.int .i64 0,.int .i64 0,.slice none 0 0,.slice none 0 0]:=ah▸bB.2.2.2.2.1.aH 3 _;have aU:=ai bV z;clear c0 bw a2 ah bV z;obtain⟨c0,bw,a2⟩:=bz.two;have dn:=ae bz;clear bz;have a8:=ll (f.params.take k);have u:=hE (f.params.take k);have f5:(f.params.take k).length≤2:=by rw[List.length_take];omega
 have d5:wrap64 (bI (f.params.take k)+1)=bI (f.params.take k)+1:=IntWalk.wrap64_in _ ad;go_upto_region 5 with(fail);generalize bH:World.setCell _ _ _=bE
 try rw[d5] at bH
 have aJ:Fr (fun b=>b=o) X bE:=bH▸(Fr.refl (fun b=>b=o) X).setCell (.inl rfl) _;obtain⟨an,ch,cT,cC,_,_,cE⟩:=bB.o;obtain⟨bV,z⟩:=aU.o;have a3:=(aP.o:W.heap.size≤g)
 have fg:Gr (fun _=>False) W.heap.size 149 3 bE A2 (ln+(k+1)) c2 ((bf p++dC (f.params.take (k+1)) 0 0).map bN):=by
  exact C7
 have gU:Ext w bE:=Fr.low (M:=fun b=>w.heap.size≤b) ((ch.mono fun _ h=>h.elim).trans ((bV.mono fun b O=>ad).trans (aJ.mono fun b O=>ad))) fun _ h=>h;have gV:=(cT.on bV ad).on aJ ad;have dw:=(cC.on bV ad).on aJ ad;have rg:=z.on aJ ad;have ro:ag bE o 85 #[.string f.name,.int .i64 (bX (f.params.take (k+1))),.int .i64 (bI (f.params.take (k+1))),.int .i64 0,.slice none 0 0]:=by
  rw[bo bT.o,(j8 _ _).1,(j8 _ _).2,bv,←bH];simpa using dn.aH 2 _
 exact Dl
 ):p:=h
theorem gz(h:p:=by
 refine tf ?_;refine bU ?_;generalize cb:World.setCell _ _ _=Y;obtain⟨_,s,_⟩:=mq bP S a3 cb;have ek:=ae (bh.trans s);have m:=L.al s;have eg:=ae m;have dF:=ae (N.al s);have cf:=bG.al s;have bt:=cj.al s;have dd:=ae (bQ.al s);replace h0:=(s.cell bS (fun h=>h)).trans h0
 replace co:=(s.cell bS (fun h=>h)).trans co
 have cF:=s.size;replace bS:eN<Y.heap.size:=Gc bS cF
 clear cb c0 bw a2 bP S a3 s a0 al af a7 am aE bG cj;have bG:=ae cf;have cj:=ae bt;obtain⟨a0,al,af⟩:=m.two;obtain⟨a7,am,aE⟩:=cf.two;obtain⟨c0,bw,a2⟩:=bt.two;clear m cf bt;have dj:¬Y.heap.size≤g:=ad;have ev:¬Y.heap.size≤o:=ad;have er:¬Y.heap.size≤w.heap.size+1:=ad;have ew:¬Y.heap.size≤eN:=ad
 cases bv:q.2 with
 | true=>
  rw[bv] at co;go_wp2;refine eh (fun b=>Y.heap.size≤b) [(0,3),(1,3),(2,3),(3,3),(4,0),(5,3),(6,0),(7,3),(8,3),(9,3),(10,0),(11,3),(12,0),(13,3),(14,1),(15,2),(16,3),(17,3),(18,2)] ?_
  iterate 4 refine pf ?_
  refine ow ?_;refine pf ?_;refine ow ?_
  iterate 3 refine pf ?_
  refine ow ?_;refine pf ?_;refine ow ?_;refine pf ?_;refine rC ?_;generalize hV:World.drew (World.alloc _ _)=cS;have e1:Ext Y cS:=hV▸(GN.alloc _).drew;have cZ:ag cS Y.heap.size 149 #[.string q.1,.int .i64 5,.int .i64 (bI (f.params.take k))]:=hV▸(GO).drew;clear hV;refine ax rfl (fun K hK=>?_);rw[if_pos (by rfl)];refine d8 ib (.tmp 57) (.tmp 67) (by rfl) (dd.al e1) cZ (iV ⟨q.1,5,bI (f.params.take k)⟩) (by rfl) (by rfl) (by rfl) ad ad (aB e1.size) ?_;intro A2 c2 cy an aq b3 ce;have ch:Ext w cy:=Fr.low (M:=fun b=>w.heap.size≤b) (((ek.trans e1).mono fun _ h=>h.elim).trans (aq.mono fun b O=>by have:=(dd.lt O).1;omega)) fun _ h=>h;have I:∀b,(Value.slice A (ln+k) c).ownBlock=some b→W.heap.size≤b∧b≠g∧b≠o:=fun b O=>⟨(dd.lt O).1,fun e=>by subst e;exact bm.1 O,fun e=>by subst e;exact bm.2 O⟩
  have cT:=(eg.al e1).on aq fun O=>by have:=(I _ O).1;omega
  have cC:=(dF.al e1).on aq fun O=>by have:=(I _ O).1;omega
  have kg:=(bG.al e1).on aq fun O=>(I _ O).2.1 rfl;have eb:=(cj.al e1).on aq fun O=>(I _ O).2.2 rfl;have cE:(Value.slice A2 (ln+k+1) c2).ownBlock≠some g∧(Value.slice A2 (ln+k+1) c2).ownBlock≠some o:=by
   exact Dq
  have bB:=gK an ch cT cC kg eb cE;clear an aq b3 ch I cT cC cE a0 al af a7 am aE c0 bw a2 e1 cZ h0 co bS dj ev er ew;obtain⟨a7,am,aE⟩:=kg.two;obtain⟨c0,bw,a2⟩:=eb.two;clear kg eb;refine hK _ _ ?_;clear hK K
  try simp only[PU]
  iterate 2 refine pf ?_
  exact dN
 | false=>
  rw[bv] at co;go_wp2;refine eh (fun b=>Y.heap.size≤b) [(0,3),(1,3),(2,3),(3,3),(4,0),(5,3),(6,0),(7,3),(8,3),(9,3),(10,0),(11,3),(12,0),(13,3),(14,1),(15,2),(16,3),(17,3),(18,2)] ?_
  iterate 4 refine pf ?_
  refine ow ?_;refine pf ?_;refine ow ?_
  iterate 3 refine pf ?_
  refine ow ?_;refine pf ?_;refine ow ?_;refine pf ?_;refine rC ?_;generalize hV:World.drew (World.alloc _ _)=cS;have e1:Ext Y cS:=hV▸(GN.alloc _).drew;have cZ:ag cS Y.heap.size 149 #[.string q.1,.int .i64 4,.int .i64 (bX (f.params.take k))]:=hV▸(GO).drew;clear hV;refine ax rfl (fun K hK=>?_);rw[if_pos (by rfl)];refine d8 ib (.tmp 79) (.tmp 89) (by rfl) (dd.al e1) cZ (iV ⟨q.1,4,bX (f.params.take k)⟩) (by rfl) (by rfl) (by rfl) ad ad (aB e1.size) ?_;intro A2 c2 cy an aq b3 ce;have ch:Ext w cy:=Fr.low (M:=fun b=>w.heap.size≤b) (((ek.trans e1).mono fun _ h=>h.elim).trans (aq.mono fun b O=>by have:=(dd.lt O).1;omega)) fun _ h=>h;have I:∀b,(Value.slice A (ln+k) c).ownBlock=some b→W.heap.size≤b∧b≠g∧b≠o:=fun b O=>⟨(dd.lt O).1,fun e=>by subst e;exact bm.1 O,fun e=>by subst e;exact bm.2 O⟩
  have cT:=(eg.al e1).on aq fun O=>by have:=(I _ O).1;omega
  have cC:=(dF.al e1).on aq fun O=>by have:=(I _ O).1;omega
  have kg:=(bG.al e1).on aq fun O=>(I _ O).2.1 rfl;have eb:=(cj.al e1).on aq fun O=>(I _ O).2.2 rfl;have cE:(Value.slice A2 (ln+k+1) c2).ownBlock≠some g∧(Value.slice A2 (ln+k+1) c2).ownBlock≠some o:=by
   exact Dq
  have bB:=gK an ch cT cC kg eb cE;clear an aq b3 ch I cT cC cE a0 al af a7 am aE c0 bw a2 e1 cZ h0 co bS dj ev er ew;obtain⟨a7,am,aE⟩:=kg.two;obtain⟨c0,bw,a2⟩:=eb.two;clear kg eb;refine hK _ _ ?_;clear hK K
  try simp only[PU]
  iterate 2 refine pf ?_
  exact h5
 ):p:=h
theorem sF(h:p:=by
 exact key wr.heap.size aH ⟨aI,cw,Gb _⟩
 ):p:=h
theorem sq(h:p:=by
 have S:Ext wr V:=hV▸(Fr.aE ar).alloc _;exact zW
 ):p:=h
theorem iT(h:p:=by
 have bL:ag W w.heap.size 27 #[.slice GA gn gc,.slice MA mn mc,.slice FA fn fc]:=bg▸((GO).alloc _).alloc _;have ca:ag W (w.heap.size+1) 140 #[.string f.name,.slice PA pn pc,.slice f4 bn bc]:=bg▸(ag.bR _ _ _ (by simp)).alloc _;have cq:ag W (w.heap.size+2) 85 #[.string ⟨#[]⟩,.int .i64 0,.int .i64 0,.int .i64 0,.slice none 0 0]:=bg▸ag.bR _ _ _ (by simp);have cH:=av.size;have bh:=ae av;have L:=ae ca;have N:=ae cq;have ck:=jC ((b0.on (Fr.ext av)).on (Fr.ext (Fr.refl _ W).drew));obtain⟨a0,al,af⟩:=bL.two;have eM:¬W.heap.size≤w.heap.size:=by have:=cq.lt;omega
 have dg:w.heap.size+2<W.heap.size:=cq.lt;clear bg av bL ca cq;refine eh (fun b=>W.heap.size≤b) [(0,0),(2,3),(1,1),(3,1),(4,3),(5,2),(6,3)] ?_;refine ow ?_;refine pf ?_;refine rC ?_;generalize hV:World.drew (World.alloc _ _)=c3;have e1:Ext W c3:=hV▸(GN.alloc _).drew;have b5:Gr (fun _=>False) W.heap.size 149 3 c3 (some ⟨W.heap.size,0,none⟩) 0 0 []:=hV▸(Gr.lit (w:=W) (n:=0) (l:=[]) rfl (by rfl) ad (by simp only[D.aL])).al GN.drew;have d0:=jC (b0.on (Fr.ext (bh.trans e1)));clear hV ck;refine aA rfl (fun K hK=>?_);rw[if_pos (by rfl)];refine f9 ib (.tmp 16) (.tmp 17) (by rfl) b5 (jW (bf p)) aK.1 d0 (fun h=>by subst h;exact Sl.none_ b0.o) (by rfl) (by rfl) ad ad e1.size ?_;intro aX cm aQ b4 aF dS c1;refine hK _ _ (aF.mono fun b O=>ad) ?_;clear hK K
 try simp only[PU]
 have e2:Ext W aQ:=Fr.low (M:=fun b=>W.heap.size≤b) ((e1.mono fun _ h=>h.elim).trans (aF.mono fun b O=>ad)) fun _ h=>h;have T:=fun b O=>(b4.lt (g:=b) O)
 have eS:W.heap.size≤aQ.heap.size:=e2.size;refine pf ?_;refine ax rfl (fun K hK=>?_);go_simp;generalize hV:World.alloc _ _=ec;have e3:Ext aQ ec:=hV▸GN.alloc _;have cf:ag ec aQ.heap.size 187 #[.slice GA gn gc,.slice MA mn mc,.slice FA fn fc,.slice aX ln cm,.int .i64 0,.int .i64 0,.int .i64 0,.int .i64 0,.slice none 0 0,.slice none 0 0]:=hV▸GO;refine hK _ _ ?_;clear hK K
 try simp only[PU]
 refine pf ?_;refine aD ?_;have b6:=ae (bh.trans (e2.trans e3));have az:=ae (b4.al e3);have dp:=L.al (e2.trans e3);have dO:=ae dp;have bk:=ae (N.al (e2.trans e3));have bG:=ae cf;have bZ:w.heap.size+3≤aQ.heap.size:=by have:=e2.size;have:=N.lt;omega
 have cr:∀b,(Value.slice aX ln cm).ownBlock=some b→W.heap.size≤b∧b<aQ.heap.size:=fun b O=>T b O;have aO:=ae cr;clear hV e1 b5 d0 b4 aF dS c1 e2 e3 cf T eM a0 al af bh L N cr;obtain⟨a0,al,af⟩:=dp.two;clear dp;generalize eO:aQ.heap.size=g at *;go_upto_region 3 with(fail);generalize hV:World.alloc _ _=V;have t:Ext ec V:=hV▸GN.alloc _;have bt:ag V ec.heap.size 85 #[.string f.name,.int .i64 0,.int .i64 0,.int .i64 0,.slice none 0 0]:=hV▸GO;have da:g<ec.heap.size:=bG.lt;generalize eP:ec.heap.size=o at *;have aL:=ae (show Gr (fun _=>False) W.heap.size 149 3 V aX ln cm ((bf p).map bN)∧(Value.slice aX ln cm).ownBlock≠some g∧(Value.slice aX ln cm).ownBlock≠some o∧Ext w V∧ag V (w.heap.size+1) 140 #[.string f.name,.slice PA pn pc,.slice f4 bn bc]∧
   ag V (w.heap.size+2) 85 #[.string ⟨#[]⟩,.int .i64 0,.int .i64 0,.int .i64 0,.slice none 0 0]∧ag V g 187 #[.slice GA gn gc,.slice MA mn mc,.slice FA fn fc,.slice aX ln cm,.int .i64 0,.int .i64 0,.int .i64 0,.int .i64 0,.slice none 0 0,.slice none 0 0]∧ag V o 85 #[.string f.name,.int .i64 0,.int .i64 0,.int .i64 0,.slice none 0 0] from
  ⟨az.al t,fun O=>by have:=aO.o _ O;omega,fun O=>by have:=aO.o _ O;omega,b6.trans t,dO.al t,bk.al t,bG.al t,bt⟩)
 have eo:W.heap.size≤g:=ad;clear hV t bt az b6 dO bk bG a0 al af aO eO eP;have aP:=ae eo;obtain⟨b7,bK,cB,dJ,fE,bA,ex,dk⟩:=aL.o;have dW:=ae (show Gr (fun _=>False) W.heap.size 149 3 V aX (ln+0) cm ((bf p++dC (f.params.take 0) 0 0).map bN)∧(Value.slice aX (ln+0) cm).ownBlock≠some g∧(Value.slice aX (ln+0) cm).ownBlock≠some o∧Ext w V∧ag V (w.heap.size+1) 140 #[.string f.name,.slice PA pn pc,.slice f4 bn bc]∧ag V (w.heap.size+2) 85 #[.string ⟨#[]⟩,.int .i64 0,.int .i64 0,.int .i64 0,.slice none 0 0]∧ag V g 187 #[.slice GA gn gc,.slice MA mn mc,.slice FA fn fc,.slice aX (ln+0) cm,.int .i64 0,.int .i64 0,.int .i64 0,.int .i64 0,.slice none 0 0,.slice none 0 0]∧ag V o 85 #[.string f.name,.int .i64 (bX (f.params.take 0)),.int .i64 (bI (f.params.take 0)),.int .i64 0,.slice none 0 0] from ⟨by simpa [dC] using b7,bK,cB,dJ,fE,bA,ex,by simpa [bX,bI] using dk⟩);clear b7 bK cB dJ fE bA ex dk;go_wp2
 go_loopw [12] (fun cp wr=>∃(k:Nat) (A:GR) (c:Nat),k≤pn∧cp=.int .i64 k∧Gr (fun _=>False) W.heap.size 149 3 wr A (ln+k) c ((bf p++dC (f.params.take k) 0 0).map bN)∧(Value.slice A (ln+k) c).ownBlock≠some g∧(Value.slice A (ln+k) c).ownBlock≠some o∧Ext w wr∧ag wr (w.heap.size+1) 140 #[.string f.name,.slice PA pn pc,.slice f4 bn bc]∧ag wr (w.heap.size+2) 85 #[.string ⟨#[]⟩,.int .i64 0,.int .i64 0,.int .i64 0,.slice none 0 0]∧ag wr g 187 #[.slice GA gn gc,.slice MA mn mc,.slice FA fn fc,.slice A (ln+k) c,.int .i64 0,.int .i64 0,.int .i64 0,.int .i64 0,.slice none 0 0,.slice none 0 0]∧ag wr o 85 #[.string f.name,.int .i64 (bX (f.params.take k)),.int .i64 (bI (f.params.take k)),.int .i64 0,.slice none 0 0]) (fun cp _=>pn - (intOf cp).toNat)
 case atStart=>exact⟨0,aX,cm,ad,rfl,dW.o⟩
 case round=>
  obtain⟨k,A,c,ap,rfl,bR,du,dv,av,ca,cq,cf,bt⟩:=hrel;clear aL dW;have bQ:=ae bR;have bm:=ai du dv;have bh:=ae av;have L:=ae ca;have N:=ae cq;have bG:=ae cf;have cj:=ae bt;obtain⟨a0,al,af⟩:=ca.two;obtain⟨a7,am,aE⟩:=cf.two;have y:=av.size;by_cases ao:k<pn
  ·obtain⟨eN,gO,q,cs,rfl,eL,bu,bq,a1,Z⟩:=(gl.on (Fr.ext av)).fJ lV ao;obtain rfl:=jA.1 bq;have h0:=Z 0 _ rfl;have co:=Z 1 _ rfl;simp only[Gl] at h0;have bS:eN<wr.heap.size:=eL;have bT:=ae bu;have ay:dh (bf p++dC (f.params.take k) 0 0) q.1=none:=by
    refine iW fun j x ba hx=>?_;have cl:=(b9.funcs f dc.o).fresh;have dK:x.name∈(bf p++dC (f.params.take k) 0 0).map (·.name):=GD.2 ⟨x,Ge ba,rfl⟩;rw[Gi,e5,eZ] at dK;have dL:f.params=f.params.take k++q::f.params.drop (k+1):=by
     have:=List.take_append_drop k f.params;rw[←this];congr 1
     ·rw[this]
     ·rw[this,List.drop_eq_getElem?_toList_append,bu];rfl
    rw[dL,Gi,Gh,←Gq,List.nodup_append] at cl;exact cl.2.2 _ dK q.1 (by simp) hx
   have ck:=bQ.sl (Q:=au wr) (fun b _ h=>h.elim) (fun b h _=>h);have b8:=ae ck;clear bq a1 Z eL bu bR du dv av ca cq cf bt ck;go_upto_region 6 with(fail);refine o2 (fun _=>False) [10,15] (.free 0 (.free 1 (.free 2 (.held 3 (.free 4 (.held 5 (.free 6 (.free 7 (.free 8 (.held 9 (.pick [10,14] (fun i=>bif i == 10 then .free 11 (.free 12 (.free 13 (.pick [14] (fun _=>.pick [15] (fun _=>.free 16 (.stop)))))) else .pick [10] (fun _=>.free 11 (.free 12 (.free 13 (.pick [15] (fun _=>.free 16 (.stop)))))))))))))))))) ?_
   iterate 3 refine tf ?_
   refine th ?_;refine tf ?_;refine th ?_
   iterate 3 refine tf ?_
   refine th ?_;refine iL (P:=?ep) (ops:=?ez) (Q:=?eA) (R:=?eB) (tails:=?eC) (rest:=.pick [15] (fun _=>.free 16 (.stop))) (aa:=?eq) (C:=fun cG V=>Ext wr V∧ag V cG 149 #[.string ⟨#[]⟩,.int .i64 0,.int .i64 0]∧wr.heap.size≤cG) (fun key=>?dD) ?dB
   case dD=>
    refine aR ?_ ?_
    ·
     refine aY rfl (fun K hK=>?_) rfl;go_simp;refine(c8 A (ln+k) c _ q.1 wr.drew (b8.on (Fr.ext GN.drew)) ad).mono ?_;rintro e aH ⟨rfl,ar⟩;rw[ay];simp only[gM];exact so
    ·
     refine dU ?_;refine ak ?_;refine aY rfl (fun K hK=>?_) rfl;go_simp;generalize hV:World.alloc _ _=V;have aT:ag V wr.heap.size 149 #[.string ⟨#[]⟩,.int .i64 0,.int .i64 0]:=hV▸GO;have S:Ext wr V:=hV▸GN.alloc _;clear hV;refine(c8 A (ln+k) c _ q.1 V.drew (b8.on (Fr.ext S.drew)) ad).mono ?_;rintro e aH ⟨rfl,ar⟩;rw[ay];simp only[gM];exact sE
   case dB=>
    rintro cG V ⟨S,bP,a3⟩;obtain⟨c0,bw,a2⟩:=bP.two;exact gy
  ·obtain rfl:pn=k:=ad;rw[Gj (by rw[aK.2];exact Gb _)] at bR bt;have c6:=cj.o;rw[Gj (by rw[aK.2];exact Gb _)] at c6;clear bQ cj bt;have bQ:=ae bR;have cj:=ae c6;obtain⟨c0,bw,a2⟩:=c6.two;clear bR du dv av ca cq cf c6;go_upto_region 15 with(fail);generalize ah:World.setCell _ _ _=X;have bV:Fr (fun b=>b=g) wr X:=ah▸(Fr.refl (fun b=>b=g) wr).setCell (.inl rfl) _;have z:ag X g 187 #[.slice GA gn gc,.slice MA mn mc,.slice FA fn fc,.slice A (ln+pn) c,.int .i64 (bX f.params),.int .i64 0,.int .i64 0,.int .i64 0,.slice none 0 0,.slice none 0 0]:=ah▸bG.aH 4 _;have dV:w.heap.size≤g:=by have:=(aP.o:W.heap.size≤g);omega
   have br:Ext w X:=Fr.low (M:=fun b=>w.heap.size≤b) ((bh.mono fun _ h=>h.elim).trans (bV.mono fun b O=>ad)) fun _ h=>h;have cO:=bQ.cz (ab:=X) bV.size fun b ao hp=>bV.block b ao fun he=>by
    subst he;rcases hp with hp|hp
    ·exact hp.elim
    ·exact bm.1 hp
   have bd:∀b,au w b→off (Ms g (.slice none 0 0) (.slice none 0 0)) X b:=fun b O=>⟨Gc O br.size,fun hm=>by
    rcases hm with hm|hm|hm
    ·have:b<w.heap.size:=O;omega
    ·cases hm
    ·cases hm⟩
   have cX:=(dr.ao (ab:=X) fun b O=>br.block b O fun h=>h).mono bd;have cz:=(bW.ao (ab:=X) fun b O=>br.block b O fun h=>h).mono bd;have dY:=(dE.ao (ab:=X) fun b O=>br.block b O fun h=>h).mono bd;have d1:Sl X (off (Ms g (.slice none 0 0) (.slice none 0 0)) X) A (ln+pn) ((bf p++dC f.params 0 0).map bN):=by
    obtain⟨d4,xs,ac,J⟩:=cO;exact Sl.om ac (q7 J) d4 fun b bb _ ao=>⟨ao,fun hm=>by
     rcases hm with hm|hm|hm
     ·subst hm;exact bm.1 (by rw[bb];rfl)
     ·cases hm
     ·cases hm⟩
   have em:cu X g (o+1) p.af p.funcs (bf p++dC f.params 0 0) A (ln+pn) c (bX f.params) 0 [] [] none 0 none 0:=
    ⟨⟨GA,gn,gc,MA,mn,mc,FA,fn,fc,z,ad,ad,cX,cz⟩,⟨ad,by have:=bV.size;have:=a2;omega⟩,⟨ad,d1⟩,jO.nil _ _ _ _ _ _⟩
   have bx:=L.on bV (by have:=(aP.o:W.heap.size≤g);omega);have eF:=ae em;have ef:=ae dY;have be:=ae br;have eQ:=ae bx;have ee:=ae (N.on bV (by have:=(aP.o:W.heap.size≤g);omega));have ej:=ae (cj.on bV ad);clear a0 al af a7 am aE c0 bw a2 ah bV z br cO bd cX cz dY d1 em;obtain⟨a0,al,af⟩:=bx.two;clear bx;have e9:=ll f.params;have fa:=hE f.params;have de:=ae (show ∀b,Ms g (.slice none 0 0) (.slice none 0 0) b→w.heap.size≤b from fun b hm=>by
    rcases hm with hm|hm|hm
    ·omega
    ·cases hm
    ·cases hm)
   have dt:Sc (bs (eH p)) (gL p f) (bf p++dC f.params 0 0) (eD p++cc f.params) (a5 p++f.params.map (·.1)) (bX f.params) (bI f.params):=rL b9.o dc.o;have ey:(bs (eH p)).af=p.af:=by rw[mG]
   have aC:f.body.num≤64:=Gu (iq (fun f:aG=>f.body.num) dc.o) b9.ir;have cU:=dQ f.body 4 _ _ _ (bX f.params) [] (b9.funcs f dc.o).body dt;have cR:(bf p++dC f.params 0 0).length≤200:=by
    have ac:=aK.1;rw[Gf] at ac;have J:=congrArg List.length (eZ f.params 0 0);rw[Gf,Gf] at J;have aS:=aK.2;rw[Gd,ac,J];omega
   have aV:=ae dt;have dT:=ae cU;have el:=ae ey;have d2:=ae cR;clear dt cU ey cR;go_wp2_with (fail);have cd:=aK.2;have cR:=d2.o;refine(dq (bs (eH p)) (bI f.params) p.funcs f.body (gL p f) 4 _ _ _ (bX f.params) 0 [] [] g (o+1) A (ln+pn) c none 0 none 0 f4 bn bc X (b9.funcs f dc.o).body aV.o (Au b9.o dc.o) (fun h aj=>by have:=(b9.funcs h aj).ir;omega) (by rw[el.o];exact eF.o) ef.o (by simp;omega) rfl ad ad ad).mono ?_;rintro e cJ ⟨rfl,bM,bY,ci,cD,bl,bK,cg,c4⟩;have cU:=dT.o;rw[el.o] at cg;clear cd cR dT;generalize bu:b2 f.body (bf p++dC f.params 0 0) (bX f.params) []=r at *;obtain⟨fg,gN⟩:=r;obtain⟨⟨eT,cQ,dy,_⟩,a9,cA⟩:=cU;simp only[GG,Gv] at bK cg c4 cQ a9 cA;have cK:fg.length≤128:=by rw[cQ];omega
   have dx:∀b,b≠g→¬Ms g (.slice none 0 0) (.slice none 0 0) b:=fun b O hm=>by
    rcases hm with hm|hm|hm
    ·exact O hm
    ·cases hm
    ·cases hm
   obtain⟨dz,d6⟩:=ee.ch (dx _ (by have:=(aP.o:W.heap.size≤g);omega)) c4;obtain⟨dl,ea⟩:=ej.ch (dx _ ad) c4;have ct:=ae cg;have d3:=ae c4;obtain⟨fk,e8,e6,fm,ff,fd,fi,e0,eX,gk,_⟩:=cg.blk;have cI:=bO dz d6 dl ea;have bT:=bO bu bK a9 cA;clear a0 al af cg c4 dz dl cQ dy d6 ea bu bK;obtain⟨a7,am,aE⟩:=gk.two;clear gk;clear a9 cA dx;go_wp2_with (fail);refine(fu ct.o lX (f.body.num:Int) (g0 (is:=[]) (ps:=[]) (Sl.bu _) (Sl.bu _) (Gb _) (Gb _)) ad (aB bT.2.1)).mono ?_;rintro e cv ⟨rfl,cV,bF,cY,c7,cP,c5⟩;have c9:=ae cP;have db:Mv g (.slice bM fg.length bY) (.slice ci bl.length cD) cJ (.slice cV (fg++[lX]).length bF) (.slice cY (bl++[(f.body.num:Int)]).length c7) cv:=by rw[Gd,Gd];exact c5
   have df:=ae (d3.trans db);obtain⟨dz,d6⟩:=cI.1.ch cI.2.1 db;obtain⟨dl,ea⟩:=cI.2.2.1.ch cI.2.2.2 db;have eI:=ae dz;have eJ:=ae dl;obtain⟨fj,e7,e4,fl,fe,fb,fh,eY,eW,bD,_⟩:=cP.blk;have ei:=ae bD;clear cP c5 db a7 am aE;obtain⟨a7,am,aE⟩:=bD.two;obtain⟨c0,bw,a2⟩:=dl.two;have es:¬g=o:=ad;clear bD dl dz;go_wp2;refine eh (fun b=>b=o) [(0,3),(1,3),(2,3),(3,0),(4,3),(5,3),(6,3),(7,0),(8,3),(9,1),(10,3),(11,2)] ?_
   iterate 3 refine pf ?_
   refine ow ?_
   iterate 3 refine pf ?_
   refine ow ?_;refine pf ?_;refine aA rfl (fun K hK=>?_);go_simp;refine hK _ _ (Aw cv o 3 _) ?_;exact sj
 ):p:=h
theorem pY(h:p:=by
 have eu:((bf p).map bN).length=ln:=hl.1;have bJ:ln≤100:=by rw[←hl.1,Gf,jT];omega
 have cd:f.params.length=pn:=by rw[←bi.1,Gf]
 have gm:pn≤2:=by have:=(hp.funcs f aw).ir;omega
 have b9:=ae hp;have dc:=ae aw;have dr:=ae hm;have bW:=ae bp;have b0:=ae hl;have gl:=ae bi;have dE:=ae b1;have aK:=ai eu cd;clear h aM hm bp hl bi b1 hp aw dA lm lf eu cd;go_enter func78,ntmps78;exact iS
 ):p:=h
end y1
open y1 in
theorem qf(dq:∀U nk F b,kT U nk F b)(p:bC)(hp:mU p)(f:aG)(aw:f∈p.funcs)(GA:GR)(gn gc:Nat)(MA:GR)(mn mc:Nat)(FA:GR)(fn fc:Nat)(bj:GR)(ln lc:Nat)(PA:GR)(pn pc:Nat)(f4:GR)(bn bc:Nat)(w:World)
  (h:gr w (au w) p GA gn MA mn FA fn) (hl:Sl w (au w) bj ln ((bf p).map bN)) (bi:Sl w (au w) PA pn (f.params.map cW)) (b1:Sl w (au w) f4 bn (cL f.body)) :
  Calls prog 78 #[.agg #[.slice GA gn gc,.slice MA mn mc,.slice FA fn fc],.slice bj ln lc,.agg #[.string f.name,.slice PA pn pc,.slice f4 bn bc]] w (EG w (dR p f)):=by
 have aM:=h.g;have hm:=h.m;have bp:=h.f;have dA:p.globals.length=gn:=by rw[←aM.1,Gf]
 have lm:p.af.length=mn:=by rw[←hm.1,Gf]
 have lf:p.funcs.length=fn:=by rw[←bp.1,Gf]
 exact pX
end Go.Proofs.YtjhgbdckgkppnaaGreat

/- Part 27 of the proof. No condition of its own. -/
import Derived.Test.YtbkhhfajcgkpgaaGreatQ26
namespace Go.Proofs.YtbkhhfajcgkpgaaGreat
open Go.RowKit Go.Proofs.Tryz
set_option maxRecDepth 1000000
set_option maxHeartbeats 25600000
set_option linter.unusedVariables false
variable{p:Prop}{w:World}
theorem CI(w:World)(b i:Nat)(v:Value):Fr (fun k=>k=b) w.drew (w.setCell ⟨b,i,none⟩ v).drew:=
 have h:=(Fr.refl (fun k=>k=b) w).setCell (p:=⟨b,i,none⟩) (.inl rfl) v
 ⟨h.os,h.tape,h.output,h.size,h.block⟩
theorem tz{M:Nat→Prop}{ac:World}(h:Fr M w ac):Fr M w.drew ac.drew:=⟨h.os,h.tape,h.output,h.size,h.block⟩
theorem pT:∀(ps:List (ByteArray×Bool)) (q:ByteArray×Bool) (i k:Int),dG (ps++[q]) i k=dG ps i k++[if q.2 then ⟨q.1,5,k+bD ps⟩ else ⟨q.1,4,i+bU ps⟩]
 | [],(s,true),i,k=>by simp[dG,bD]
 | [],(s,false),i,k=>by simp[dG,bU]
 | (x,true)::ps,q,i,k=>by
  have:=(gx x true ps).2;have aC:=(gx x true ps).1;rw[J5,dG,dG,pT ps q i (k+1),this,aC];simp
  split<;>simp<;>omega
 | (x,false)::ps,q,i,k=>by
  have:=(gx x false ps).2;have aC:=(gx x false ps).1;rw[J5,dG,dG,pT ps q (i+1) k,this,aC];simp;split<;>simp<;>omega
theorem kX(ps:List (ByteArray×Bool))(q:ByteArray×Bool):bU (ps++[q])=bU ps+(if q.2 then 0 else 1)∧bD (ps++[q])=bD ps+(if q.2 then 1 else 0):=by
 obtain⟨s,b⟩:=q;cases b<;>simp[bU,bD]
theorem xO{P:Nat→Prop}{p:c6}{cs:List Value}:(fN p).rep w P cs↔∃A n c,cs=[.string p.name,.int .i64 p.ints,.int .i64 p.aw,.int .i64 p.locals,.slice A n c]∧n≤c∧Sl w P A n (p.code.map dP):=by
 unfold fN;rw[bu,b9];constructor
 ·rintro⟨y,rfl,h⟩;exact Fw
 ·rintro⟨A,n,c,rfl,hc,hs⟩;exact⟨_,rfl,aZ.2 ⟨_,rfl,aZ.2 ⟨_,rfl,aZ.2 ⟨_,rfl,aD.2 ⟨A,n,c,[],rfl,hc,hs,aJ.2 rfl⟩⟩⟩⟩⟩
def Hc(w:World)(x:c6)(e:Ending)(ac:World):Prop:=∃(A:Kr) (n c:Nat) (bp:Kr) (bQ a7:Nat),
 e=.returned (.tuple #[.agg #[.string x.name,.int .i64 x.ints,.int .i64 x.aw,.int .i64 x.locals,.slice A n c],.slice bp bQ a7,.int .i64 0,.int .i64 0])∧(fN x).rep ac (fresh w ac) [.string x.name,.int .i64 x.ints,.int .i64 x.aw,.int .i64 x.locals,.slice A n c]∧Ext w ac
namespace BA
theorem fK(h:p:=by
 clear a6 am aI;generalize hX:World.setCell _ _ _=X;have bZ:Fr (fun b=>b=g) ci X:=hX▸(Fr.refl (fun b=>b=g) ci).setCell (.inl rfl) _;have bp:=bW.2.2.2.2.2.1.on bZ ab;have u:af X g 198 #[.slice GA gn gc,.slice MA mn mc,.slice FA fn fc,.slice A2 (ln+k+1) c2,.int .i64 0,.int .i64 0,.int .i64 0,.int .i64 0,.slice none 0 0,.slice none 0 0]:=hX▸bW.2.2.2.2.1.aC 3 _;have aP:=ai bZ u;clear c0 cC bi hX bZ u;obtain⟨c0,cC,bi⟩:=bp.two;have cY:=ad bp;clear bp;have L:=mq (f.params.take k);have bQ:=ik (f.params.take k);have eN:(f.params.take k).length≤2:=by rw[List.length_take];omega
 have dS:wrap64 (bD (f.params.take k)+1)=bD (f.params.take k)+1:=IntWalk.wrap64_in _ ab;go_upto_region 5 with(fail);generalize bE:World.setCell _ _ _=bT
 try rw[dS] at bE
 have z:Fr (fun b=>b=o) X bT:=bE▸(Fr.refl (fun b=>b=o) X).setCell (.inl rfl) _;obtain⟨an,bs,bR,bY,_,_,co⟩:=bW.o;obtain⟨bZ,u⟩:=aP.o;have ah:=(ag.o:W.heap.size≤g)
 have r1:Gr (fun _=>False) W.heap.size 153 3 bT A2 (ln+(k+1)) c2 ((ba p++dG (f.params.take (k+1)) 0 0).map bN):=by
  exact Fl
 have gI:Ext w bT:=Fr.low (M:=fun b=>w.heap.size≤b) ((bs.mono fun _ h=>h.elim).trans ((bZ.mono fun b O=>ab).trans (z.mono fun b O=>ab))) fun _ h=>h;have gO:=(bR.on bZ ab).on z ab;have cl:=(bY.on bZ ab).on z ab;have rg:=u.on z ab;have ro:af bT o 115 #[.string f.name,.int .i64 (bU (f.params.take (k+1))),.int .i64 (bD (f.params.take (k+1))),.int .i64 0,.slice none 0 0]:=by
  rw[a9 ce.o,(kX _ _).1,(kX _ _).2,bH,←bE];simpa using cY.aC 2 _
 exact Fy
 ):p:=h
theorem gq(h:p:=by
 refine tf ?_;refine cw ?_;generalize b6:World.setCell _ _ _=Y;obtain⟨_,s,_⟩:=pr bV bf ah b6;have aS:=ad (a2.trans s);have m:=N.ak s;have d3:=ad m;have dj:=ad (cr.ak s);have cT:=br.ak s;have bI:=bC.ak s;have cL:=ad (bu.ak s);replace h0:=(s.cell al (fun h=>h)).trans h0
 replace cj:=(s.cell al (fun h=>h)).trans cj
 have cv:=s.size;replace al:pb<Y.heap.size:=JR al cv
 clear b6 c0 cC bi bV bf ah s a0 ap ak a6 am aI br bC;obtain⟨br,bC⟩:=aM cT bI;obtain⟨a0,ap,ak⟩:=m.two;obtain⟨a6,am,aI⟩:=cT.two;obtain⟨c0,cC,bi⟩:=bI.two;clear m cT bI;have cW:¬Y.heap.size≤g:=ab;have ej:¬Y.heap.size≤o:=ab;have ee:¬Y.heap.size≤w.heap.size+1:=ab;have ek:¬Y.heap.size≤pb:=ab
 cases bH:q.2 with
 | true=>
  rw[bH] at cj;go_wp2;refine eE (fun b=>Y.heap.size≤b) [(0,3),(1,3),(2,3),(3,3),(4,0),(5,3),(6,0),(7,3),(8,3),(9,3),(10,0),(11,3),(12,0),(13,3),(14,1),(15,2),(16,3),(17,3),(18,2)] ?_
  iterate 4 refine pf ?_
  refine pV ?_;refine pf ?_;refine pV ?_
  iterate 3 refine pf ?_
  refine pV ?_;refine pf ?_;refine pV ?_;refine pf ?_;refine ru ?_;generalize hV:World.drew (World.alloc _ _)=ck;have e1:Ext Y ck:=hV▸(Kn.alloc _).drew;have cR:af ck Y.heap.size 153 #[.string q.1,.int .i64 5,.int .i64 (bD (f.params.take k))]:=hV▸(Ko).drew;clear hV;refine aq rfl (fun K hK=>?_);rw[if_pos (by rfl)];refine eO iV (.tmp 57) (.tmp 67) (by rfl) (cL.ak e1) cR (jH ⟨q.1,5,bD (f.params.take k)⟩) (by rfl) (by rfl) (by rfl) ab ab (aH e1.size) ?_;intro A2 c2 ci an ay b8 bJ;have bs:Ext w ci:=Fr.low (M:=fun b=>w.heap.size≤b) (((aS.trans e1).mono fun _ h=>h.elim).trans (ay.mono fun b O=>by have:=(cL.lt O).1;omega)) fun _ h=>h;have S:∀b,(Value.slice A (ln+k) c).ownBlock=some b→W.heap.size≤b∧b≠g∧b≠o:=fun b O=>⟨(cL.lt O).1,fun e=>by subst e;exact bA.1 O,fun e=>by subst e;exact bA.2 O⟩
  have bR:=(d3.ak e1).on ay fun O=>by have:=(S _ O).1;omega
  have bY:=(dj.ak e1).on ay fun O=>by have:=(S _ O).1;omega
  have kg:=(br.ak e1).on ay fun O=>(S _ O).2.1 rfl;have dV:=(bC.ak e1).on ay fun O=>(S _ O).2.2 rfl;have co:(Value.slice A2 (ln+k+1) c2).ownBlock≠some g∧(Value.slice A2 (ln+k+1) c2).ownBlock≠some o:=by
   exact FC
  have bW:=iE an bs bR bY kg dV co;clear an ay b8 bs S bR bY co a0 ap ak a6 am aI c0 cC bi e1 cR h0 cj al cW ej ee ek;obtain⟨a6,am,aI⟩:=kg.two;obtain⟨c0,cC,bi⟩:=dV.two;clear kg dV;refine eD hK ?_;clear hK K
  iterate 2 refine pf ?_
  exact fJ
 | false=>
  rw[bH] at cj;go_wp2;refine eE (fun b=>Y.heap.size≤b) [(0,3),(1,3),(2,3),(3,3),(4,0),(5,3),(6,0),(7,3),(8,3),(9,3),(10,0),(11,3),(12,0),(13,3),(14,1),(15,2),(16,3),(17,3),(18,2)] ?_
  iterate 4 refine pf ?_
  refine pV ?_;refine pf ?_;refine pV ?_
  iterate 3 refine pf ?_
  refine pV ?_;refine pf ?_;refine pV ?_;refine pf ?_;refine ru ?_;generalize hV:World.drew (World.alloc _ _)=ck;have e1:Ext Y ck:=hV▸(Kn.alloc _).drew;have cR:af ck Y.heap.size 153 #[.string q.1,.int .i64 4,.int .i64 (bU (f.params.take k))]:=hV▸(Ko).drew;clear hV;refine aq rfl (fun K hK=>?_);rw[if_pos (by rfl)];refine eO iV (.tmp 79) (.tmp 89) (by rfl) (cL.ak e1) cR (jH ⟨q.1,4,bU (f.params.take k)⟩) (by rfl) (by rfl) (by rfl) ab ab (aH e1.size) ?_;intro A2 c2 ci an ay b8 bJ;have bs:Ext w ci:=Fr.low (M:=fun b=>w.heap.size≤b) (((aS.trans e1).mono fun _ h=>h.elim).trans (ay.mono fun b O=>by have:=(cL.lt O).1;omega)) fun _ h=>h;have S:∀b,(Value.slice A (ln+k) c).ownBlock=some b→W.heap.size≤b∧b≠g∧b≠o:=fun b O=>⟨(cL.lt O).1,fun e=>by subst e;exact bA.1 O,fun e=>by subst e;exact bA.2 O⟩
  have bR:=(d3.ak e1).on ay fun O=>by have:=(S _ O).1;omega
  have bY:=(dj.ak e1).on ay fun O=>by have:=(S _ O).1;omega
  have kg:=(br.ak e1).on ay fun O=>(S _ O).2.1 rfl;have dV:=(bC.ak e1).on ay fun O=>(S _ O).2.2 rfl;have co:(Value.slice A2 (ln+k+1) c2).ownBlock≠some g∧(Value.slice A2 (ln+k+1) c2).ownBlock≠some o:=by
   exact FC
  have bW:=iE an bs bR bY kg dV co;clear an ay b8 bs S bR bY co a0 ap ak a6 am aI c0 cC bi e1 cR h0 cj al cW ej ee ek;obtain⟨a6,am,aI⟩:=kg.two;obtain⟨c0,cC,bi⟩:=dV.two;clear kg dV;refine eD hK ?_;clear hK K
  iterate 2 refine pf ?_
  refine aq rfl (fun K hK=>?_);go_simp;refine eD hK ?_;clear hK K;refine aA ?_;clear a6 am aI;generalize hX:World.setCell _ _ _=X;have bZ:Fr (fun b=>b=g) ci X:=hX▸(Fr.refl (fun b=>b=g) ci).setCell (.inl rfl) _;have bp:=bW.2.2.2.2.2.1.on bZ ab;have u:af X g 198 #[.slice GA gn gc,.slice MA mn mc,.slice FA fn fc,.slice A2 (ln+k+1) c2,.int .i64 0,.int .i64 0,.int .i64 0,.int .i64 0,.slice none 0 0,.slice none 0 0]:=hX▸bW.2.2.2.2.1.aC 3 _;have aP:=ai bZ u;clear c0 cC bi hX bZ u;obtain⟨c0,cC,bi⟩:=bp.two;have cY:=ad bp;clear bp;have L:=mq (f.params.take k);have bQ:=ik (f.params.take k);have eN:(f.params.take k).length≤2:=by rw[List.length_take];omega
  have dS:wrap64 (bU (f.params.take k)+1)=bU (f.params.take k)+1:=IntWalk.wrap64_in _ ab;go_upto_region 5 with(fail);generalize bE:World.setCell _ _ _=bT
  try rw[dS] at bE
  have z:Fr (fun b=>b=o) X bT:=bE▸(Fr.refl (fun b=>b=o) X).setCell (.inl rfl) _;obtain⟨an,bs,bR,bY,_,_,co⟩:=bW.o;obtain⟨bZ,u⟩:=aP.o;have ah:=(ag.o:W.heap.size≤g)
  have r1:Gr (fun _=>False) W.heap.size 153 3 bT A2 (ln+(k+1)) c2 ((ba p++dG (f.params.take (k+1)) 0 0).map bN):=by
   exact Fl
  have gI:Ext w bT:=Fr.low (M:=fun b=>w.heap.size≤b) ((bs.mono fun _ h=>h.elim).trans ((bZ.mono fun b O=>ab).trans (z.mono fun b O=>ab))) fun _ h=>h;have gO:=(bR.on bZ ab).on z ab;have cl:=(bY.on bZ ab).on z ab;have rg:=u.on z ab;have ro:af bT o 115 #[.string f.name,.int .i64 (bU (f.params.take (k+1))),.int .i64 (bD (f.params.take (k+1))),.int .i64 0,.slice none 0 0]:=by
   rw[a9 ce.o,(kX _ _).1,(kX _ _).2,bH,←bE];simpa using cY.aC 1 _
  exact Fy
 ):p:=h
theorem uW(h:p:=by
 have bf:Ext wr V:=hV▸(Fr.aO ar).alloc _;exact Cd
 ):p:=h
theorem lA(h:p:=by
 have bP:af W w.heap.size 71 #[.slice GA gn gc,.slice MA mn mc,.slice FA fn fc]:=bg▸((Ko).alloc _).alloc _;have aY:af W (w.heap.size+1) 143 #[.string f.name,.slice PA pn pc,.slice f0 bn eL]:=bg▸(af.ct _ _ _ (by simp)).alloc _;have a1:af W (w.heap.size+2) 115 #[.string ⟨#[]⟩,.int .i64 0,.int .i64 0,.int .i64 0,.slice none 0 0]:=bg▸af.ct _ _ _ (by simp);have cA:=aF.size;obtain⟨a2,N,cr⟩:=ez aF aY a1;have y:=kn ((bK.on (Fr.ext aF)).on (Fr.ext (Fr.refl _ W).drew));obtain⟨a0,ap,ak⟩:=bP.two;have es:¬W.heap.size≤w.heap.size:=by have:=a1.lt;omega
 have cQ:w.heap.size+2<W.heap.size:=a1.lt;clear bg aF bP aY a1;refine eE (fun b=>W.heap.size≤b) [(0,0),(2,3),(1,1),(3,1),(4,3),(5,2),(6,3)] ?_;refine pV ?_;refine pf ?_;refine ru ?_;generalize hV:World.drew (World.alloc _ _)=c3;have e1:Ext W c3:=hV▸(Kn.alloc _).drew;have cI:Gr (fun _=>False) W.heap.size 153 3 c3 (some ⟨W.heap.size,0,none⟩) 0 0 []:=hV▸(Gr.lit (w:=W) (n:=0) (l:=[]) rfl (by rfl) ab (by simp only[D.aI])).ak Kn.drew;have dJ:=kn (bK.on (Fr.ext (a2.trans e1)));clear hV y;refine aK rfl (fun K hK=>?_);rw[if_pos (by rfl)];refine jc iV (.tmp 16) (.tmp 17) (by rfl) cI (kN (ba p)) I.1 dJ (fun h=>by subst h;exact Sl.none_ bK.o) (by rfl) (by rfl) ab ab e1.size ?_;intro aU b5 aO b7 f1 o1 c1;refine dW hK (f1.mono fun b O=>ab) ?_;clear hK K;have e2:Ext W aO:=Fr.low (M:=fun b=>W.heap.size≤b) ((e1.mono fun _ h=>h.elim).trans (f1.mono fun b O=>ab)) fun _ h=>h;have dc:=fun b O=>(b7.lt (g:=b) O)
 have ew:W.heap.size≤aO.heap.size:=e2.size;refine pf ?_;refine aq rfl (fun K hK=>?_);go_simp;generalize hV:World.alloc _ _=dX;have e3:Ext aO dX:=hV▸Kn.alloc _;have cT:af dX aO.heap.size 198 #[.slice GA gn gc,.slice MA mn mc,.slice FA fn fc,.slice aU ln b5,.int .i64 0,.int .i64 0,.int .i64 0,.int .i64 0,.slice none 0 0,.slice none 0 0]:=hV▸Ko;refine eD hK ?_;clear hK K;refine pf ?_;refine aA ?_;have bl:=ad (a2.trans (e2.trans e3));have aE:=ad (b7.ak e3);have cZ:=N.ak (e2.trans e3);have du:=ad cZ;have a7:=ad (cr.ak (e2.trans e3));have br:=ad cT;have a4:w.heap.size+3≤aO.heap.size:=by have:=e2.size;have:=cr.lt;omega
 have ca:∀b,(Value.slice aU ln b5).ownBlock=some b→W.heap.size≤b∧b<aO.heap.size:=fun b O=>dc b O;have J:=ad ca;clear hV e1 cI dJ b7 f1 o1 c1 e2 e3 cT dc es a0 ap ak a2 N cr ca;obtain⟨a0,ap,ak⟩:=cZ.two;clear cZ;generalize et:aO.heap.size=g at *;go_upto_region 3 with(fail);generalize hV:World.alloc _ _=V;have t:Ext dX V:=hV▸Kn.alloc _;have bI:af V dX.heap.size 115 #[.string f.name,.int .i64 0,.int .i64 0,.int .i64 0,.slice none 0 0]:=hV▸Ko;have cV:g<dX.heap.size:=br.lt;generalize dR:dX.heap.size=o at *;have bt:=ad (show Gr (fun _=>False) W.heap.size 153 3 V aU ln b5 ((ba p).map bN)∧(Value.slice aU ln b5).ownBlock≠some g∧(Value.slice aU ln b5).ownBlock≠some o∧Ext w V∧af V (w.heap.size+1) 143 #[.string f.name,.slice PA pn pc,.slice f0 bn eL]∧
   af V (w.heap.size+2) 115 #[.string ⟨#[]⟩,.int .i64 0,.int .i64 0,.int .i64 0,.slice none 0 0]∧af V g 198 #[.slice GA gn gc,.slice MA mn mc,.slice FA fn fc,.slice aU ln b5,.int .i64 0,.int .i64 0,.int .i64 0,.int .i64 0,.slice none 0 0,.slice none 0 0]∧af V o 115 #[.string f.name,.int .i64 0,.int .i64 0,.int .i64 0,.slice none 0 0] from
  ⟨aE.ak t,fun O=>by have:=J.o _ O;omega,fun O=>by have:=J.o _ O;omega,bl.trans t,du.ak t,a7.ak t,br.ak t,bI⟩)
 have ec:W.heap.size≤g:=ab;clear hV t bI aE bl du a7 br a0 ap ak J et dR;have ag:=ad ec;obtain⟨b1,bz,cu,cS,f2,bO,el,e4⟩:=bt.o;have dB:=ad (show Gr (fun _=>False) W.heap.size 153 3 V aU (ln+0) b5 ((ba p++dG (f.params.take 0) 0 0).map bN)∧(Value.slice aU (ln+0) b5).ownBlock≠some g∧(Value.slice aU (ln+0) b5).ownBlock≠some o∧Ext w V∧af V (w.heap.size+1) 143 #[.string f.name,.slice PA pn pc,.slice f0 bn eL]∧af V (w.heap.size+2) 115 #[.string ⟨#[]⟩,.int .i64 0,.int .i64 0,.int .i64 0,.slice none 0 0]∧af V g 198 #[.slice GA gn gc,.slice MA mn mc,.slice FA fn fc,.slice aU (ln+0) b5,.int .i64 0,.int .i64 0,.int .i64 0,.int .i64 0,.slice none 0 0,.slice none 0 0]∧af V o 115 #[.string f.name,.int .i64 (bU (f.params.take 0)),.int .i64 (bD (f.params.take 0)),.int .i64 0,.slice none 0 0] from ⟨by simpa[dG] using b1,bz,cu,cS,f2,bO,el,by simpa[bU,bD] using e4⟩);clear b1 bz cu cS f2 bO el e4;go_wp2
 go_loopw [12] (fun cg wr=>∃(k:Nat) (A:Kr) (c:Nat),k≤pn∧cg=.int .i64 k∧Gr (fun _=>False) W.heap.size 153 3 wr A (ln+k) c ((ba p++dG (f.params.take k) 0 0).map bN)∧(Value.slice A (ln+k) c).ownBlock≠some g∧(Value.slice A (ln+k) c).ownBlock≠some o∧Ext w wr∧af wr (w.heap.size+1) 143 #[.string f.name,.slice PA pn pc,.slice f0 bn eL]∧af wr (w.heap.size+2) 115 #[.string ⟨#[]⟩,.int .i64 0,.int .i64 0,.int .i64 0,.slice none 0 0]∧af wr g 198 #[.slice GA gn gc,.slice MA mn mc,.slice FA fn fc,.slice A (ln+k) c,.int .i64 0,.int .i64 0,.int .i64 0,.int .i64 0,.slice none 0 0,.slice none 0 0]∧af wr o 115 #[.string f.name,.int .i64 (bU (f.params.take k)),.int .i64 (bD (f.params.take k)),.int .i64 0,.slice none 0 0]) (fun cg _=>pn - (intOf cg).toNat)
 case atStart=>exact⟨0,aU,b5,ab,rfl,dB.o⟩
 case round=>
  obtain⟨k,A,c,aj,rfl,hG,c9,da,aF,aY,a1,cT,bI⟩:=hrel;clear bt dB;have bu:=ad hG;have bA:=ai c9 da;obtain⟨a2,N,cr,br,bC⟩:=B7 aF aY a1 cT bI;obtain⟨a0,ap,ak⟩:=aY.two;obtain⟨a6,am,aI⟩:=cT.two;have aV:=aF.size;by_cases aw:k<pn
  ·obtain⟨pb,gL,q,cs,rfl,eI,bm,ax,a3,Z⟩:=(gG.on (Fr.ext aF)).gN q0 aw;obtain rfl:=nB.1 ax;have h0:=Z 0 _ rfl;have cj:=Z 1 _ rfl;simp only[J0] at h0;have al:pb<wr.heap.size:=eI;have ce:=ad bm;have bd:dk (ba p++dG (f.params.take k) 0 0) q.1=none:=by
    refine jI fun j x bc hx=>?_;have aR:=(b4.funcs f cM.o).fresh;have cf:x.name∈(ba p++dG (f.params.take k) 0 0).map (·.name):=Ke.2 ⟨x,JT bc,rfl⟩;rw[JX,fA,fx] at cf;have dt:f.params=f.params.take k++q::f.params.drop (k+1):=by
     have:=List.take_append_drop k f.params;rw[←this];congr 1
     ·rw[this]
     ·rw[this,List.drop_eq_getElem?_toList_append,bm];rfl
    rw[dt,JX,JW,←List.append_assoc,List.nodup_append] at aR;exact aR.2.2 _ cf q.1 (by simp) hx
   have y:=bu.sl (Q:=au wr) (fun b _ h=>h.elim) (fun b h _=>h);have cd:=ad y;clear ax a3 Z eI bm hG c9 da aF aY a1 cT bI y;go_upto_region 6 with(fail);refine tX (fun _=>False) [10,15] (.free 0 (.free 1 (.free 2 (.held 3 (.free 4 (.held 5 (.free 6 (.free 7 (.free 8 (.held 9 (.pick [10,14] (fun i=>bif i == 10 then .free 11 (.free 12 (.free 13 (.pick [14] (fun _=>.pick [15] (fun _=>.free 16 (.stop)))))) else .pick [10] (fun _=>.free 11 (.free 12 (.free 13 (.pick [15] (fun _=>.free 16 (.stop)))))))))))))))))) ?_
   iterate 3 refine tf ?_
   refine th ?_;refine tf ?_;refine th ?_
   iterate 3 refine tf ?_
   refine th ?_;refine k3 (P:=?IJ) (ops:=?IT) (Q:=?IU) (R:=?IW) (tails:=?IX) (rest:=.pick [15] (fun _=>.free 16 (.stop))) (aa:=?IK) (C:=fun db V=>Ext wr V∧af V db 153 #[.string ⟨#[]⟩,.int .i64 0,.int .i64 0]∧wr.heap.size≤db) (fun key=>?HG) ?HC
   case HG=>
    refine bq ?_ ?_
    ·
     refine bS rfl (fun K hK=>?_) rfl;go_simp;refine(dM A (ln+k) c _ q.1 wr.drew (cd.on (Fr.ext Kn.drew)) ab).mono ?_;rintro e aN ⟨rfl,ar⟩;rw[bd];simp only[iK];exact uV
    ·
     refine eZ ?_;refine ao ?_;refine bS rfl (fun K hK=>?_) rfl;go_simp;generalize hV:World.alloc _ _=V;have aL:af V wr.heap.size 153 #[.string ⟨#[]⟩,.int .i64 0,.int .i64 0]:=hV▸Ko;have bf:Ext wr V:=hV▸Kn.alloc _;clear hV;refine(dM A (ln+k) c _ q.1 V.drew (cd.on (Fr.ext bf.drew)) ab).mono ?_;rintro e aN ⟨rfl,ar⟩;rw[bd];simp only[iK];refine eD hK ?_;clear hK K
     iterate 3 refine tf ?_
     have b3:=aL.ak (Fr.aO ar);have aG:=bf.trans (Fr.aO ar);clear aL bf ar;exact key wr.heap.size aN ⟨aG,b3,JQ _⟩
   case HC=>
    rintro db V ⟨bf,bV,ah⟩;obtain⟨c0,cC,bi⟩:=bV.two;exact g8
  ·obtain rfl:pn=k:=ab;rw[JY (by rw[I.2];exact JQ _)] at hG bI;have cJ:=bC.o;rw[JY (by rw[I.2];exact JQ _)] at cJ;clear bu bC bI;obtain⟨bu,bC⟩:=aM hG cJ;obtain⟨c0,cC,bi⟩:=cJ.two;clear hG c9 da aF aY a1 cT cJ;go_upto_region 15 with(fail);generalize hX:World.setCell _ _ _=X;have bZ:Fr (fun b=>b=g) wr X:=hX▸(Fr.refl (fun b=>b=g) wr).setCell (.inl rfl) _;have u:af X g 198 #[.slice GA gn gc,.slice MA mn mc,.slice FA fn fc,.slice A (ln+pn) c,.int .i64 (bU f.params),.int .i64 0,.int .i64 0,.int .i64 0,.slice none 0 0,.slice none 0 0]:=hX▸br.aC 4 _;have dO:w.heap.size≤g:=by have:=(ag.o:W.heap.size≤g);omega
   have bo:Ext w X:=Fr.low (M:=fun b=>w.heap.size≤b) ((a2.mono fun _ h=>h.elim).trans (bZ.mono fun b O=>ab)) fun _ h=>h;have cz:=bu.c7 (ac:=X) bZ.size fun b aw hp=>bZ.block b aw fun he=>by
    subst he;rcases hp with hp|hp
    ·exact hp.elim
    ·exact bA.1 hp
   have aW:∀b,au w b→off (Ms g (.slice none 0 0) (.slice none 0 0)) X b:=fun b O=>⟨JR O bo.size,fun hm=>by
    rcases hm with hm|hm|hm
    ·have:b<w.heap.size:=O;omega
    ·cases hm
    ·cases hm⟩
   have dI:=(dv.aj (ac:=X) fun b O=>bo.block b O fun h=>h).mono aW;have b0:=(bX.aj (ac:=X) fun b O=>bo.block b O fun h=>h).mono aW;have dD:=(dm.aj (ac:=X) fun b O=>bo.block b O fun h=>h).mono aW;have dK:Sl X (off (Ms g (.slice none 0 0) (.slice none 0 0)) X) A (ln+pn) ((ba p++dG f.params 0 0).map bN):=by
    obtain⟨dQ,xs,ae,aC⟩:=cz;exact Sl.pP ae (tu aC) dQ fun b bk _ aw=>⟨aw,fun hm=>by
     rcases hm with hm|hm|hm
     ·subst hm;exact bA.1 (by rw[bk];rfl)
     ·cases hm
     ·cases hm⟩
   have d9:cB X g (o+1) p.ae p.funcs (ba p++dG f.params 0 0) A (ln+pn) c (bU f.params) 0 [] [] none 0 none 0:=
    ⟨⟨GA,gn,gc,MA,mn,mc,FA,fn,fc,u,ab,ab,dI,b0⟩,⟨ab,by have:=bZ.size;have:=bi;omega⟩,⟨ab,dK⟩,k4.nil _ _ _ _ _ _⟩
   have c5:=N.on bZ (by have:=(ag.o:W.heap.size≤g);omega);obtain⟨en,d1,a8,eu⟩:=iF d9 dD bo c5;have d0:=ad (cr.on bZ (by have:=(ag.o:W.heap.size≤g);omega));have d7:=ad (bC.on bZ ab);clear a0 ap ak a6 am aI c0 cC bi hX bZ u bo cz aW dI b0 dD dK d9;obtain⟨a0,ap,ak⟩:=c5.two;clear c5;have eP:=mq f.params;have eQ:=ik f.params;have cO:=ad (show ∀b,Ms g (.slice none 0 0) (.slice none 0 0) b→w.heap.size≤b from fun b hm=>by
    rcases hm with hm|hm|hm
    ·omega
    ·cases hm
    ·cases hm)
   have c8:Sc (bh (fU p)) (gj p f) (ba p++dG f.params 0 0) (ft p++cn f.params) (a5 p++f.params.map (·.1)) (bU f.params) (bD f.params):=ub b4.o cM.o;have em:(bh (fU p)).ae=p.ae:=by rw[nT]
   have ed:f.body.num≤64:=J7 (ja (fun f:az=>f.body.num) cM.o) b4.jm;have dd:=dH f.body 4 _ _ _ (bU f.params) [] (b4.funcs f cM.o).body c8;have bF:(ba p++dG f.params 0 0).length≤200:=by
    have ae:=I.1;rw[JU] at ae;have aC:=congrArg List.length (fx f.params 0 0);rw[JU,JU] at aC;have aT:=I.2;rw[JS,ae,aC];omega
   obtain⟨av,dA,d8,dL⟩:=iF c8 dd em bF;clear c8 dd em bF;go_wp2_with(fail);have bb:=I.2;have bF:=dL.o;refine(dr (bh (fU p)) (bD f.params) p.funcs f.body (gj p f) 4 _ _ _ (bU f.params) 0 [] [] g (o+1) A (ln+pn) c none 0 none 0 f0 bn eL X (b4.funcs f cM.o).body av.o (CF b4.o cM.o) (fun h aQ=>by have:=(b4.funcs h aQ).jm;omega) (by rw[d8.o];exact en.o) d1.o (by simp;omega) rfl ab ab ab).mono ?_;rintro e cx ⟨rfl,cE,b2,cF,cH,be,bz,bL,dz⟩;have dd:=dA.o;rw[d8.o] at bL;clear bb bF dA;generalize bm:dw f.body (ba p++dG f.params 0 0) (bU f.params) []=r at *;obtain⟨r1,gE⟩:=r;obtain⟨⟨gA,cU,eb,_⟩,bM,c6⟩:=dd;simp only[Kg,J8] at bz bL dz cU bM c6;have cG:r1.length≤128:=by rw[cU];omega
   have de:∀b,b≠g→¬Ms g (.slice none 0 0) (.slice none 0 0) b:=fun b O hm=>by
    rcases hm with hm|hm|hm
    ·exact O hm
    ·cases hm
    ·cases hm
   obtain⟨dg,dT⟩:=d0.cG (de _ (by have:=(ag.o:W.heap.size≤g);omega)) dz;obtain⟨cX,dU⟩:=d7.cG (de _ ab) dz;obtain⟨cD,eH⟩:=aM bL dz;obtain⟨eY,eM,eJ,e5,eU,eS,eW,eF,eB,gi,_⟩:=bL.blk;have cm:=bw dg dT cX dU;have ce:=bw bm bz bM c6;clear a0 ap ak bL dz dg cX cU eb dT dU bm bz;obtain⟨a6,am,aI⟩:=gi.two;clear gi;clear bM c6 de;go_wp2_with(fail);refine(gK cD.o mX (f.body.num:Int) (jj (is:=[]) (ps:=[]) (Sl.bG _) (Sl.bG _) (JQ _) (JQ _)) ab (aH ce.2.1)).mono ?_;rintro e cp ⟨rfl,dx,dh,dE,dN,cN,c4⟩;have dP:=ad cN;have cK:Mv g (.slice cE r1.length b2) (.slice cF be.length cH) cx (.slice dx (r1++[mX]).length dh) (.slice dE (be++[(f.body.num:Int)]).length dN) cp:=by rw[JS,JS];exact c4
   have ef:=ad (eH.trans cK);obtain⟨dg,dT⟩:=cm.1.cG cm.2.1 cK;obtain⟨cX,dU⟩:=cm.2.2.1.cG cm.2.2.2 cK;obtain⟨ep,eq⟩:=aM dg cX;obtain⟨eX,eK,eG,e0,eT,eR,eV,eC,eA,cq,_⟩:=cN.blk;have d5:=ad cq;clear cN c4 cK a6 am aI;obtain⟨a6,am,aI⟩:=cq.two;obtain⟨c0,cC,bi⟩:=cX.two;have eg:¬g=o:=ab;clear cq cX dg;go_wp2;refine eE (fun b=>b=o) [(0,3),(1,3),(2,3),(3,0),(4,3),(5,3),(6,3),(7,0),(8,3),(9,1),(10,3),(11,2)] ?_
   iterate 3 refine pf ?_
   refine pV ?_
   iterate 3 refine pf ?_
   refine pV ?_;refine pf ?_;refine aK rfl (fun K hK=>?_);go_simp;refine dW hK (CI cp o 3 _) ?_;clear hK K;refine pf ?_;refine aq rfl (fun K hK=>?_);go_simp;refine eD hK ?_;clear hK K;refine aA ?_;generalize hX:World.setCell _ _ _=gl;have T:Fr (fun b=>b=o) cp gl:=hX▸((Fr.refl (fun b=>b=o) cp).setCell (.inl rfl) _).setCell (.inl rfl) _;have c7:af gl o 115 #[.string f.name,.int .i64 (bU f.params),.int .i64 (bD f.params),.int .i64 gE,.slice dx (r1.length+1) dh]:=hX▸(eq.aC 3 _).aC 4 _;have dF:=d5.on T eg;have dC:=ep.on T (by have:=(ag.o:W.heap.size≤g);omega);obtain⟨dn,ev,dy⟩:=ez T c7 dC;clear hX T a6 am aI c0 cC bi dC;obtain⟨a6,am,aI⟩:=dF.two;obtain⟨c0,cC,bi⟩:=c7.two;have d2:¬g=w.heap.size+2:=by have:=(ag.o:W.heap.size≤g);omega
   have d4:¬o=w.heap.size+2:=by have:=(ag.o:W.heap.size≤g);omega
   clear dF c7;obtain⟨d6,dp,dq⟩:=dy.two;go_wp2;refine eE (fun b=>b=w.heap.size+2) [(0,0),(1,3),(2,3),(3,3),(4,0),(5,3),(6,3),(7,3),(8,0),(9,3),(10,3),(11,3),(12,0),(13,1),(14,3),(15,3),(16,3)] ?_;refine Ev ?_
   iterate 3 refine pf ?_
   refine Ev ?_
   iterate 3 refine pf ?_
   refine Ev ?_
   iterate 3 refine pf ?_
   refine Ev ?_;refine aK rfl (fun K hK=>?_);go_simp;generalize hX:World.setCell _ _ _=dZ;obtain⟨cq,_,ct⟩:=cb (w:=w) [.string f.name,.int .i64 (bU f.params),.int .i64 (bD f.params),.int .i64 gE,.slice dx (r1.length+1) dh] (by rfl) dy.o (Fr.low (M:=fun b=>w.heap.size≤b) ((a8.mono fun _ h=>h.elim).trans ((ef.fr.mono fun b hm=>cO.o b hm).trans (dn.mono fun b O=>by have:=(ag.o:W.heap.size≤g);omega))) fun _ h=>h) (Nat.le_add_right _ _) hX;refine dW hK (tz (tz ct)) ?_;clear hK K
   iterate 3 refine pf ?_
   refine aA ?_;obtain⟨bG,ex,ey⟩:=cq.two;have eo:=ai ct cq;clear a6 am aI c0 cC bi d6 dp dq hX ct cq;go_wp2;refine Km (v:=.tuple #[.agg #[.string f.name,.int .i64 (bU f.params),.int .i64 (bD f.params),.int .i64 gE,.slice dx (r1.length+1) dh],.slice dE (be.length+1) dN,.int .i64 0,.int .i64 0]) (by simp[results,Tryz.results83,go_sem,bG]) rfl ?_;obtain⟨ct,cq⟩:=eo.o;have ah:=(ag.o:W.heap.size≤g)
   have eh:dY p f=⟨f.name,bU f.params,bD f.params,gE,r1++[mX]⟩:=by
    unfold dY;simp only[ce.1]
   have cc:Ext w dZ:=Fr.low (M:=fun b=>w.heap.size≤b) ((a8.mono fun _ h=>h.elim).trans ((ef.fr.mono fun b hm=>cO.o b hm).trans ((dn.mono fun b O=>ab).trans (ct.mono fun b O=>ab)))) fun _ h=>h;have b9:=dP.rows.one;have bx:=b9.cap.1;have er:Gr _ _ _ _ dZ.drew.drew _ _ _ _:=(((b9.c7 (ac:=gl) dn.size fun b aw hp=>dn.block b aw fun he=>by
    rcases hp with hp|hp
    ·have:=hp.1;omega
    ·have:=(b9.lt hp).1;omega).c7 (ac:=dZ) ct.size fun b aw hp=>ct.block b aw fun he=>by
    rcases hp with hp|hp
    ·have:=hp.1;omega
    ·have:=(b9.lt hp).1;omega).ak (Fr.refl _ dZ).drew).ak (Fr.refl _ dZ.drew).drew
   have ea:=er.sl (Q:=fresh w dZ.drew.drew) (fun b ae aC=>⟨by have:=aC.1;omega,ae⟩) (fun b ae aC=>⟨ab,ae⟩);rw[JS] at ea bx;refine⟨dx,r1.length+1,dh,dE,be.length+1,dN,by rw[eh],?_,cc.drew.drew⟩;rw[eh];exact xO.2 ⟨dx,r1.length+1,dh,rfl,bx,ea⟩
 ):p:=h
theorem rZ(h:p:=by
 have ei:((ba p).map bN).length=ln:=hl.1;have dl:ln≤100:=by rw[←hl.1,JU,kJ];omega
 have bb:f.params.length=pn:=by rw[←ch.1,JU]
 have gH:pn≤2:=by have:=(hp.funcs f aD).jm;omega
 obtain⟨b4,cM,dv,bX,bK,gG,dm⟩:=B8 hp aD hm aZ hl ch bv;have I:=ai ei bb;clear h aJ hm aZ hl ch bv hp aD di lm lf ei bb;go_enter func83,ntmps83;exact lz
 ):p:=h
end BA
open BA in
theorem si(dr:∀U nk F b,lq U nk F b)(p:bB)(hp:oE p)(f:az)(aD:f∈p.funcs)(GA:Kr)(gn gc:Nat)(MA:Kr)(mn mc:Nat)(FA:Kr)(fn fc:Nat)(bj:Kr)(ln lc:Nat)(PA:Kr)(pn pc:Nat)(f0:Kr)(bn eL:Nat)(w:World)
  (h:g1 w (au w) p GA gn MA mn FA fn) (hl:Sl w (au w) bj ln ((ba p).map bN)) (ch:Sl w (au w) PA pn (f.params.map df)) (bv:Sl w (au w) f0 bn (cP f.body)) :
  Calls prog 83 #[.agg #[.slice GA gn gc,.slice MA mn mc,.slice FA fn fc],.slice bj ln lc,.agg #[.string f.name,.slice PA pn pc,.slice f0 bn eL]] w (Hc w (dY p f)):=by
 have aJ:=h.g;have hm:=h.m;have aZ:=h.f;have di:p.globals.length=gn:=by rw[←aJ.1,JU]
 have lm:p.ae.length=mn:=by rw[←hm.1,JU]
 have lf:p.funcs.length=fn:=by rw[←aZ.1,JU]
 exact rY
end Go.Proofs.YtbkhhfajcgkpgaaGreat

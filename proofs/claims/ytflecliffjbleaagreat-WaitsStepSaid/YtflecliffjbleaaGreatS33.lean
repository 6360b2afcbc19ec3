/- Part 33 of the proof. No condition of its own. -/
import Derived.Test.YtflecliffjbleaaGreatS32
namespace Go.Proofs.YtflecliffjbleaaGreat
open Go.RowKit Go.Proofs.Tryz
set_option maxRecDepth 1000000
set_option maxHeartbeats 25600000
set_option linter.unusedVariables false
variable{p:Prop}{w:World}
theorem Ef(w:World)(b i:Nat)(v:Value):Fr (λk=>k=b) w.drew (w.setCell ⟨b,i,none⟩ v).drew:=
 have h:=(Fr.refl (λk=>k=b) w).setCell (p:=⟨b,i,none⟩) (.inl rfl) v
 ⟨h.os,h.tape,h.output,h.size,h.block⟩
theorem uw{M:Nat->Prop}{ab:World}(h:Fr M w ab):Fr M w.drew ab.drew:=⟨h.os,h.tape,h.output,h.size,h.block⟩
theorem qH:∀(ps:List (ByteArray×Bool)) (q:ByteArray×Bool) (i k:Int),dV (ps++[q]) i k=dV ps i k++[if q.2 then ⟨q.1,5,k+bQ ps⟩ else ⟨q.1,4,i+cc ps⟩]
 | [],(s,true),i,k=>by simp[dV,bQ]
 | [],(s,false),i,k=>by simp[dV,cc]
 | (x,true)::ps,q,i,k=>by
  have:=(gW x true ps).2;have ax:=(gW x true ps).1;rw[LR,dV,dV,qH ps q i (k+1),this,ax];simp
  split<;>simp<;>omega
 | (x,false)::ps,q,i,k=>by
  have:=(gW x false ps).2;have ax:=(gW x false ps).1;rw[LR,dV,dV,qH ps q (i+1) k,this,ax];simp;split<;>simp<;>omega
theorem lE(ps:List (ByteArray×Bool))(q:ByteArray×Bool):cc (ps++[q])=cc ps+(if q.2 then 0 else 1)/\bQ (ps++[q])=bQ ps+(if q.2 then 1 else 0):=by
 obtain⟨s,b⟩:=q;cases b<;>simp[cc,bQ]
theorem yX{P:Nat->Prop}{p:cM}{cs:List Value}:(gv p).rep w P cs↔∃A n c,cs=[.string p.name,.int .i64 p.ints,.int .i64 p.ax,.int .i64 p.locals,.slice A n c]/\n<=c/\Sl w P A n (p.code.map ep):=by
 unfold gv;rw[bJ,ct];constructor
 .rintro⟨y,rfl,h⟩;exact Hh
 .rintro⟨A,n,c,rfl,hc,hs⟩;exact⟨_,rfl,bf.2 ⟨_,rfl,bf.2 ⟨_,rfl,bf.2 ⟨_,rfl,aL.2 ⟨A,n,c,[],rfl,hc,hs,aQ.2 rfl⟩⟩⟩⟩⟩
def I0(w:World)(x:cM)(e:Ending)(ab:World):Prop:=∃(A:Mk) (n c:Nat) (bE:Mk) (bK bw:Nat),
 e=.returned (.tuple #[.agg #[.string x.name,.int .i64 x.ints,.int .i64 x.ax,.int .i64 x.locals,.slice A n c],.slice bE bK bw,.int .i64 0,.int .i64 0])/\(gv x).rep ab (fresh w ab) [.string x.name,.int .i64 x.ints,.int .i64 x.ax,.int .i64 x.locals,.slice A n c]/\Ext w ab
namespace Db
theorem dd(h:p:=by
 clear a8 am aJ;generalize hX:World.setCell _ _ _=X;have b6:=cJ hX;have bK:=ca.2.2.2.2.2.1.on b6 ad;have m:ao X g 194 #[.slice GA gn gc,.slice MA mn mc,.slice FA fn fc,.slice A2 (ln+k+1) c2,.int .i64 0,.int .i64 0,.int .i64 0,.int .i64 0,.slice none 0 0,.slice none 0 0]:=hX▸ca.2.2.2.2.1.aJ 3 _;have aR:=ah b6 m;clear c0 cy bJ hX b6 m;obtain⟨c0,cy,bJ⟩:=bK.two;have c3:=ae bK;clear bK;have cb:=mZ (f.params.take k);have ai:=iO (f.params.take k);have eW:(f.params.take k).length<=2:=by rw[List.length_take];omega
 have dY:wrap64 (bQ (f.params.take k)+1)=bQ (f.params.take k)+1:=IntWalk.wrap64_in _ ad;go_upto_region 5 with(fail);generalize bR:World.setCell _ _ _=cQ
 try rw[dY] at bR
 have I:=cJ bR;obtain⟨an,bH,b0,cU,_,_,cH⟩:=ca.o;obtain⟨b6,m⟩:=aR.o;have a6:=(aM.o:W.heap.size<=g)
 have r1:Gr (λ_=>False) W.heap.size 147 3 cQ A2 (ln+(k+1)) c2 ((bm p++dV (f.params.take (k+1)) 0 0).map bY):=by
  exact G8
 have gZ:Ext w cQ:=Fr.low (M:=λb=>w.heap.size<=b) ((bH.mono λ_ h=>h.elim).trans ((b6.mono λb O=>ad).trans (I.mono λb O=>ad))) λ_ h=>h;have g0:=(b0.on b6 ad).on I ad;have f0:=(cU.on b6 ad).on I ad;have rg:=m.on I ad;have ro:ao cQ o 114 #[.string f.name,.int .i64 (cc (f.params.take (k+1))),.int .i64 (bQ (f.params.take (k+1))),.int .i64 0,.slice none 0 0]:=by
  rw[aU bS.o,(lE _ _).1,(lE _ _).2,bG,<-bR];simpa using c3.aJ 2 _
 exact Hj
 ):p:=h
theorem fO(h:p:=by
 refine tf ?_;refine ck ?_;generalize cq:World.setCell _ _ _=Y;obtain⟨_,s,_⟩:=qg b5 bo a6 cq;have bC:=ae (bj.trans s);have L:=aw.aj s;have d5:=ae L;have dr:=ae (b4.aj s);have cX:=bX.aj s;have al:=b8.aj s;have cO:=ae (bZ.aj s);replace h0:=(s.cell N (λh=>h)).trans h0
 replace cd:=(s.cell N (λh=>h)).trans cd
 have bl:=s.size;replace N:pb<Y.heap.size:=LC N bl
 clear cq c0 cy bJ b5 bo a6 s a0 ak af a8 am aJ bX b8;obtain⟨bX,b8⟩:=aH cX al;obtain⟨a0,ak,af⟩:=L.two;obtain⟨a8,am,aJ⟩:=cX.two;obtain⟨c0,cy,bJ⟩:=al.two;clear L cX al;have cY:¬Y.heap.size<=g:=ad;have en:¬Y.heap.size<=o:=ad;have ei:¬Y.heap.size<=w.heap.size+1:=ad;have eo:¬Y.heap.size<=pb:=ad
 cases bG:q.2 with
 | true=>
  rw[bG] at cd;go_wp2;refine eK (λb=>Y.heap.size<=b) [(0,3),(1,3),(2,3),(3,3),(4,0),(5,3),(6,0),(7,3),(8,3),(9,3),(10,0),(11,3),(12,0),(13,3),(14,1),(15,2),(16,3),(17,3),(18,2)] ?_
  iterate 4 refine pf ?_
  refine oG ?_;refine pf ?_;refine oG ?_
  iterate 3 refine pf ?_
  refine oG ?_;refine pf ?_;refine oG ?_;refine pf ?_;refine ry ?_;generalize hV:World.drew (World.alloc _ _)=dn;have e1:=hh hV;have cx:ao dn Y.heap.size 147 #[.string q.1,.int .i64 5,.int .i64 (bQ (f.params.take k))]:=hV▸(Mh).drew;clear hV;refine au rfl (λK hK=>?_);rw[if_pos (by rfl)];refine fm js (.tmp 57) (.tmp 67) (by rfl) (cO.aj e1) cx (j1 ⟨q.1,5,bQ (f.params.take k)⟩) (by rfl) (by rfl) (by rfl) ad ad (aB e1.size) ?_;intro A2 c2 cI an ay b1 cf;have bH:Ext w cI:=Fr.low (M:=λb=>w.heap.size<=b) (((bC.trans e1).mono λ_ h=>h.elim).trans (ay.mono λb O=>by have:=(cO.lt O).1;omega)) λ_ h=>h;have az:∀b,(Value.slice A (ln+k) c).ownBlock=some b->W.heap.size<=b/\b≠g/\b≠o:=λb O=>⟨(cO.lt O).1,λe=>by subst e;exact bI.1 O,λe=>by subst e;exact bI.2 O⟩
  have b0:=(d5.aj e1).on ay λO=>by have:=(az _ O).1;omega
  have cU:=(dr.aj e1).on ay λO=>by have:=(az _ O).1;omega
  have kg:=(bX.aj e1).on ay λO=>(az _ O).2.1 rfl;have d1:=(b8.aj e1).on ay λO=>(az _ O).2.2 rfl;have cH:(Value.slice A2 (ln+k+1) c2).ownBlock≠some g/\(Value.slice A2 (ln+k+1) c2).ownBlock≠some o:=by
   exact Hn
  have ca:=hj an bH b0 cU kg d1 cH;clear an ay b1 bH az b0 cU cH a0 ak af a8 am aJ c0 cy bJ e1 cx h0 cd N cY en ei eo;obtain⟨a8,am,aJ⟩:=kg.two;obtain⟨c0,cy,bJ⟩:=d1.two;clear kg d1;refine dU hK ?_;clear hK K
  iterate 2 refine pf ?_
  exact eM
 | false=>
  rw[bG] at cd;go_wp2;refine eK (λb=>Y.heap.size<=b) [(0,3),(1,3),(2,3),(3,3),(4,0),(5,3),(6,0),(7,3),(8,3),(9,3),(10,0),(11,3),(12,0),(13,3),(14,1),(15,2),(16,3),(17,3),(18,2)] ?_
  iterate 4 refine pf ?_
  refine oG ?_;refine pf ?_;refine oG ?_
  iterate 3 refine pf ?_
  refine oG ?_;refine pf ?_;refine oG ?_;refine pf ?_;refine ry ?_;generalize hV:World.drew (World.alloc _ _)=dn;have e1:=hh hV;have cx:ao dn Y.heap.size 147 #[.string q.1,.int .i64 4,.int .i64 (cc (f.params.take k))]:=hV▸(Mh).drew;clear hV;refine au rfl (λK hK=>?_);rw[if_pos (by rfl)];refine fm js (.tmp 79) (.tmp 89) (by rfl) (cO.aj e1) cx (j1 ⟨q.1,4,cc (f.params.take k)⟩) (by rfl) (by rfl) (by rfl) ad ad (aB e1.size) ?_;intro A2 c2 cI an ay b1 cf;have bH:Ext w cI:=Fr.low (M:=λb=>w.heap.size<=b) (((bC.trans e1).mono λ_ h=>h.elim).trans (ay.mono λb O=>by have:=(cO.lt O).1;omega)) λ_ h=>h;have az:∀b,(Value.slice A (ln+k) c).ownBlock=some b->W.heap.size<=b/\b≠g/\b≠o:=λb O=>⟨(cO.lt O).1,λe=>by subst e;exact bI.1 O,λe=>by subst e;exact bI.2 O⟩
  have b0:=(d5.aj e1).on ay λO=>by have:=(az _ O).1;omega
  have cU:=(dr.aj e1).on ay λO=>by have:=(az _ O).1;omega
  have kg:=(bX.aj e1).on ay λO=>(az _ O).2.1 rfl;have d1:=(b8.aj e1).on ay λO=>(az _ O).2.2 rfl;have cH:(Value.slice A2 (ln+k+1) c2).ownBlock≠some g/\(Value.slice A2 (ln+k+1) c2).ownBlock≠some o:=by
   exact Hn
  have ca:=hj an bH b0 cU kg d1 cH;clear an ay b1 bH az b0 cU cH a0 ak af a8 am aJ c0 cy bJ e1 cx h0 cd N cY en ei eo;obtain⟨a8,am,aJ⟩:=kg.two;obtain⟨c0,cy,bJ⟩:=d1.two;clear kg d1;refine dU hK ?_;clear hK K
  iterate 2 refine pf ?_
  refine au rfl (λK hK=>?_);go_simp;refine dU hK ?_;clear hK K;refine aC ?_;clear a8 am aJ;generalize hX:World.setCell _ _ _=X;have b6:=cJ hX;have bK:=ca.2.2.2.2.2.1.on b6 ad;have m:ao X g 194 #[.slice GA gn gc,.slice MA mn mc,.slice FA fn fc,.slice A2 (ln+k+1) c2,.int .i64 0,.int .i64 0,.int .i64 0,.int .i64 0,.slice none 0 0,.slice none 0 0]:=hX▸ca.2.2.2.2.1.aJ 3 _;have aR:=ah b6 m;clear c0 cy bJ hX b6 m;obtain⟨c0,cy,bJ⟩:=bK.two;have c3:=ae bK;clear bK;have cb:=mZ (f.params.take k);have ai:=iO (f.params.take k);have eW:(f.params.take k).length<=2:=by rw[List.length_take];omega
  have dY:wrap64 (cc (f.params.take k)+1)=cc (f.params.take k)+1:=IntWalk.wrap64_in _ ad;go_upto_region 5 with(fail);generalize bR:World.setCell _ _ _=cQ
  try rw[dY] at bR
  have I:=cJ bR;obtain⟨an,bH,b0,cU,_,_,cH⟩:=ca.o;obtain⟨b6,m⟩:=aR.o;have a6:=(aM.o:W.heap.size<=g)
  have r1:Gr (λ_=>False) W.heap.size 147 3 cQ A2 (ln+(k+1)) c2 ((bm p++dV (f.params.take (k+1)) 0 0).map bY):=by
   exact G8
  have gZ:Ext w cQ:=Fr.low (M:=λb=>w.heap.size<=b) ((bH.mono λ_ h=>h.elim).trans ((b6.mono λb O=>ad).trans (I.mono λb O=>ad))) λ_ h=>h;have g0:=(b0.on b6 ad).on I ad;have f0:=(cU.on b6 ad).on I ad;have rg:=m.on I ad;have ro:ao cQ o 114 #[.string f.name,.int .i64 (cc (f.params.take (k+1))),.int .i64 (bQ (f.params.take (k+1))),.int .i64 0,.slice none 0 0]:=by
   rw[aU bS.o,(lE _ _).1,(lE _ _).2,bG,<-bR];simpa using c3.aJ 1 _
  exact Hj
 ):p:=h
theorem vZ(h:p:=by
 refine(eg A (ln+k) c _ q.1 V.drew (cm.on (Fr.ext bo.drew)) ad).mono ?_;rintro e aP ⟨rfl,ar⟩;rw[aV];simp only[jg];refine dU hK ?_;clear hK K
 iterate 3 refine tf ?_
 have cn:=aS.aj (Fr.aF ar);have aL:=bo.trans (Fr.aF ar);clear aS bo ar;exact key wr.heap.size aP ⟨aL,cn,Lz _⟩
 ):p:=h
theorem sP(h:p:=by
 have em:((bm p).map bY).length=ln:=hl.1;have dt:ln<=100:=by rw[<-hl.1,LG,ld];omega
 have bk:f.params.length=pn:=by rw[<-cl.1,LG]
 have gT:pn<=2:=by have:=(hp.funcs f J).jf;omega
 obtain⟨cj,dj,eV,bT,b2,gS,dk⟩:=DH hp J hm bu hl cl bt;have aA:=ah em bk;clear h aY hm bu hl cl bt hp J dq lm lf em bk;go_enter func71,ntmps71;go_upto_region 1 with(fail);generalize bd:World.alloc _ _=W;have aF:=l3 bd;have bU:=kr bd;have be:=iC bd;have cE:=ks bd;have cS:=aF.size;obtain⟨bj,aw,b4⟩:=eS aF be cE;have y:=kM ((b2.on (Fr.ext aF)).on (Fr.ext (Fr.refl _ W).drew));obtain⟨a0,ak,af⟩:=bU.two;have ex:¬W.heap.size<=w.heap.size:=by have:=cE.lt;omega
 have cR:w.heap.size+2<W.heap.size:=cE.lt;clear bd aF bU be cE;refine eK (λb=>W.heap.size<=b) [(0,0),(2,3),(1,1),(3,1),(4,3),(5,2),(6,3)] ?_;refine oG ?_;refine pf ?_;refine ry ?_;generalize hV:World.drew (World.alloc _ _)=fh;have e1:=hh hV;have cT:Gr (λ_=>False) W.heap.size 147 3 fh (some ⟨W.heap.size,0,none⟩) 0 0 []:=hV▸(Gr.lit (w:=W) (n:=0) (l:=[]) rfl (by rfl) ad (by simp only[D.aO])).aj Mg.drew;have dJ:=kM (b2.on (Fr.ext (bj.trans e1)));clear hV y;refine aI rfl (λK hK=>?_);rw[if_pos (by rfl)];refine jz js (.tmp 16) (.tmp 17) (by rfl) cT (ll (bm p)) aA.1 dJ (λh=>by subst h;exact Sl.none_ b2.o) (by rfl) (by rfl) ad ad e1.size ?_;intro a9 cv aW ce f1 o1 c1;refine dP hK (f1.mono λb O=>ad) ?_;clear hK K;have e2:Ext W aW:=Fr.low (M:=λb=>W.heap.size<=b) ((e1.mono λ_ h=>h.elim).trans (f1.mono λb O=>ad)) λ_ h=>h;have b3:=λb O=>(ce.lt (g:=b) O)
 have eD:W.heap.size<=aW.heap.size:=e2.size;refine pf ?_;refine au rfl (λK hK=>?_);go_simp;generalize hV:World.alloc _ _=eC;have e3:=aZ hV;have cX:=aN hV;refine dU hK ?_;clear hK K;refine pf ?_;refine aC ?_;have ba:=ae (bj.trans (e2.trans e3));have aD:=ae (ce.aj e3);have c5:=aw.aj (e2.trans e3);have dy:=ae c5;have bE:=ae (b4.aj (e2.trans e3));have bX:=ae cX;have bF:w.heap.size+3<=aW.heap.size:=by have:=e2.size;have:=b4.lt;omega
 have bg:∀b,(Value.slice a9 ln cv).ownBlock=some b->W.heap.size<=b/\b<aW.heap.size:=λb O=>b3 b O;have aT:=ae bg;clear hV e1 cT dJ ce f1 o1 c1 e2 e3 cX b3 ex a0 ak af bj aw b4 bg;obtain⟨a0,ak,af⟩:=c5.two;clear c5;generalize ey:aW.heap.size=g at *;go_upto_region 3 with(fail);generalize hV:World.alloc _ _=V;have T:=aZ hV;have al:=aN hV;have cW:g<eC.heap.size:=bX.lt;generalize dS:eC.heap.size=o at *;have S:=ae (show Gr (λ_=>False) W.heap.size 147 3 V a9 ln cv ((bm p).map bY)/\(Value.slice a9 ln cv).ownBlock≠some g/\(Value.slice a9 ln cv).ownBlock≠some o/\Ext w V/\ao V (w.heap.size+1) 137 #[.string f.name,.slice PA pn pc,.slice fD bn bc]/\
   ao V (w.heap.size+2) 114 #[.string ⟨#[]⟩,.int .i64 0,.int .i64 0,.int .i64 0,.slice none 0 0]/\ao V g 194 #[.slice GA gn gc,.slice MA mn mc,.slice FA fn fc,.slice a9 ln cv,.int .i64 0,.int .i64 0,.int .i64 0,.int .i64 0,.slice none 0 0,.slice none 0 0]/\ao V o 114 #[.string f.name,.int .i64 0,.int .i64 0,.int .i64 0,.slice none 0 0] from
  ⟨aD.aj T,λO=>by have:=aT.o _ O;omega,λO=>by have:=aT.o _ O;omega,ba.trans T,dy.aj T,bE.aj T,bX.aj T,al⟩)
 have ef:W.heap.size<=g:=ad;clear hV T al aD ba dy bE bX a0 ak af aT ey dS;have aM:=ae ef;obtain⟨cg,bP,cF,dm,f2,bD,ep,fa⟩:=S.o;have dB:=ae (show Gr (λ_=>False) W.heap.size 147 3 V a9 (ln+0) cv ((bm p++dV (f.params.take 0) 0 0).map bY)/\(Value.slice a9 (ln+0) cv).ownBlock≠some g/\(Value.slice a9 (ln+0) cv).ownBlock≠some o/\Ext w V/\ao V (w.heap.size+1) 137 #[.string f.name,.slice PA pn pc,.slice fD bn bc]/\ao V (w.heap.size+2) 114 #[.string ⟨#[]⟩,.int .i64 0,.int .i64 0,.int .i64 0,.slice none 0 0]/\ao V g 194 #[.slice GA gn gc,.slice MA mn mc,.slice FA fn fc,.slice a9 (ln+0) cv,.int .i64 0,.int .i64 0,.int .i64 0,.int .i64 0,.slice none 0 0,.slice none 0 0]/\ao V o 114 #[.string f.name,.int .i64 (cc (f.params.take 0)),.int .i64 (bQ (f.params.take 0)),.int .i64 0,.slice none 0 0] from ⟨by simpa[dV] using cg,bP,cF,dm,f2,bD,ep,by simpa[cc,bQ] using fa⟩);clear cg bP cF dm f2 bD ep fa;go_wp2
 go_loopw [12] (λcw wr=>∃(k:Nat) (A:Mk) (c:Nat),k<=pn/\cw=.int .i64 k/\Gr (λ_=>False) W.heap.size 147 3 wr A (ln+k) c ((bm p++dV (f.params.take k) 0 0).map bY)/\(Value.slice A (ln+k) c).ownBlock≠some g/\(Value.slice A (ln+k) c).ownBlock≠some o/\Ext w wr/\ao wr (w.heap.size+1) 137 #[.string f.name,.slice PA pn pc,.slice fD bn bc]/\ao wr (w.heap.size+2) 114 #[.string ⟨#[]⟩,.int .i64 0,.int .i64 0,.int .i64 0,.slice none 0 0]/\ao wr g 194 #[.slice GA gn gc,.slice MA mn mc,.slice FA fn fc,.slice A (ln+k) c,.int .i64 0,.int .i64 0,.int .i64 0,.int .i64 0,.slice none 0 0,.slice none 0 0]/\ao wr o 114 #[.string f.name,.int .i64 (cc (f.params.take k)),.int .i64 (bQ (f.params.take k)),.int .i64 0,.slice none 0 0]) (λcw _=>pn - (intOf cw).toNat)
 case atStart=>exact⟨0,a9,cv,ad,rfl,dB.o⟩
 case round=>
  obtain⟨k,A,c,aj,rfl,hG,df,dg,aF,be,cE,cX,al⟩:=hrel;clear S dB;have bZ:=ae hG;have bI:=ah df dg;obtain⟨bj,aw,b4,bX,b8⟩:=DG aF be cE cX al;obtain⟨a0,ak,af⟩:=be.two;obtain⟨a8,am,aJ⟩:=cX.two;have aQ:=aF.size;by_cases ap:k<pn
  .obtain⟨pb,gW,q,cs,rfl,dT,bv,bx,bq,Z⟩:=(gS.on (Fr.ext aF)).g9 rT ap;obtain rfl:=ou.1 bx;have h0:=Z 0 _ rfl;have cd:=Z 1 _ rfl;simp only[LM] at h0;have N:pb<wr.heap.size:=dT;have bS:=ae bv;have aV:dD (bm p++dV (f.params.take k) 0 0) q.1=none:=by
    refine j2 λj x bi hx=>?_;have aK:=(cj.funcs f dj.o).fresh;have cp:x.name∈(bm p++dV (f.params.take k) 0 0).map (·.name):=L5.2 ⟨x,LF bi,rfl⟩;rw[LJ,gb,fZ] at cp;have dx:f.params=f.params.take k++q::f.params.drop (k+1):=by
     have:=List.take_append_drop k f.params;rw[<-this];congr 1
     .rw[this]
     .rw[this,List.drop_eq_getElem?_toList_append,bv];rfl
    rw[dx,LJ,LI,<-List.append_assoc,List.nodup_append] at aK;exact aK.2.2 _ cp q.1 (by simp) hx
   have y:=bZ.sl (Q:=av wr) (λb _ h=>h.elim) (λb h _=>h);have cm:=ae y;clear bx bq Z dT bv hG df dg aF be cE cX al y;go_upto_region 6 with(fail);refine tw (λ_=>False) [10,15] (.free 0 (.free 1 (.free 2 (.held 3 (.free 4 (.held 5 (.free 6 (.free 7 (.free 8 (.held 9 (.pick [10,14] (λi=>bif i == 10 then .free 11 (.free 12 (.free 13 (.pick [14] (λ_=>.pick [15] (λ_=>.free 16 (.stop)))))) else .pick [10] (λ_=>.free 11 (.free 12 (.free 13 (.pick [15] (λ_=>.free 16 (.stop)))))))))))))))))) ?_
   iterate 3 refine tf ?_
   refine th ?_;refine tf ?_;refine th ?_
   iterate 3 refine tf ?_
   refine th ?_;refine lK (P:=?Kt) (ops:=?KF) (Q:=?KG) (R:=?KH) (tails:=?KI) (rest:=.pick [15] (λ_=>.free 16 (.stop))) (aa:=?Ku) (C:=λde V=>Ext wr V/\ao V de 147 #[.string ⟨#[]⟩,.int .i64 0,.int .i64 0]/\wr.heap.size<=de) (λkey=>?Jv) ?Jq
   case Jv=>
    refine a5 ?_ ?_
    ·
     refine bN rfl (λK hK=>?_) rfl;go_simp;refine(eg A (ln+k) c _ q.1 wr.drew (cm.on (Fr.ext Mg.drew)) ad).mono ?_;rintro e aP ⟨rfl,ar⟩;rw[aV];simp only[jg];refine dU hK ?_;clear hK K
     iterate 3 refine tf ?_
     refine aq ?_;refine eu ?_;generalize hV:World.alloc _ _=V;have aS:=aN hV;have bo:Ext wr V:=hV▸(Fr.aF ar).alloc _;exact DN
    ·
     exact vY
   case Jq=>
    rintro de V ⟨bo,b5,a6⟩;obtain⟨c0,cy,bJ⟩:=b5.two;exact gr
  .obtain rfl:pn=k:=ad;rw[LK (by rw[aA.2];exact Lz _)] at hG al;have cD:=b8.o;rw[LK (by rw[aA.2];exact Lz _)] at cD;clear bZ b8 al;obtain⟨bZ,b8⟩:=aH hG cD;obtain⟨c0,cy,bJ⟩:=cD.two;clear hG df dg aF be cE cX cD;go_upto_region 15 with(fail);generalize hX:World.setCell _ _ _=X;have b6:=cJ hX;have m:ao X g 194 #[.slice GA gn gc,.slice MA mn mc,.slice FA fn fc,.slice A (ln+pn) c,.int .i64 (cc f.params),.int .i64 0,.int .i64 0,.int .i64 0,.slice none 0 0,.slice none 0 0]:=hX▸bX.aJ 4 _;have dX:w.heap.size<=g:=by have:=(aM.o:W.heap.size<=g);omega
   have bz:Ext w X:=Fr.low (M:=λb=>w.heap.size<=b) ((bj.mono λ_ h=>h.elim).trans (b6.mono λb O=>ad)) λ_ h=>h;have bW:=bZ.dh (ab:=X) b6.size λb ap hp=>b6.block b ap λhe=>by
    subst he;rcases hp with hp|hp
    .exact hp.elim
    .exact bI.1 hp
   have a4:∀b,av w b->off (Ms g (.slice none 0 0) (.slice none 0 0)) X b:=λb O=>⟨LC O bz.size,λhm=>by
    rcases hm with hm|hm|hm
    .have:b<w.heap.size:=O;omega
    .cases hm
    .cases hm⟩
   have dM:=(eV.ak (ab:=X) λb O=>bz.block b O λh=>h).mono a4;have ct:=(bT.ak (ab:=X) λb O=>bz.block b O λh=>h).mono a4;have dF:=(dk.ak (ab:=X) λb O=>bz.block b O λh=>h).mono a4;have dK:Sl X (off (Ms g (.slice none 0 0) (.slice none 0 0)) X) A (ln+pn) ((bm p++dV f.params 0 0).map bY):=by
    obtain⟨dR,xs,ac,ax⟩:=bW;exact Sl.qE ac (um ax) dR λb bO _ ap=>⟨ap,λhm=>by
     rcases hm with hm|hm|hm
     .subst hm;exact bI.1 (by rw[bO];rfl)
     .cases hm
     .cases hm⟩
   have ec:cN X g (o+1) p.af p.funcs (bm p++dV f.params 0 0) A (ln+pn) c (cc f.params) 0 [] [] none 0 none 0:=
    ⟨⟨GA,gn,gc,MA,mn,mc,FA,fn,fc,m,ad,ad,dM,ct⟩,⟨ad,by have:=b6.size;have:=bJ;omega⟩,⟨ad,dK⟩,lL.nil _ _ _ _ _ _⟩
   have c6:=aw.on b6 (by have:=(aM.o:W.heap.size<=g);omega);obtain⟨er,d4,bw,ez⟩:=jc ec dF bz c6;have d3:=ae (b4.on b6 (by have:=(aM.o:W.heap.size<=g);omega));have d9:=ae (b8.on b6 ad);clear a0 ak af a8 am aJ c0 cy bJ hX b6 m bz bW a4 dM ct dF dK ec;obtain⟨a0,ak,af⟩:=c6.two;clear c6;have eR:=mZ f.params;have eT:=iO f.params;have a3:=ae (show ∀b,Ms g (.slice none 0 0) (.slice none 0 0) b->w.heap.size<=b from λb hm=>by
    rcases hm with hm|hm|hm
    .omega
    .cases hm
    .cases hm)
   have dc:Sc (br (gV p)) (gN p f) (bm p++dV f.params 0 0) (fW p++cC f.params) (bh p++f.params.map (·.1)) (cc f.params) (bQ f.params):=vb cj.o dj.o;have eq:(br (gV p)).af=p.af:=by rw[oK]
   have eh:f.body.num<=64:=LU (jx (λf:aG=>f.body.num) dj.o) cj.jf;have dl:=dW f.body 4 _ _ _ (cc f.params) [] (cj.funcs f dj.o).body dc;have cr:(bm p++dV f.params 0 0).length<=200:=by
    have ac:=aA.1;rw[LG] at ac;have ax:=congrArg List.length (fZ f.params 0 0);rw[LG,LG] at ax;have a1:=aA.2;rw[LD,ac,ax];omega
   obtain⟨aO,dA,eb,dN⟩:=jc dc dl eq cr;clear dc dl eq cr;go_wp2_with(fail);have bk:=aA.2;have cr:=dN.o;refine(dv (br (gV p)) (bQ f.params) p.funcs f.body (gN p f) 4 _ _ _ (cc f.params) 0 [] [] g (o+1) A (ln+pn) c none 0 none 0 fD bn bc X (cj.funcs f dj.o).body aO.o (Ec cj.o dj.o) (λh ag=>by have:=(cj.funcs h ag).jf;omega) (by rw[eb.o];exact er.o) d4.o (by simp;omega) rfl ad ad ad).mono ?_;rintro e cA ⟨rfl,cG,ch,cV,c4,a7,bP,aX,bL⟩;have dl:=dA.o;rw[eb.o] at aX;clear bk cr dA;generalize bv:dL f.body (bm p++dV f.params 0 0) (cc f.params) []=r at *;obtain⟨r1,gR⟩:=r;obtain⟨⟨gH,c9,ee,_⟩,bp,db⟩:=dl;simp only[L8,LW] at bP aX bL c9 bp db;have b9:r1.length<=128:=by rw[c9];omega
   have dh:∀b,b≠g->¬Ms g (.slice none 0 0) (.slice none 0 0) b:=λb O hm=>by
    rcases hm with hm|hm|hm
    .exact O hm
    .cases hm
    .cases hm
   obtain⟨di,dZ⟩:=d3.cT (dh _ (by have:=(aM.o:W.heap.size<=g);omega)) bL;obtain⟨cZ,d0⟩:=d9.cT (dh _ ad) bL;obtain⟨co,eL⟩:=aH aX bL;obtain⟨e6,eQ,eO,e8,eZ,eX,e4,eJ,eH,gy,_⟩:=aX.blk;have cK:=bA di dZ cZ d0;have bS:=bA bv bP bp db;clear a0 ak af aX bL di cZ c9 ee dZ d0 bv bP;obtain⟨a8,am,aJ⟩:=gy.two;clear gy;clear bp db dh;go_wp2_with(fail);refine(hb co.o nJ (f.body.num:Int) (jF (is:=[]) (ps:=[]) (Sl.bT _) (Sl.bT _) (Lz _) (Lz _)) ad (aB bS.2.1)).mono ?_;rintro e cL ⟨rfl,dC,dp,dI,dO,ci,da⟩;have dQ:=ae ci;have cM:Mv g (.slice cG r1.length ch) (.slice cV a7.length c4) cA (.slice dC (r1++[nJ]).length dp) (.slice dI (a7++[(f.body.num:Int)]).length dO) cL:=by rw[LD,LD];exact da
   have ej:=ae (eL.trans cM);obtain⟨di,dZ⟩:=cK.1.cT cK.2.1 cM;obtain⟨cZ,d0⟩:=cK.2.2.1.cT cK.2.2.2 cM;obtain⟨et,ev⟩:=aH di cZ;obtain⟨e5,eP,eN,e7,eY,eU,e0,eI,eG,bf,_⟩:=ci.blk;have d7:=ae bf;clear ci da cM a8 am aJ;obtain⟨a8,am,aJ⟩:=bf.two;obtain⟨c0,cy,bJ⟩:=cZ.two;have ek:¬g=o:=ad;clear bf cZ di;go_wp2;refine eK (λb=>b=o) [(0,3),(1,3),(2,3),(3,0),(4,3),(5,3),(6,3),(7,0),(8,3),(9,1),(10,3),(11,2)] ?_
   iterate 3 refine pf ?_
   refine oG ?_
   iterate 3 refine pf ?_
   refine oG ?_;refine pf ?_;refine aI rfl (λK hK=>?_);go_simp;refine dP hK (Ef cL o 3 _) ?_;clear hK K;refine pf ?_;refine au rfl (λK hK=>?_);go_simp;refine dU hK ?_;clear hK K;refine aC ?_;generalize hX:World.setCell _ _ _=gB;have z:=FD hX;have c8:ao gB o 114 #[.string f.name,.int .i64 (cc f.params),.int .i64 (bQ f.params),.int .i64 gR,.slice dC (r1.length+1) dp]:=hX▸(ev.aJ 3 _).aJ 4 _;have dH:=d7.on z ek;have dE:=et.on z (by have:=(aM.o:W.heap.size<=g);omega);obtain⟨ds,eB,dz⟩:=eS z c8 dE;clear hX z a8 am aJ c0 cy bJ dE;obtain⟨a8,am,aJ⟩:=dH.two;obtain⟨c0,cy,bJ⟩:=c8.two;have d8:¬g=w.heap.size+2:=by have:=(aM.o:W.heap.size<=g);omega
   have ea:¬o=w.heap.size+2:=by have:=(aM.o:W.heap.size<=g);omega
   clear dH c8;obtain⟨d6,du,dw⟩:=dz.two;go_wp2;refine eK (λb=>b=w.heap.size+2) [(0,0),(1,3),(2,3),(3,3),(4,0),(5,3),(6,3),(7,3),(8,0),(9,3),(10,3),(11,3),(12,0),(13,1),(14,3),(15,3),(16,3)] ?_;refine Ge ?_
   iterate 3 refine pf ?_
   refine Ge ?_
   iterate 3 refine pf ?_
   refine Ge ?_
   iterate 3 refine pf ?_
   refine Ge ?_;refine aI rfl (λK hK=>?_);go_simp;generalize hX:World.setCell _ _ _=d2;obtain⟨bf,_,cB⟩:=bs (w:=w) [.string f.name,.int .i64 (cc f.params),.int .i64 (bQ f.params),.int .i64 gR,.slice dC (r1.length+1) dp] (by rfl) dz.o (Fr.low (M:=λb=>w.heap.size<=b) ((bw.mono λ_ h=>h.elim).trans ((ej.fr.mono λb hm=>a3.o b hm).trans (ds.mono λb O=>by have:=(aM.o:W.heap.size<=g);omega))) λ_ h=>h) (Nat.le_add_right _ _) hX;refine dP hK (uw (uw cB)) ?_;clear hK K
   iterate 3 refine pf ?_
   refine aC ?_;obtain⟨cu,eE,eF⟩:=bf.two;have es:=ah cB bf;clear a8 am aJ c0 cy bJ d6 du dw hX cB bf;go_wp2;refine Mf (v:=.tuple #[.agg #[.string f.name,.int .i64 (cc f.params),.int .i64 (bQ f.params),.int .i64 gR,.slice dC (r1.length+1) dp],.slice dI (a7.length+1) dO,.int .i64 0,.int .i64 0]) (by simp[results,Tryz.results71,go_sem,cu]) rfl ?_;obtain⟨cB,bf⟩:=es.o;have a6:=(aM.o:W.heap.size<=g)
   have el:eA p f=⟨f.name,cc f.params,bQ f.params,gR,r1++[nJ]⟩:=by
    unfold eA;simp only[bS.1]
   have bb:Ext w d2:=Fr.low (M:=λb=>w.heap.size<=b) ((bw.mono λ_ h=>h.elim).trans ((ej.fr.mono λb hm=>a3.o b hm).trans ((ds.mono λb O=>ad).trans (cB.mono λb O=>ad)))) λ_ h=>h;have b7:=dQ.rows.one;have bV:=b7.cap.1;have ew:Gr _ _ _ _ d2.drew.drew _ _ _ _:=(((b7.dh (ab:=gB) ds.size λb ap hp=>ds.block b ap λhe=>by
    rcases hp with hp|hp
    .have:=hp.1;omega
    .have:=(b7.lt hp).1;omega).dh (ab:=d2) cB.size λb ap hp=>cB.block b ap λhe=>by
    rcases hp with hp|hp
    .have:=hp.1;omega
    .have:=(b7.lt hp).1;omega).aj (Fr.refl _ d2).drew).aj (Fr.refl _ d2.drew).drew
   have ed:=ew.sl (Q:=fresh w d2.drew.drew) (λb ac ax=>⟨by have:=ax.1;omega,ac⟩) (λb ac ax=>⟨ad,ac⟩);rw[LD] at ed bV;refine⟨dC,r1.length+1,dp,dI,a7.length+1,dO,by rw[el],?_,bb.drew.drew⟩;rw[el];exact yX.2 ⟨dC,r1.length+1,dp,rfl,bV,ed⟩
 ):p:=h
end Db
open Db in
theorem s7(dv:∀U nk F b,lY U nk F b)(p:bM)(hp:pB p)(f:aG)(J:f∈p.funcs)(GA:Mk)(gn gc:Nat)(MA:Mk)(mn mc:Nat)(FA:Mk)(fn fc:Nat)(bB:Mk)(ln lc:Nat)(PA:Mk)(pn pc:Nat)(fD:Mk)(bn bc:Nat)(w:World)
  (h:hP w (av w) p GA gn MA mn FA fn) (hl:Sl w (av w) bB ln ((bm p).map bY)) (cl:Sl w (av w) PA pn (f.params.map cz)) (bt:Sl w (av w) fD bn (c7 f.body)) :
  Calls prog 71 #[.agg #[.slice GA gn gc,.slice MA mn mc,.slice FA fn fc],.slice bB ln lc,.agg #[.string f.name,.slice PA pn pc,.slice fD bn bc]] w (I0 w (eA p f)):=by
 have aY:=h.g;have hm:=h.m;have bu:=h.f;have dq:p.globals.length=gn:=by rw[<-aY.1,LG]
 have lm:p.af.length=mn:=by rw[<-hm.1,LG]
 have lf:p.funcs.length=fn:=by rw[<-bu.1,LG]
 exact sO
end Go.Proofs.YtflecliffjbleaaGreat

/- Part 36 of the proof. No condition of its own. -/
import Derived.Test.YtglbpimocmhojaaGreatQ35
namespace Go.Proofs.YtglbpimocmhojaaGreat
open Go.RowKit Go.Proofs.Tryz
set_option maxRecDepth 1000000
set_option maxHeartbeats 25600000
set_option linter.unusedVariables false
variable{p:Prop}{w:World}
theorem Dw(w:World)(b i:Nat)(v:Value):Fr (λk=>k=b) w.drew (w.setCell ⟨b,i,none⟩ v).drew:=
 have h:=(Fr.refl (λk=>k=b) w).setCell (p:=⟨b,i,none⟩) (.inl rfl) v
 ⟨h.os,h.tape,h.output,h.size,h.block⟩
theorem tI{M:Nat->Prop}{ab:World}(h:Fr M w ab):Fr M w.drew ab.drew:=⟨h.os,h.tape,h.output,h.size,h.block⟩
theorem qe:∀(ps:List (ByteArray×Bool)) (q:ByteArray×Bool) (i k:Int),dQ (ps++[q]) i k=dQ ps i k++[if q.2 then ⟨q.1,5,k+bR ps⟩ else ⟨q.1,4,i+cd ps⟩]
 | [],(s,true),i,k=>by simp[dQ,bR]
 | [],(s,false),i,k=>by simp[dQ,cd]
 | (x,true)::ps,q,i,k=>by
  have:=(gL x true ps).2;have au:=(gL x true ps).1;rw[KS,dQ,dQ,qe ps q i (k+1),this,au];simp
  split<;>simp<;>omega
 | (x,false)::ps,q,i,k=>by
  have:=(gL x false ps).2;have au:=(gL x false ps).1;rw[KS,dQ,dQ,qe ps q (i+1) k,this,au];simp;split<;>simp<;>omega
theorem k3(ps:List (ByteArray×Bool))(q:ByteArray×Bool):cd (ps++[q])=cd ps+(if q.2 then 0 else 1)/\bR (ps++[q])=bR ps+(if q.2 then 1 else 0):=by
 obtain⟨s,b⟩:=q;cases b<;>simp[cd,bR]
theorem ya{P:Nat->Prop}{p:cH}{cs:List Value}:(gd p).rep w P cs↔∃A n c,cs=[.string p.name,.int .i64 p.ints,.int .i64 p.au,.int .i64 p.locals,.slice A n c]/\n<=c/\Sl w P A n (p.code.map ef):=by
 unfold gd;rw[bI,cp];constructor
 .rintro⟨y,rfl,h⟩;exact Gs
 .rintro⟨A,n,c,rfl,hc,hs⟩;exact⟨_,rfl,bm.2 ⟨_,rfl,bm.2 ⟨_,rfl,bm.2 ⟨_,rfl,aN.2 ⟨A,n,c,[],rfl,hc,hs,aP.2 rfl⟩⟩⟩⟩⟩
def HW(w:World)(x:cH)(e:Ending)(ab:World):Prop:=∃(A:Lp) (n c:Nat) (bR:Lp) (bV bC:Nat),
 e=.returned (.tuple #[.agg #[.string x.name,.int .i64 x.ints,.int .i64 x.au,.int .i64 x.locals,.slice A n c],.slice bR bV bC,.int .i64 0,.int .i64 0])/\(gd x).rep ab (fresh w ab) [.string x.name,.int .i64 x.ints,.int .i64 x.au,.int .i64 x.locals,.slice A n c]/\Ext w ab
namespace BH
theorem dB(h:p:=by
 clear a8 am aF;generalize hX:World.setCell _ _ _=X;have b8:=cJ hX;have bG:=b4.2.2.2.2.2.1.on b8 ad;have z:aq X g 186 #[.slice GA gn gc,.slice MA mn mc,.slice FA fn fc,.slice A2 (ln+k+1) c2,.int .i64 0,.int .i64 0,.int .i64 0,.int .i64 0,.slice none 0 0,.slice none 0 0]:=hX▸b4.2.2.2.2.1.aM 3 _;have aQ:=ah b8 z;clear c0 bV bt hX b8 z;obtain⟨c0,bV,bt⟩:=bG.two;have da:=ae bG;clear bG;have b6:=mF (f.params.take k);have aM:=iG (f.params.take k);have bZ:(f.params.take k).length<=2:=by rw[List.length_take];omega
 have d7:wrap64 (bR (f.params.take k)+1)=bR (f.params.take k)+1:=IntWalk.wrap64_in _ ad;go_upto_region 5 with(fail);generalize bB:World.setCell _ _ _=cK
 try rw[d7] at bB
 have ay:=cJ bB;obtain⟨bF,b0,b1,cj,_,_,cG⟩:=b4.o;obtain⟨b8,z⟩:=aQ.o;have aj:=(aO.o:W.heap.size<=g)
 have r1:Gr (λ_=>False) W.heap.size 145 3 cK A2 (ln+(k+1)) c2 ((bo p++dQ (f.params.take (k+1)) 0 0).map bY):=by
  exact Gd
 have gP:Ext w cK:=Fr.low (M:=λb=>w.heap.size<=b) ((b0.mono λ_ h=>h.elim).trans ((b8.mono λb O=>ad).trans (ay.mono λb O=>ad))) λ_ h=>h;have gQ:=(b1.on b8 ad).on ay ad;have cg:=(cj.on b8 ad).on ay ad;have rg:=z.on ay ad;have ro:aq cK o 82 #[.string f.name,.int .i64 (cd (f.params.take (k+1))),.int .i64 (bR (f.params.take (k+1))),.int .i64 0,.slice none 0 0]:=by
  rw[aZ bU.o,(k3 _ _).1,(k3 _ _).2,bs,<-bB];simpa using da.aM 2 _
 exact Gu
 ):p:=h
theorem eQ(h:p:=by
 refine tf ?_;refine b3 ?_;generalize ct:World.setCell _ _ _=Y;obtain⟨_,s,_⟩:=pI b7 bm aj ct;have bg:=ae (bq.trans s);have m:=N.ai s;have ee:=ae m;have du:=ae (bI.ai s);have cz:=bH.ai s;have an:=bS.ai s;have cF:=ae (bO.ai s);replace h0:=(s.cell bP (λh=>h)).trans h0
 replace cb:=(s.cell bP (λh=>h)).trans cb
 have cR:=s.size;replace bP:pb<Y.heap.size:=KE bP cR
 clear ct c0 bV bt b7 bm aj s a0 ai af a8 am aF bH bS;obtain⟨bH,bS⟩:=aH cz an;obtain⟨a0,ai,af⟩:=m.two;obtain⟨a8,am,aF⟩:=cz.two;obtain⟨c0,bV,bt⟩:=an.two;clear m cz an;have c9:¬Y.heap.size<=g:=ad;have ev:¬Y.heap.size<=o:=ad;have eo:¬Y.heap.size<=w.heap.size+1:=ad;have ew:¬Y.heap.size<=pb:=ad
 cases bs:q.2 with
 | true=>
  rw[bs] at cb;go_wp2;refine eK (λb=>Y.heap.size<=b) [(0,3),(1,3),(2,3),(3,3),(4,0),(5,3),(6,0),(7,3),(8,3),(9,3),(10,0),(11,3),(12,0),(13,3),(14,1),(15,2),(16,3),(17,3),(18,2)] ?_
  iterate 4 refine pf ?_
  refine oq ?_;refine pf ?_;refine oq ?_
  iterate 3 refine pf ?_
  refine oq ?_;refine pf ?_;refine oq ?_;refine pf ?_;refine qV ?_;generalize hV:World.drew (World.alloc _ _)=dm;have e1:=gG hV;have cA:aq dm Y.heap.size 145 #[.string q.1,.int .i64 5,.int .i64 (bR (f.params.take k))]:=hV▸(Lm).drew;clear hV;refine ax rfl (λK hK=>?_);rw[if_pos (by rfl)];refine e5 jd (.tmp 57) (.tmp 67) (by rfl) (cF.ai e1) cA (jQ ⟨q.1,5,bR (f.params.take k)⟩) (by rfl) (by rfl) (by rfl) ad ad (aC e1.size) ?_;intro A2 c2 cL bF az al ci;have b0:Ext w cL:=Fr.low (M:=λb=>w.heap.size<=b) (((bg.trans e1).mono λ_ h=>h.elim).trans (az.mono λb O=>by have:=(cF.lt O).1;omega)) λ_ h=>h;have aB:∀b,(Value.slice A (ln+k) c).ownBlock=some b->W.heap.size<=b/\b≠g/\b≠o:=λb O=>⟨(cF.lt O).1,λe=>by subst e;exact bz.1 O,λe=>by subst e;exact bz.2 O⟩
  have b1:=(ee.ai e1).on az λO=>by have:=(aB _ O).1;omega
  have cj:=(du.ai e1).on az λO=>by have:=(aB _ O).1;omega
  have kg:=(bH.ai e1).on az λO=>(aB _ O).2.1 rfl;have ea:=(bS.ai e1).on az λO=>(aB _ O).2.2 rfl;have cG:(Value.slice A2 (ln+k+1) c2).ownBlock≠some g/\(Value.slice A2 (ln+k+1) c2).ownBlock≠some o:=by
   exact y2
  have b4:=hP bF b0 b1 cj kg ea cG;clear bF az al b0 aB b1 cj cG a0 ai af a8 am aF c0 bV bt e1 cA h0 cb bP c9 ev eo ew;obtain⟨a8,am,aF⟩:=kg.two;obtain⟨c0,bV,bt⟩:=ea.two;clear kg ea;refine dO hK ?_;clear hK K
  iterate 2 refine pf ?_
  exact eP
 | false=>
  rw[bs] at cb;go_wp2;refine eK (λb=>Y.heap.size<=b) [(0,3),(1,3),(2,3),(3,3),(4,0),(5,3),(6,0),(7,3),(8,3),(9,3),(10,0),(11,3),(12,0),(13,3),(14,1),(15,2),(16,3),(17,3),(18,2)] ?_
  iterate 4 refine pf ?_
  refine oq ?_;refine pf ?_;refine oq ?_
  iterate 3 refine pf ?_
  refine oq ?_;refine pf ?_;refine oq ?_;refine pf ?_;refine qV ?_;generalize hV:World.drew (World.alloc _ _)=dm;have e1:=gG hV;have cA:aq dm Y.heap.size 145 #[.string q.1,.int .i64 4,.int .i64 (cd (f.params.take k))]:=hV▸(Lm).drew;clear hV;refine ax rfl (λK hK=>?_);rw[if_pos (by rfl)];refine e5 jd (.tmp 79) (.tmp 89) (by rfl) (cF.ai e1) cA (jQ ⟨q.1,4,cd (f.params.take k)⟩) (by rfl) (by rfl) (by rfl) ad ad (aC e1.size) ?_;intro A2 c2 cL bF az al ci;have b0:Ext w cL:=Fr.low (M:=λb=>w.heap.size<=b) (((bg.trans e1).mono λ_ h=>h.elim).trans (az.mono λb O=>by have:=(cF.lt O).1;omega)) λ_ h=>h;have aB:∀b,(Value.slice A (ln+k) c).ownBlock=some b->W.heap.size<=b/\b≠g/\b≠o:=λb O=>⟨(cF.lt O).1,λe=>by subst e;exact bz.1 O,λe=>by subst e;exact bz.2 O⟩
  have b1:=(ee.ai e1).on az λO=>by have:=(aB _ O).1;omega
  have cj:=(du.ai e1).on az λO=>by have:=(aB _ O).1;omega
  have kg:=(bH.ai e1).on az λO=>(aB _ O).2.1 rfl;have ea:=(bS.ai e1).on az λO=>(aB _ O).2.2 rfl;have cG:(Value.slice A2 (ln+k+1) c2).ownBlock≠some g/\(Value.slice A2 (ln+k+1) c2).ownBlock≠some o:=by
   exact y2
  have b4:=hP bF b0 b1 cj kg ea cG;clear bF az al b0 aB b1 cj cG a0 ai af a8 am aF c0 bV bt e1 cA h0 cb bP c9 ev eo ew;obtain⟨a8,am,aF⟩:=kg.two;obtain⟨c0,bV,bt⟩:=ea.two;clear kg ea;refine dO hK ?_;clear hK K
  iterate 2 refine pf ?_
  refine ax rfl (λK hK=>?_);go_simp;refine dO hK ?_;clear hK K;refine aE ?_;clear a8 am aF;generalize hX:World.setCell _ _ _=X;have b8:=cJ hX;have bG:=b4.2.2.2.2.2.1.on b8 ad;have z:aq X g 186 #[.slice GA gn gc,.slice MA mn mc,.slice FA fn fc,.slice A2 (ln+k+1) c2,.int .i64 0,.int .i64 0,.int .i64 0,.int .i64 0,.slice none 0 0,.slice none 0 0]:=hX▸b4.2.2.2.2.1.aM 3 _;have aQ:=ah b8 z;clear c0 bV bt hX b8 z;obtain⟨c0,bV,bt⟩:=bG.two;have da:=ae bG;clear bG;have b6:=mF (f.params.take k);have aM:=iG (f.params.take k);have bZ:(f.params.take k).length<=2:=by rw[List.length_take];omega
  have d7:wrap64 (cd (f.params.take k)+1)=cd (f.params.take k)+1:=IntWalk.wrap64_in _ ad;go_upto_region 5 with(fail);generalize bB:World.setCell _ _ _=cK
  try rw[d7] at bB
  have ay:=cJ bB;obtain⟨bF,b0,b1,cj,_,_,cG⟩:=b4.o;obtain⟨b8,z⟩:=aQ.o;have aj:=(aO.o:W.heap.size<=g)
  have r1:Gr (λ_=>False) W.heap.size 145 3 cK A2 (ln+(k+1)) c2 ((bo p++dQ (f.params.take (k+1)) 0 0).map bY):=by
   exact Gd
  have gP:Ext w cK:=Fr.low (M:=λb=>w.heap.size<=b) ((b0.mono λ_ h=>h.elim).trans ((b8.mono λb O=>ad).trans (ay.mono λb O=>ad))) λ_ h=>h;have gQ:=(b1.on b8 ad).on ay ad;have cg:=(cj.on b8 ad).on ay ad;have rg:=z.on ay ad;have ro:aq cK o 82 #[.string f.name,.int .i64 (cd (f.params.take (k+1))),.int .i64 (bR (f.params.take (k+1))),.int .i64 0,.slice none 0 0]:=by
   rw[aZ bU.o,(k3 _ _).1,(k3 _ _).2,bs,<-bB];simpa using da.aM 1 _
  exact Gu
 ):p:=h
theorem vq(h:p:=by
 refine(dV A (ln+k) c _ q.1 V.drew (cf.on (Fr.ext bm.drew)) ad).mono ?_;rintro e aS ⟨rfl,ar⟩;rw[a6];simp only[iU];refine dO hK ?_;clear hK K
 iterate 3 refine tf ?_
 have cE:=aR.ai (Fr.aF ar);have aN:=bm.trans (Fr.aF ar);clear aR bm ar;exact key wr.heap.size aS ⟨aN,cE,KD _⟩
 ):p:=h
theorem so(h:p:=by
 have es:((bo p).map bY).length=ln:=hl.1;have dt:ln<=100:=by rw[<-hl.1,KH,kP];omega
 have bk:f.params.length=pn:=by rw[<-cl.1,KH]
 have gs:pn<=2:=by have:=(hp.funcs f J).jy;omega
 obtain⟨cn,dl,cQ,bT,b9,gL,dw⟩:=CT hp J hm bW hl cl bl;have aD:=ah es bk;clear h a2 hm bW hl cl bl hp J dv lm lf es bk;go_enter func70,ntmps70;go_upto_region 1 with(fail);generalize ba:World.alloc _ _=W;have aw:=lF ba;have bD:=jo ba;have ce:=ir ba;have cD:=jq ba;have cZ:=aw.size;obtain⟨bq,N,bI⟩:=eh aw ce cD;have y:=ky ((b9.on (Fr.ext aw)).on (Fr.ext (Fr.refl _ W).drew));obtain⟨a0,ai,af⟩:=bD.two;have eE:¬W.heap.size<=w.heap.size:=by have:=cD.lt;omega
 have cN:w.heap.size+2<W.heap.size:=cD.lt;clear ba aw bD ce cD;refine eK (λb=>W.heap.size<=b) [(0,0),(2,3),(1,1),(3,1),(4,3),(5,2),(6,3)] ?_;refine oq ?_;refine pf ?_;refine qV ?_;generalize hV:World.drew (World.alloc _ _)=cC;have e1:=gG hV;have cP:Gr (λ_=>False) W.heap.size 145 3 cC (some ⟨W.heap.size,0,none⟩) 0 0 []:=hV▸(Gr.lit (w:=W) (n:=0) (l:=[]) rfl (by rfl) ad (by simp only[D.aQ])).ai Ll.drew;have d0:=ky (b9.on (Fr.ext (bq.trans e1)));clear hV y;refine aI rfl (λK hK=>?_);rw[if_pos (by rfl)];refine jl jd (.tmp 16) (.tmp 17) (by rfl) cP (kT (bo p)) aD.1 d0 (λh=>by subst h;exact Sl.none_ b9.o) (by rfl) (by rfl) ad ad e1.size ?_;intro bJ cv aT ca f1 o1 c1;refine dz hK (f1.mono λb O=>ad) ?_;clear hK K;have e2:Ext W aT:=Fr.low (M:=λb=>W.heap.size<=b) ((e1.mono λ_ h=>h.elim).trans (f1.mono λb O=>ad)) λ_ h=>h;have dq:=λb O=>(ca.lt (g:=b) O)
 have eJ:W.heap.size<=aT.heap.size:=e2.size;refine pf ?_;refine ax rfl (λK hK=>?_);go_simp;generalize hV:World.alloc _ _=eI;have e3:=aX hV;have cz:=aK hV;refine dO hK ?_;clear hK K;refine pf ?_;refine aE ?_;have a9:=ae (bq.trans (e2.trans e3));have bf:=ae (ca.ai e3);have db:=N.ai (e2.trans e3);have dF:=ae db;have bb:=ae (bI.ai (e2.trans e3));have bH:=ae cz;have co:w.heap.size+3<=aT.heap.size:=by have:=e2.size;have:=bI.lt;omega
 have bQ:∀b,(Value.slice bJ ln cv).ownBlock=some b->W.heap.size<=b/\b<aT.heap.size:=λb O=>dq b O;have aA:=ae bQ;clear hV e1 cP d0 ca f1 o1 c1 e2 e3 cz dq eE a0 ai af bq N bI bQ;obtain⟨a0,ai,af⟩:=db.two;clear db;generalize eF:aT.heap.size=g at *;go_upto_region 3 with(fail);generalize hV:World.alloc _ _=V;have L:=aX hV;have an:=aK hV;have c8:g<eI.heap.size:=bH.lt;generalize d5:eI.heap.size=o at *;have aL:=ae (show Gr (λ_=>False) W.heap.size 145 3 V bJ ln cv ((bo p).map bY)/\(Value.slice bJ ln cv).ownBlock≠some g/\(Value.slice bJ ln cv).ownBlock≠some o/\Ext w V/\aq V (w.heap.size+1) 136 #[.string f.name,.slice PA pn pc,.slice fu bn bc]/\
   aq V (w.heap.size+2) 82 #[.string ⟨#[]⟩,.int .i64 0,.int .i64 0,.int .i64 0,.slice none 0 0]/\aq V g 186 #[.slice GA gn gc,.slice MA mn mc,.slice FA fn fc,.slice bJ ln cv,.int .i64 0,.int .i64 0,.int .i64 0,.int .i64 0,.slice none 0 0,.slice none 0 0]/\aq V o 82 #[.string f.name,.int .i64 0,.int .i64 0,.int .i64 0,.slice none 0 0] from
  ⟨bf.ai L,λO=>by have:=aA.o _ O;omega,λO=>by have:=aA.o _ O;omega,a9.trans L,dF.ai L,bb.ai L,bH.ai L,an⟩)
 have en:W.heap.size<=g:=ad;clear hV L an bf a9 dF bb bH a0 ai af aA eF d5;have aO:=ae en;obtain⟨cp,bN,cO,de,f2,bE,ex,fd⟩:=aL.o;have dS:=ae (show Gr (λ_=>False) W.heap.size 145 3 V bJ (ln+0) cv ((bo p++dQ (f.params.take 0) 0 0).map bY)/\(Value.slice bJ (ln+0) cv).ownBlock≠some g/\(Value.slice bJ (ln+0) cv).ownBlock≠some o/\Ext w V/\aq V (w.heap.size+1) 136 #[.string f.name,.slice PA pn pc,.slice fu bn bc]/\aq V (w.heap.size+2) 82 #[.string ⟨#[]⟩,.int .i64 0,.int .i64 0,.int .i64 0,.slice none 0 0]/\aq V g 186 #[.slice GA gn gc,.slice MA mn mc,.slice FA fn fc,.slice bJ (ln+0) cv,.int .i64 0,.int .i64 0,.int .i64 0,.int .i64 0,.slice none 0 0,.slice none 0 0]/\aq V o 82 #[.string f.name,.int .i64 (cd (f.params.take 0)),.int .i64 (bR (f.params.take 0)),.int .i64 0,.slice none 0 0] from ⟨by simpa[dQ] using cp,bN,cO,de,f2,bE,ex,by simpa[cd,bR] using fd⟩);clear cp bN cO de f2 bE ex fd;go_wp2
 go_loopw [12] (λcu wr=>∃(k:Nat) (A:Lp) (c:Nat),k<=pn/\cu=.int .i64 k/\Gr (λ_=>False) W.heap.size 145 3 wr A (ln+k) c ((bo p++dQ (f.params.take k) 0 0).map bY)/\(Value.slice A (ln+k) c).ownBlock≠some g/\(Value.slice A (ln+k) c).ownBlock≠some o/\Ext w wr/\aq wr (w.heap.size+1) 136 #[.string f.name,.slice PA pn pc,.slice fu bn bc]/\aq wr (w.heap.size+2) 82 #[.string ⟨#[]⟩,.int .i64 0,.int .i64 0,.int .i64 0,.slice none 0 0]/\aq wr g 186 #[.slice GA gn gc,.slice MA mn mc,.slice FA fn fc,.slice A (ln+k) c,.int .i64 0,.int .i64 0,.int .i64 0,.int .i64 0,.slice none 0 0,.slice none 0 0]/\aq wr o 82 #[.string f.name,.int .i64 (cd (f.params.take k)),.int .i64 (bR (f.params.take k)),.int .i64 0,.slice none 0 0]) (λcu _=>pn - (intOf cu).toNat)
 case atStart=>exact⟨0,bJ,cv,ad,rfl,dS.o⟩
 case round=>
  obtain⟨k,A,c,ap,rfl,hG,di,dj,aw,ce,cD,cz,an⟩:=hrel;clear aL dS;have bO:=ae hG;have bz:=ah di dj;obtain⟨bq,N,bI,bH,bS⟩:=CJ aw ce cD cz an;obtain⟨a0,ai,af⟩:=ce.two;obtain⟨a8,am,aF⟩:=cz.two;have aP:=aw.size;by_cases ak:k<pn
  .obtain⟨pb,eX,q,cs,rfl,dN,bv,bC,bj,Z⟩:=(gL.on (Fr.ext aw)).g0 rm ak;obtain rfl:=nO.1 bC;have h0:=Z 0 _ rfl;have cb:=Z 1 _ rfl;simp only[KN] at h0;have bP:pb<wr.heap.size:=dN;have bU:=ae bv;have a6:dA (bo p++dQ (f.params.take k) 0 0) q.1=none:=by
    refine jR λj x bi hx=>?_;have bu:=(cn.funcs f dl.o).fresh;have dD:x.name∈(bo p++dQ (f.params.take k) 0 0).map (·.name):=Lc.2 ⟨x,KG bi,rfl⟩;rw[KK,fP,fM] at dD;have dE:f.params=f.params.take k++q::f.params.drop (k+1):=by
     have:=List.take_append_drop k f.params;rw[<-this];congr 1
     .rw[this]
     .rw[this,List.drop_eq_getElem?_toList_append,bv];rfl
    rw[dE,KK,KJ,<-List.append_assoc,List.nodup_append] at bu;exact bu.2.2 _ dD q.1 (by simp) hx
   have y:=bO.sl (Q:=av wr) (λb _ h=>h.elim) (λb h _=>h);have cf:=ae y;clear bC bj Z dN bv hG di dj aw ce cD cz an y;go_upto_region 6 with(fail);refine qY (λ_=>False) [10,15] (.free 0 (.free 1 (.free 2 (.held 3 (.free 4 (.held 5 (.free 6 (.free 7 (.free 8 (.held 9 (.pick [10,14] (λi=>bif i == 10 then .free 11 (.free 12 (.free 13 (.pick [14] (λ_=>.pick [15] (λ_=>.free 16 (.stop)))))) else .pick [10] (λ_=>.free 11 (.free 12 (.free 13 (.pick [15] (λ_=>.free 16 (.stop)))))))))))))))))) ?_
   iterate 3 refine tf ?_
   refine th ?_;refine tf ?_;refine th ?_
   iterate 3 refine tf ?_
   refine th ?_;refine k9 (P:=?JA) (ops:=?JJ) (Q:=?JK) (R:=?JL) (tails:=?JM) (rest:=.pick [15] (λ_=>.free 16 (.stop))) (aa:=?JB) (C:=λc6 V=>Ext wr V/\aq V c6 145 #[.string ⟨#[]⟩,.int .i64 0,.int .i64 0]/\wr.heap.size<=c6) (λkey=>?Ip) ?Ij
   case Ip=>
    refine aY ?_ ?_
    ·
     refine bM rfl (λK hK=>?_) rfl;go_simp;refine(dV A (ln+k) c _ q.1 wr.drew (cf.on (Fr.ext Ll.drew)) ad).mono ?_;rintro e aS ⟨rfl,ar⟩;rw[a6];simp only[iU];refine dO hK ?_;clear hK K
     iterate 3 refine tf ?_
     refine ao ?_;refine dP ?_;generalize hV:World.alloc _ _=V;have aR:=aK hV;have bm:Ext wr V:=hV▸(Fr.aF ar).alloc _;exact C1
    ·
     exact vp
   case Ij=>
    rintro c6 V ⟨bm,b7,aj⟩;obtain⟨c0,bV,bt⟩:=b7.two;exact fj
  .obtain rfl:pn=k:=ad;rw[KL (by rw[aD.2];exact KD _)] at hG an;have cc:=bS.o;rw[KL (by rw[aD.2];exact KD _)] at cc;clear bO bS an;obtain⟨bO,bS⟩:=aH hG cc;obtain⟨c0,bV,bt⟩:=cc.two;clear hG di dj aw ce cD cz cc;go_upto_region 15 with(fail);generalize hX:World.setCell _ _ _=X;have b8:=cJ hX;have z:aq X g 186 #[.slice GA gn gc,.slice MA mn mc,.slice FA fn fc,.slice A (ln+pn) c,.int .i64 (cd f.params),.int .i64 0,.int .i64 0,.int .i64 0,.slice none 0 0,.slice none 0 0]:=hX▸bH.aM 4 _;have d2:w.heap.size<=g:=by have:=(aO.o:W.heap.size<=g);omega
   have bp:Ext w X:=Fr.low (M:=λb=>w.heap.size<=b) ((bq.mono λ_ h=>h.elim).trans (b8.mono λb O=>ad)) λ_ h=>h;have cB:=bO.dj (ab:=X) b8.size λb ak hp=>b8.block b ak λhe=>by
    subst he;rcases hp with hp|hp
    .exact hp.elim
    .exact bz.1 hp
   have aV:∀b,av w b->off (Ms g (.slice none 0 0) (.slice none 0 0)) X b:=λb O=>⟨KE O bp.size,λhm=>by
    rcases hm with hm|hm|hm
    .have:b<w.heap.size:=O;omega
    .cases hm
    .cases hm⟩
   have dT:=(cQ.ak (ab:=X) λb O=>bp.block b O λh=>h).mono aV;have b5:=(bT.ak (ab:=X) λb O=>bp.block b O λh=>h).mono aV;have dW:=(dw.ak (ab:=X) λb O=>bp.block b O λh=>h).mono aV;have d1:Sl X (off (Ms g (.slice none 0 0) (.slice none 0 0)) X) A (ln+pn) ((bo p++dQ f.params 0 0).map bY):=by
    obtain⟨d4,xs,ac,au⟩:=cB;exact Sl.p9 ac (tE au) d4 λb bw _ ak=>⟨ak,λhm=>by
     rcases hm with hm|hm|hm
     .subst hm;exact bz.1 (by rw[bw];rfl)
     .cases hm
     .cases hm⟩
   have el:cI X g (o+1) p.af p.funcs (bo p++dQ f.params 0 0) A (ln+pn) c (cd f.params) 0 [] [] none 0 none 0:=
    ⟨⟨GA,gn,gc,MA,mn,mc,FA,fn,fc,z,ad,ad,dT,b5⟩,⟨ad,by have:=b8.size;have:=bt;omega⟩,⟨ad,d1⟩,la.nil _ _ _ _ _ _⟩
   have br:=N.on b8 (by have:=(aO.o:W.heap.size<=g);omega);obtain⟨ez,ed,be,eG⟩:=iS el dW bp br;have ec:=ae (bI.on b8 (by have:=(aO.o:W.heap.size<=g);omega));have ej:=ae (bS.on b8 ad);clear a0 ai af a8 am aF c0 bV bt hX b8 z bp cB aV dT b5 dW d1 el;obtain⟨a0,ai,af⟩:=br.two;clear br;have eZ:=mF f.params;have e0:=iG f.params;have cW:=ae (show ∀b,Ms g (.slice none 0 0) (.slice none 0 0) b->w.heap.size<=b from λb hm=>by
    rcases hm with hm|hm|hm
    .omega
    .cases hm
    .cases hm)
   have dh:Sc (bx (gj p)) (hR p f) (bo p++dQ f.params 0 0) (fo p++cr f.params) (bh p++f.params.map (·.1)) (cd f.params) (bR f.params):=uw cn.o dl.o;have ey:(bx (gj p)).af=p.af:=by rw[n8]
   have I:f.body.num<=64:=KU (jj (λf:aJ=>f.body.num) dl.o) cn.jy;have dk:=dR f.body 4 _ _ _ (cd f.params) [] (cn.funcs f dl.o).body dh;have cy:(bo p++dQ f.params 0 0).length<=200:=by
    have ac:=aD.1;rw[KH] at ac;have au:=congrArg List.length (fM f.params 0 0);rw[KH,KH] at au;have aU:=aD.2;rw[KF,ac,au];omega
   obtain⟨a5,dJ,ek,d3⟩:=iS dh dk ey cy;clear dh dk ey cy;go_wp2_with(fail);have bk:=aD.2;have cy:=d3.o;refine(df (bx (gj p)) (bR f.params) p.funcs f.body (hR p f) 4 _ _ _ (cd f.params) 0 [] [] g (o+1) A (ln+pn) c none 0 none 0 fu bn bc X (cn.funcs f dl.o).body a5.o (Du cn.o dl.o) (λh ag=>by have:=(cn.funcs h ag).jy;omega) (by rw[ek.o];exact ez.o) ed.o (by simp;omega) rfl ad ad ad).mono ?_;rintro e c7 ⟨rfl,cx,ch,cM,cT,a4,bN,a3,ck⟩;have dk:=dJ.o;rw[ek.o] at a3;clear bk cy dJ;generalize bv:dH f.body (bo p++dQ f.params 0 0) (cd f.params) []=r at *;obtain⟨r1,dL⟩:=r;obtain⟨⟨gH,cS,eq,_⟩,bd,dd⟩:=dk;simp only[Le,KV] at bN a3 ck cS bd dd;have cV:r1.length<=128:=by rw[cS];omega
   have dp:∀b,b≠g->¬Ms g (.slice none 0 0) (.slice none 0 0) b:=λb O hm=>by
    rcases hm with hm|hm|hm
    .exact O hm
    .cases hm
    .cases hm
   obtain⟨dr,d8⟩:=ec.cO (dp _ (by have:=(aO.o:W.heap.size<=g);omega)) ck;obtain⟨c3,d9⟩:=ej.cO (dp _ ad) ck;obtain⟨cH,eS⟩:=aH a3 ck;obtain⟨fe,eY,eV,fh,e8,e6,fa,eT,eO,gq,_⟩:=a3.blk;have c5:=bL dr d8 c3 d9;have bU:=bL bv bN bd dd;clear a0 ai af a3 ck dr c3 cS eq d8 d9 bv bN;obtain⟨a8,am,aF⟩:=gq.two;clear gq;clear bd dd dp;go_wp2_with(fail);refine(g3 cH.o ni (f.body.num:Int) (ju (is:=[]) (ps:=[]) (Sl.bN _) (Sl.bN _) (KD _) (KD _)) ad (aC bU.2.1)).mono ?_;rintro e cU ⟨rfl,dG,dn,dM,dX,cX,dc⟩;have dY:=ae cX;have cw:Mv g (.slice cx r1.length ch) (.slice cM a4.length cT) c7 (.slice dG (r1++[ni]).length dn) (.slice dM (a4++[(f.body.num:Int)]).length dX) cU:=by rw[KF,KF];exact dc
   have eu:=ae (eS.trans cw);obtain⟨dr,d8⟩:=c5.1.cO c5.2.1 cw;obtain⟨c3,d9⟩:=c5.2.2.1.cO c5.2.2.2 cw;obtain⟨eB,eC⟩:=aH dr c3;obtain⟨fb,eW,eU,ff,e7,e4,e9,eR,eN,cm,_⟩:=cX.blk;have ei:=ae cm;clear cX dc cw a8 am aF;obtain⟨a8,am,aF⟩:=cm.two;obtain⟨c0,bV,bt⟩:=c3.two;have ep:¬g=o:=ad;clear cm c3 dr;go_wp2;refine eK (λb=>b=o) [(0,3),(1,3),(2,3),(3,0),(4,3),(5,3),(6,3),(7,0),(8,3),(9,1),(10,3),(11,2)] ?_
   iterate 3 refine pf ?_
   refine oq ?_
   iterate 3 refine pf ?_
   refine oq ?_;refine pf ?_;refine aI rfl (λK hK=>?_);go_simp;refine dz hK (Dw cU o 3 _) ?_;clear hK K;refine pf ?_;refine ax rfl (λK hK=>?_);go_simp;refine dO hK ?_;clear hK K;refine aE ?_;generalize hX:World.setCell _ _ _=gB;have T:=EM hX;have dg:aq gB o 82 #[.string f.name,.int .i64 (cd f.params),.int .i64 (bR f.params),.int .i64 dL,.slice dG (r1.length+1) dn]:=hX▸(eC.aM 3 _).aM 4 _;have dZ:=ei.on T ep;have dU:=eB.on T (by have:=(aO.o:W.heap.size<=g);omega);obtain⟨dx,eH,dI⟩:=eh T dg dU;clear hX T a8 am aF c0 bV bt dU;obtain⟨a8,am,aF⟩:=dZ.two;obtain⟨c0,bV,bt⟩:=dg.two;have ef:¬g=w.heap.size+2:=by have:=(aO.o:W.heap.size<=g);omega
   have eg:¬o=w.heap.size+2:=by have:=(aO.o:W.heap.size<=g);omega
   clear dZ dg;obtain⟨d6,dy,dC⟩:=dI.two;go_wp2;refine eK (λb=>b=w.heap.size+2) [(0,0),(1,3),(2,3),(3,3),(4,0),(5,3),(6,3),(7,3),(8,0),(9,3),(10,3),(11,3),(12,0),(13,1),(14,3),(15,3),(16,3)] ?_;refine Fk ?_
   iterate 3 refine pf ?_
   refine Fk ?_
   iterate 3 refine pf ?_
   refine Fk ?_
   iterate 3 refine pf ?_
   refine Fk ?_;refine aI rfl (λK hK=>?_);go_simp;generalize hX:World.setCell _ _ _=eb;obtain⟨cm,_,b2⟩:=bA (w:=w) [.string f.name,.int .i64 (cd f.params),.int .i64 (bR f.params),.int .i64 dL,.slice dG (r1.length+1) dn] (by rfl) dI.o (Fr.low (M:=λb=>w.heap.size<=b) ((be.mono λ_ h=>h.elim).trans ((eu.fr.mono λb hm=>cW.o b hm).trans (dx.mono λb O=>by have:=(aO.o:W.heap.size<=g);omega))) λ_ h=>h) (Nat.le_add_right _ _) hX;refine dz hK (tI (tI b2)) ?_;clear hK K
   iterate 3 refine pf ?_
   refine aE ?_;obtain⟨a7,eL,eM⟩:=cm.two;have eA:=ah b2 cm;clear a8 am aF c0 bV bt d6 dy dC hX b2 cm;go_wp2;refine Lk (v:=.tuple #[.agg #[.string f.name,.int .i64 (cd f.params),.int .i64 (bR f.params),.int .i64 dL,.slice dG (r1.length+1) dn],.slice dM (a4.length+1) dX,.int .i64 0,.int .i64 0]) (by simp[results,Tryz.results70,go_sem,a7]) rfl ?_;obtain⟨b2,cm⟩:=eA.o;have aj:=(aO.o:W.heap.size<=g)
   have er:et p f=⟨f.name,cd f.params,bR f.params,dL,r1++[ni]⟩:=by
    unfold et;simp only[bU.1]
   have cq:Ext w eb:=Fr.low (M:=λb=>w.heap.size<=b) ((be.mono λ_ h=>h.elim).trans ((eu.fr.mono λb hm=>cW.o b hm).trans ((dx.mono λb O=>ad).trans (b2.mono λb O=>ad)))) λ_ h=>h;have bX:=dY.rows.one;have a1:=bX.cap.1;have eD:Gr _ _ _ _ eb.drew.drew _ _ _ _:=(((bX.dj (ab:=gB) dx.size λb ak hp=>dx.block b ak λhe=>by
    rcases hp with hp|hp
    .have:=hp.1;omega
    .have:=(bX.lt hp).1;omega).dj (ab:=eb) b2.size λb ak hp=>b2.block b ak λhe=>by
    rcases hp with hp|hp
    .have:=hp.1;omega
    .have:=(bX.lt hp).1;omega).ai (Fr.refl _ eb).drew).ai (Fr.refl _ eb.drew).drew
   have em:=eD.sl (Q:=fresh w eb.drew.drew) (λb ac au=>⟨by have:=au.1;omega,ac⟩) (λb ac au=>⟨ad,ac⟩);rw[KF] at em a1;refine⟨dG,r1.length+1,dn,dM,a4.length+1,dX,by rw[er],?_,cq.drew.drew⟩;rw[er];exact ya.2 ⟨dG,r1.length+1,dn,rfl,a1,em⟩
 ):p:=h
end BH
open BH in
theorem sH(df:∀U nk F b,lB U nk F b)(p:bK)(hp:ot p)(f:aJ)(J:f∈p.funcs)(GA:Lp)(gn gc:Nat)(MA:Lp)(mn mc:Nat)(FA:Lp)(fn fc:Nat)(S:Lp)(ln lc:Nat)(PA:Lp)(pn pc:Nat)(fu:Lp)(bn bc:Nat)(w:World)
  (h:hk w (av w) p GA gn MA mn FA fn) (hl:Sl w (av w) S ln ((bo p).map bY)) (cl:Sl w (av w) PA pn (f.params.map ds)) (bl:Sl w (av w) fu bn (c4 f.body)) :
  Calls prog 70 #[.agg #[.slice GA gn gc,.slice MA mn mc,.slice FA fn fc],.slice S ln lc,.agg #[.string f.name,.slice PA pn pc,.slice fu bn bc]] w (HW w (et p f)):=by
 have a2:=h.g;have hm:=h.m;have bW:=h.f;have dv:p.globals.length=gn:=by rw[<-a2.1,KH]
 have lm:p.af.length=mn:=by rw[<-hm.1,KH]
 have lf:p.funcs.length=fn:=by rw[<-bW.1,KH]
 exact sn
end Go.Proofs.YtglbpimocmhojaaGreat

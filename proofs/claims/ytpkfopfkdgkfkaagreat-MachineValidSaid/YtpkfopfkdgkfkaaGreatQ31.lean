/- Part 31 of the proof. No condition of its own. -/
import Derived.Test.YtpkfopfkdgkfkaaGreatQ26
namespace Go.Proofs.YtpkfopfkdgkfkaaGreat
open Go.RowKit Go.Proofs.Tryz
set_option maxRecDepth 1000000
set_option maxHeartbeats 25600000
set_option linter.unusedVariables false
variable{p:Prop}
namespace C4
theorem pB(h:p:=by
 exact hb.simple (st:=.ret) ⟨s,wb,sA,bW,bD,sl,GA,gn,gc,MA,mn,mc,FA,fn,fc,M,F,ar⟩ ct B a7 bl d ps V T ls N L aw aY QA b1 qc bg bn.1 cJ bP bn.2.2.2.1 cc.1 bT bA aQ (b4.1.fresh bn.1 J λb O=>ad) be (eN mg kT (Sl.bS _) (LK _) (Sl.bS _) (LK _) (Sl.bS _) (LK _)) trivial (λn hn=>by simp[aD.all] at hn) (by simp only[aD.num];omega) (LK _) aX.2.2 bn.2.1
 ):p:=h
theorem lS(h:p:=by
 first
  | subst bw
    have b4:=bU
  | revert bE
    intro bE;have dJ:decide ((bd:Int) > 0)=false:=by simp;omega
    have cP:¬(0:Int)<(bd:Int):=ad;clear bE
    have b4:=bU
  | have cA:S<wr.heap.size:=bU.2.2.lt
    go_wp2_with(fail);refine(a1 wr s sA bW bD sl 3 bU.1.src ad ad).mono ?_;rintro e wr ⟨cx,rfl,aO,b0,h,he⟩;have ak:=he.fr;have b4:=az (bU.1.next bi h ak) (bU.2.1.on ak ad) (bU.2.2.on ak ad);clear a0 ai af bq am aG d0 aK aM h he ak aO b0;by_cases aj:cx=1
    case pos=>
     have q:(cx == 1)=true:=by simpa using aj
     clear aj;obtain⟨d0,aK,aM⟩:=b4.2.2.two;go_wp2_with(fail);generalize hX:World.setCell _ _ _=X;have J:=cp hX;have be:au X S 151 #[(9:Int),Mq,(0:Int),(0:Int),Mq,(),Mq,(),(),(),()]:=hX▸b4.2.2.aN 0 _;exact pA
    have q:(cx == 1)=false:=by simpa using aj
    clear aj;obtain⟨a0,ai,af⟩:=b4.1.blk.two;obtain⟨bq,am,aG⟩:=b4.2.1.two;obtain⟨d0,aK,aM⟩:=b4.2.2.two
 go_wp2_with(fail);refine(qV ⟨s,wb,sA,bW,bD,sl,GA,gn,gc,MA,mn,mc,FA,fn,fc,M,F,ar⟩ L aJ aq bd ba aY ps QA b1 qc bg wr (b4.1.wr bn.1) ((Sl.cZ bn.2.2.2.2.1 b4.1.fr).mono λb O=>⟨O.1,λh=>O.2 (.inl h)⟩) ad ((Sl.cZ bn.2.2.1 b4.1.fr).mono λb O=>⟨O.1,λh=>O.2 (.inl h)⟩) bK).mono ?_;rintro e aT ⟨r,IA,i,ic,rfl,a8,cH,R,aA,ak⟩;simp only at a8 aA ak;have bz:S<wr.heap.size:=b4.2.2.lt;have l:=b4.2.2.on ak ad;have bc:=b4.2.1.on ak ad;have a3:=gr (b4.1.next bi aA ak) l bc (a8 (F.map λf=>(f.name,f.params))) cH R ak.size;clear a0 ai af bq am aG d0 aK aM a8 cH R aA ak bc;obtain⟨d0,aK,aM⟩:=l.two;clear l;go_upto_region 10 with(fail);generalize hX:World.setCell _ _ _=X;have J:=FZ hX;have bp:au X S 151 #[(5:Int),Mq,(0:Int),(0:Int),Mq,(),.string r.name,.slice IA i ic,(),(),()]:=hX▸(a3.2.1.aN 6 _).aN 7 _;have cl:Sl X (fresh wr X) IA i (r.idx.toList.map bm):=(a3.2.2.2.2.2.1.ai λb O=>J.block b O.2 (ay O.1)).mono λb O=>⟨O.1,by have:=O.2;have:=J.size;omega⟩
 have aN:=cL (a3.1.fresh bn.1 J λb O=>ad) bp (a3.2.2.1.on J ad) cl (by have:=J.size;have:=a3.2.2.2.2.2.2;omega:wr.heap.size<=X.heap.size);clear hX d0 aK aM J bp cl;obtain⟨d0,aK,aM⟩:=aN.2.1.two;go_upto_region 11 with(fail);generalize hU:World.alloc _ _=U;have cr:=aU hU;have bS:=aI hU;have bB:=aN.1.aj bi cr;have b6:Gr (λb=>(B<=b/\(Value.slice aq bd ba).ownBlock≠some b)/\b≠S.heap.size) B 151 11 U br on bZ (ls.map bj):=(bn.2.2.2.1.two.mono λb ac ap=>⟨ap,ad⟩).cZ bB.fr λb O hl=>⟨λh=>by have:=bn.2.2.2.2.2 b O;have:=h.1.1;omega,bn.2.2.2.2.2 b O⟩
 have aS:Gr (λ_=>False) B 9 1 U aq bd ba (aJ.map D.s):=(Gr.strs bn.2.2.2.1.one).cZ bB.fr λb O hl=>⟨λh=>h,bn.2.2.2.2.2 b O⟩
 have j:∀b,(Value.slice aq bd ba).ownBlock=some b->b<S.heap.size:=λb O=>(bn.2.2.2.1.one.lt O).2;have m:∀b,(Value.slice br on bZ).ownBlock=some b->B<=b/\b<S.heap.size:=λb O=>bn.2.2.2.1.two.lt O;have ax:∀b,(Value.slice aq bd ba).ownBlock=some b->(Value.slice br on bZ).ownBlock≠some b:=bn.2.2.2.1.ne;have cI:X<U.heap.size:=bS.lt;have a2:wr<=X.heap.size:=aN.2.2.2.2;have bV:Sl U (λb=>wr.heap.size<=b/\b<X.heap.size) IA i (r.idx.toList.map bm):=aN.2.2.2.1.ai λb O=>cr.block b O.2 λh=>h;have hD:(bj (.lock false r)).rep U (lh (λb=>(B<=b/\(Value.slice aq bd ba).ownBlock≠some b)/\b≠S.heap.size) U (.slice br on bZ)) [(5:Int),Mq,(0:Int),(0:Int),Mq,(),.string r.name,.slice IA i ic,(),(),()]:=by
  refine eN mg (jE.2 ⟨IA,i,ic,rfl,a3.2.2.2.2.1,bV.mono λb O=>⟨⟨⟨by have:=O.1;omega,λh=>by have:=j b h;have:=O.1;omega⟩,by have:=O.1;omega⟩,by have:=O.2;omega,λh=>by have:=(m b h).2;have:=O.1;omega⟩⟩) (Sl.bS _) (LK _) (Sl.bS _) (LK _) (Sl.bS _) (LK _)
 have cB:=px bB (aN.2.1.aj cr) (aN.2.2.1.aj cr) bS b6 aS bV hD;have bs:=az j m ax;have cv:B<=U:=ad;have cf:B<=X:=ad;clear hU cr bS bB b6 aS bV hD j m ax d0 aK aM;obtain⟨d0,aK,aM⟩:=cB.2.1.two;obtain⟨bq,am,aG⟩:=cB.2.2.1.two;go_upto_region 12 with(at_builtin;refine bL oO rfl (.tmp 59) (.tmp 61) rfl cB.2.2.2.2.1 cB.2.2.2.2.2.2.2 rfl rfl rfl ad ad cv ?_;intro bY bk b7 al aC cn cb;have aE:=az al aC cn;clear al aC cn cb d0 aK aM);obtain⟨dW,av,aZ⟩:=aE.o;obtain⟨j,m,ax⟩:=bs.o;have bv:aw<B:=ad;have bu:¬(Value.slice br on bZ).ownBlock=some X.heap.size:=λh=>by have:=(m _ h).2;omega
 have aW:¬(Value.slice br on bZ).ownBlock=some S.heap.size:=λh=>by have:=(m _ h).2;omega
 have Z:¬(Value.slice br on bZ).ownBlock=some ct:=λh=>by have:=(m _ h).1;omega
 have a5:oL ⟨s,wb,sA,bW,bD,sl,GA,gn,gc,MA,mn,mc,FA,fn,fc,M,F,ar⟩ aw b7 L:=(oL.mk cB.1.src cB.1.blk (aX.2.2.trans cB.1.fr) cB.1.le).fresh aX.1 av λb O=>by have:=(m b O).1;omega
 have bM:=cB.2.2.2.2.2.1.dr av.size λb an hp=>av.block b an (hp.elim (λh=>h.elim) λhp=>ax b hp);have e1:Sl b7 (λb=>wr.heap.size<=b/\b<X.heap.size) IA i (r.idx.toList.map bm):=cB.2.2.2.2.2.2.1.ai λb O=>av.block b (ay O.2) λh=>by have:=(m b h).2;have:=O.1;omega
 have bQ:=gr a5 (cB.2.1.on av aW) (cB.2.2.1.on av Z) (cB.2.2.2.1.on av bu) dW bM e1;have ab:∀b,(Value.slice bY (on+1) bk).ownBlock=some b->(B<=b/\b<S.heap.size/\(Value.slice br on bZ).ownBlock=some b)\/U.heap.size<=b:=λb O=>(aZ b O).imp (λh=>⟨(m b h).1,(m b h).2,h⟩) id;have a6:=ag ab av.size;clear dW av aZ j m ax bu aW Z a5 bM e1 ab cB aE bq am aG;obtain⟨bq,am,aG⟩:=bQ.2.2.1.two;have hm:Sl b7 (off (λb=>b=s\/b=wb) b7) aq bd (aJ.map D.s):=bQ.2.2.2.2.2.1.sl (λ_ _ h=>h.elim) (λb O aQ=>⟨O,λh=>ad⟩);go_wp2_with(fail);refine(cc.2.2 L ad 0 2 aJ (T++decls ls) aq bd ba aY ps QA b1 qc bg b7 ad ad (bQ.1.wr aX.1) hm ad (λk aj=>cc.2.1 k ad) (Sl.cZ aX.2.1 bQ.1.fr) bK).mono ?_;rintro e cS ⟨aa,aP,cD,a4,bF,rfl,ah,cz,cq,b9,z⟩
 try simp only at z
 clear bq am aG hm;have ca:=ah.le;have cu:L<=24:=bQ.1.le;have cC:a4<=48:=by
  have ac:=ah.num;have ap:=ui aa;have aV:=cq.1;simp only[LO] at aV;omega
 have ab:=a6.1;have cF:=a6.2;have aB:∀b,(b=s\/b=wb)->b<aw.heap.size:=λb O=>by
  have ac:=aX.1.src.lt;have ap:=aX.1.blk.lt;simp only at ac ap;rcases O with O|O<;>omega
 have bv:aw<B:=ad;have ch:=bQ.2.2.2.2.1.cZ z λb O hl=>⟨λh=>by have:=aB b O;have:=h.1.1;omega,by have:=aB b O;omega⟩
 have bN:=bQ.2.2.2.2.2.1.cZ z λb O hl=>⟨λh=>h,by have:=aB b O;omega⟩
 have cj:Sl cS (λb=>wr.heap.size<=b/\b<X.heap.size) IA i (r.idx.toList.map bm):=bQ.2.2.2.2.2.2.ai λb O=>z.block b (ay O.2) λh=>by have:=aB b h;have:=O.1;omega
 have b8:=bs.1;have bh:Sl cS (lh (λb=>(B<=b/\(Value.slice aq bd ba).ownBlock≠some b)/\b≠S.heap.size) cS (.slice bY (on+1) bk)) cD a4 (aa.map bj):=cq.mono λb O=>⟨⟨⟨by have:=O.1;omega,λh=>by have:=b8 b h;have:=O.1;omega⟩,by have:=O.1;omega⟩,O.2,λh=>by
  have ac:=O.1;rcases ab b h with ap|ap
  .omega
  .have:=(bQ.2.2.2.2.1.lt h).2;omega⟩
 have P:=tI (bQ.1.IG b9 z) (bQ.2.1.on z λh=>by have:=aB _ h;omega) (bQ.2.2.1.on z λh=>by have:=aB _ h;omega) (bQ.2.2.2.1.on z λh=>by have:=aB _ h;omega) ch bN cj bh ah;have aL:∀d∈aa.map bj,d.sz=11:=λd hd=>by obtain⟨x,_,rfl⟩:=Mf.1 hd;exact we x
 have ce:B<=cS:=by have:=z.size;omega
 have bt:U<=cS.heap.size:=by have:=z.size;omega
 clear ah cz cq b9 z ch bN cj bh bQ ab b8;go_upto_region 13 with(at_builtin;refine xz oO rfl (.tmp 63) (.tmp 67) rfl P.2.2.2.2.1 P.2.2.2.2.2.2.2.1 aL rfl rfl ad ad ce ?_;intro cm bI c6 al aC cn cb;have dx:=az al aC cn;clear al aC cn cb);obtain⟨bf,a9,bo⟩:=dx.o;have ab:=a6.1;obtain⟨j,m,ax⟩:=bs.o;have dE:∀b,(Value.slice aq bd ba).ownBlock=some b->(Value.slice bY (on+1) bk).ownBlock≠some b:=λb O h=>by
  rcases ab b h with ap|ap
  .exact ax b O ap.2.2
  .have:=j b O;omega
 have bu:¬(Value.slice bY (on+1) bk).ownBlock=some X.heap.size:=λh=>by rcases ab _ h with ap|ap<;>omega
 have aW:¬(Value.slice bY (on+1) bk).ownBlock=some S.heap.size:=λh=>by rcases ab _ h with ap|ap<;>omega
 have Z:¬(Value.slice bY (on+1) bk).ownBlock=some ct:=λh=>by rcases ab _ h with ap|ap<;>omega
 have b3:=P.1.fresh aX.1 a9 λb O=>by rcases ab _ O with ap|ap<;>omega
 have bR:=P.2.2.2.2.2.1.dr a9.size λb an hp=>a9.block b an (hp.elim (λh=>h.elim) λhp=>dE b hp);have ck:Sl c6 (λb=>wr.heap.size<=b/\b<X.heap.size) IA i (r.idx.toList.map bm):=P.2.2.2.2.2.2.1.ai λb O=>a9.block b (ay O.2) λh=>by have ac:=O.1;have aV:=O.2;rcases ab _ h with ap|ap<;>omega
 have dB:=gr b3 (P.2.1.on a9 aW) (P.2.2.1.on a9 Z) (P.2.2.2.1.on a9 bu) bf bR ck;have aF:∀b,(Value.slice cm (on+1+a4) bI).ownBlock=some b->(B<=b/\b<S.heap.size/\(Value.slice br on bZ).ownBlock=some b)\/U.heap.size<=b:=λb O=>by
  rcases bo b O with ac|ac
  .exact ab b ac
  .exact .inr ad
 have cw:=ae aF;clear bf a9 bo ab j m ax dE bu aW Z b3 bR ck aF dx;obtain⟨d0,aK,aM⟩:=dB.2.1.two;obtain⟨ci,bO,b5⟩:=dB.2.2.2.1.two;go_wp2_with(fail);generalize co:World.setCell _ _ _=Y;have bX:aw<=S.heap.size:=aX.2.2.size;obtain⟨bH,bG,bx⟩:=ei (M:=λb=>b=s\/b=wb) (w:=aw) [(6:Int),Mq,(0:Int),(0:Int),Mq,(),.string r.name,.slice IA i ic,(),(),()] (by rfl) dB.2.1 dB.1.fr bX co;have j:=bs.1;have aF:=cw.o;have sZ:=dB.2.2.2.2.2.1;have cG:=dB.2.2.2.2.1;have ah:=P.2.2.2.2.2.2.2.2;have cy:Sl Y (λb=>wr.heap.size<=b/\b<X.heap.size) IA i (r.idx.toList.map bm):=dB.2.2.2.2.2.2.ai λb O=>bx.block b (lV O.2 dB.2.2.2.1.lt) (ay O.1);have cd:c6<=Y.heap.size:=bx.size;have cE:X<c6.heap.size:=dB.2.2.2.1.lt
 try refine hN _ _ ?_
 unfold lQ;refine⟨aq,bd,ba,cm,on+1+a4,bI,?_⟩
 iterate 240 apply Exists.intro
 refine⟨?_,rfl⟩;refine⟨aJ,.lock false r::aa,.lock true r,aP,_,dB.1.fresh aX.1 bx (λb O=>ad),dB.2.2.1.on bx ad,⟨?_,?_,λb O h=>?_⟩,bH,?_,F9 a3.2.2.2.1 cc.1 ah.wf,?_,?_,ca,?_,ad,ad⟩
 .exact Gr.strs (sZ.dr bx.size λb an hp=>bx.block b an (hp.elim (λh=>h.elim) λhp=>by have:=j b hp;omega))
 .have ac:=(cG.dr bx.size λb an hp=>bx.block b an (by
   rcases hp with hp|hp
   .exact hp.2
   .rcases aF b hp with ap|ap<;>omega)).mono λb _ hp=>hp.1
  have he:(ls++(aD.lock false r::aa)).map bj=(ls.map bj++[bj (.lock false r)])++aa.map bj:=by simp
  rw[he];exact ac
 .rcases aF b h with ap|ap
  .exact bs.2.2 b O ap.2.2
  .have:=j b O;omega
 .exact eN mg (jE.2 ⟨IA,i,ic,rfl,a3.2.2.2.2.1,cy.mono λb O=>⟨⟨by have:=O.1;omega,λh=>by have:=j b h;have:=O.1;omega⟩,by have:=O.2;omega,λh=>by have ac:=O.1;have aV:=O.2;rcases aF b h with ap|ap<;>omega⟩⟩) (Sl.bS _) (LK _) (Sl.bS _) (LK _) (Sl.bS _) (LK _)
 .intro n hn;rw[L4,all_cons,xT,all_cons] at hn;simp only[aD.all,ao.eY,ao.all,Mh,Mg] at hn;obtain⟨k,ac,ap,aV⟩:=ah.all n hn;exact⟨k,ac,ad,aV⟩
 .rw[L4,kQ,ye,td];have:=ah.num;simp only[aD.num];omega
 .intro y bb;have:=cc.1 bb;exact Ak
 ):p:=h
end C4
open C4 in
theorem yp(k:Int)(d bd:Nat)(h:k=8/\bd=0\/k=11/\d=0\/k=12/\d=0\/k=13):SK k d bd:=by
 rcases h with⟨rfl,bE⟩|⟨rfl,bw⟩|⟨rfl,bw⟩|rfl
 all_goals
  exact lR
namespace C5
theorem pB(h:p:=by
 have b6:=b3.o;subst b6;exact hb.simple (st:=.call bb g.name aW) ⟨s,wb,sA,bW,bD,sl,GA,gn,gc,MA,mn,mc,_,fn,fc,M,F,ar⟩ ct B a7 bl d ps V T ls N L aw aY QA b1 qc bg bn.1 cJ bP bn.2.2.2.1 cc.1 bT bA aQ (bm.fresh bn.1 J λb O=>ad) be (eN mg kT ((bM.ai λb O=>J.block b O.2 (ay O.1)).mono λb O=>⟨by have:=O.1;omega,by have:=O.2;omega⟩) ab (Sl.bS _) (LK _) (Sl.bS _) (LK _)) ⟨g.params,Mf.2 ⟨g,bN.o,rfl⟩,nR cc.1 _ _ (a8 _)⟩ (λn hn=>by simp[aD.all] at hn) (by simp only[aD.num];omega) (LK _) aX.2.2 bn.2.1
 ):p:=h
theorem sF(h:p:=by
 refine aF ?_;generalize bY:World.setCell _ _ _=Y;have J:=FZ bY;have be:au Y S 151 #[bQ,.string g.name,(0:Int),(0:Int),Mq,(),Mq,(),.slice KA k kc,(),()]:=bY▸(a3.2.1.aN 1 _).aN 8 _;clear bY d0 aK aM;go_wp2_with(fail);obtain⟨bm,_,a8,ab,bM,bS⟩:=a3.o;have bY:=J.size;exact pA
 ):p:=h
theorem fy(h:p:=by
 refine ch ?_;generalize cG:World.setCell _ _ _=Z;obtain⟨bs,a9,bf⟩:=ei (M:=λb=>b=s) [.string g.name,.slice bV bL bX,.slice m U I] (by rfl) ao ak gz cG;have bz:S<X.heap.size:=aN.2.1.lt;have cf:s<X:=ad;have ev:cr Z s sA bW bD sl:=aA.cT bf λb O h=>ad;have bw:=aN.1.next bi ev a9;have bk:=dm bw (aN.2.1.on a9 ad) (aN.2.2.1.on a9 ad) bs eH bB;have ca:¬aC=s:=ad;have a4:=a9.size;clear cG bs a9 bf ev bw eH bB ak aA ao ci bO b5;obtain⟨bq,am,aG⟩:=bk.2.2.1.two;obtain⟨ci,bO,b5⟩:=bk.2.2.2.1.two;have b9:¬ct=s:=ad;have bH:bL<=2:=by
  have ac:=bk.2.2.2.2.2.1;have ap:=bE g bk.2.2.2.2.1;simp at ac;omega
 go_upto_region 28 with(fail);refine eJ (λb=>b=s) [(0,3),(1,0),(2,3),(3,0),(4,0),(5,3),(7,3),(6,1),(8,2),(9,3),(10,2)] ?_;refine pf ?_;refine oH ?_;refine pf ?_
 iterate 2 refine oH ?_
 iterate 2 refine pf ?_
 refine aB rfl (λK hK=>?_);go_simp;refine(zl ⟨s,wb,sA,bW,bD,sl,GA,gn,gc,MA,mn,mc,_,fn,fc,M,F,ar⟩ L aJ aq bd ba aY ps QA b1 qc bg g.name g.params bV bL bX (.slice m U I) Z.drew ((bk.1.aj bi Mo.drew).wr bn.1) ((Sl.cZ bn.2.2.2.2.1 (bk.1.aj bi Mo.drew).fr).mono λb O=>⟨O.1,λh=>O.2 (.inl h)⟩) ad ((Sl.cZ bn.2.2.1 (bk.1.aj bi Mo.drew).fr).mono λb O=>⟨O.1,λh=>O.2 (.inl h)⟩) bK ((Sl.cZ bk.2.2.2.2.2 (bk.1.aj bi Mo.drew).fr).mono λb O=>⟨O.1,λh=>O.2 (.inl h)⟩) bH).mono ?_;rintro e aT ⟨aW,KA,k,kc,rfl,a8,ab,bM,aA,ak⟩;simp only at a8 aA ak;have an:Fr (λb=>b=s) Z aT:=Fr.aG ak;have l:=bk.2.1.on an ad;have a3:=dm (bk.1.next bi aA an) l a8 ab bM an.size;have bN:=ae bk.2.2.2.2.1;have b7:X<=Z.drew.heap.size:=a4;refine dq hK (ak) ?_;clear hK K;clear bq am aG ci bO b5 ak aA bM ab a8 an;obtain⟨d0,aK,aM⟩:=l.two;clear l;exact sE
 ):p:=h
theorem lS(h:p:=by
 have bI:=bn.1.nf;have bE:=bn.1.ja;simp only at bI bE;have gU:¬wb=s:=ad;obtain⟨cm,da,bv,_⟩:=bn.1.fs.some_ bI.1;simp only at bv;subst bv;go_upto_region 27 with(fail);generalize hX:World.setCell _ _ _=X;have J:Fr (λb=>b=S.heap.size) wr X:=by rw[<-hX];first|exact(Fr.refl (λb=>b=S.heap.size) wr).setCell (.inl rfl) _|exact((Fr.refl (λb=>b=S.heap.size) wr).setCell (.inl rfl) _).setCell (.inl rfl) _
 have bp:au X S 151 #[bQ,Mq,(0:Int),(0:Int),Mq,(),Mq,(),(),(),()]:=by rw[<-hX,bo.o];first|exact(bU.2.2.aN 0 _)|exact(bU.2.2.aN 0 _).aN 0 _
 have H:=bU.1.fresh bn.1 J λb O=>ad;have bu:=bU.2.1.on J ad;have aN:=bF H bp bu J.size;clear hX a0 ai af bq am aG d0 aK aM J bp H bu;obtain⟨a0,ai,af⟩:=aN.1.blk.two;refine r0 (λb=>b=s) [19] (.free 0 (.free 1 (.free 2 (.free 3 (.held 4 (.free 5 (.free 6 (.free 7 (.held 8 (.free 9 (.free 10 (.free 11 (.free 12 (.held 13 (.free 14 (.pick [15,18] (λi=>bif i == 15 then .free 16 (.held 17 (.pick [18] (λ_=>.pick [19] (λ_=>.stop)))) else .pick [15] (λ_=>.free 16 (.held 17 (.pick [19] (λ_=>.stop))))))))))))))))))))) ?_
 iterate 4 refine tf ?_
 refine oI ?_
 iterate 3 refine tf ?_
 refine oI ?_
 iterate 4 refine tf ?_
 refine oI ?_;refine tf ?_;clear a0 ai af;refine g9 (P:=?_) (ops:=?_) (Q:=?_) (R:=?_) (tails:=?_) (rest:=.pick [19] (λ_=>.stop)) (aa:=?_)
  (C:=λ(aC:Nat) (j:Nat) (aj:Value) cP=>Fr (λb=>b=s) X cP/\cr cP s sA bW bD sl/\au cP aC 96 #[Mq,(),()]/\X<=aC/\∃(g:aL) (bV:Mt) (bL bX:Nat) (m:Mt) (U I:Nat),aj=.agg #[.string g.name,.slice bV bL bX,.slice m U I]/\g∈F/\Sl S (off (λb=>b=s\/b=wb) S) bV bL (g.params.map cD)) (λkey=>?_) ?_
 rotate_left 6
 ·
  refine a2 ?_ ?_
  ·
   refine aE rfl (λK hK=>?_) rfl;go_simp;refine(a1 X.drew s sA bW bD sl fn (aN.1.aj bi Mo.drew).src ad ad).mono ?_;rintro e aS ⟨cx,rfl,aO,b0,h,he⟩;obtain⟨j,rfl⟩:=LP aO;have bt:j<fn:=ad;have ak:Fr (λb=>b=s) X aS:=Fr.aG he.fr;have y:Fr (λb=>b=s\/b=wb) S aS:=aN.1.fr.trans (ak.mono λ_ h=>.inl h);refine dq hK (he.fr) ?_;clear hK K;obtain⟨bx,b4,g,cs,bj,cy,r,a6,bh,hc⟩:=Sl.hf (z:=3) bn.1.fs (λ_=>rfl) (k:=j) (by simpa using bt);injection bj with bj;injection bj with hFA1 hFA2;subst hFA1 hFA2;obtain⟨bV,bL,bX,m,U,I,rfl,bG,bB⟩:=Fh a6;have e0:=(y.cell cy.1 cy.2).trans (hc 0 _ rfl);have e1:=(y.cell cy.1 cy.2).trans (hc 1 _ rfl);have e2:=(y.cell cy.1 cy.2).trans (hc 2 _ rfl);simp only[LW] at e0;have ce:cm<aS:=by have:=y.size;have:=cy.1;omega
   have cI:¬cm=s:=λh=>cy.2 (.inl h);have aV:(0:Int)<=(j:Int):=ad;have dN:(j:Int)<(fn:Int):=ad;have bc:=LN r;skip
   refine tf ?_;refine KU ?_;refine av ?_;refine eu ?_;generalize cG:World.alloc _ _=Z;have e3:=aU cG;have ah:Fr (λb=>b=s) X Z/\cr Z s sA bW bD sl/\au Z aS 96 #[Mq,(),()]/\X<=aS.heap.size/\∃(ag:aL) (al:Mt) (G a5:Nat) (aI:Mt) (aZ aP:Nat),(Value.agg #[.string g.name,.slice bV bL bX,.slice m U I])=.agg #[.string ag.name,.slice al G a5,.slice aI aZ aP]/\ag∈F/\Sl S (off (λb=>b=s\/b=wb) S) al G (ag.params.map cD):=
    ⟨ak.trans (e3.mono λ_ h=>h.elim),h.cT e3 λ_ _ h=>h,by rw[<-cG];exact Mp,ak.size,g,bV,bL,bX,_,_,_,rfl,bc,bB⟩
   clear cG e3 bB a6 bh hc e0 e1 e2;revert ah;generalize aS.heap.size=aC;generalize (Value.agg #[.string g.name,.slice bV bL bX,.slice m U I])=aj;intro ah;exact key aC j aj _ ah
  ·
   refine eu ?_;generalize hV:World.drew (World.alloc _ _)=fh;have e1:=gQ hV;have cK:=kE hV;have cq:=cK.lt;refine av ?_;refine aE rfl (λK hK=>?_) rfl;go_simp;refine(a1 fh s sA bW bD sl fn (aN.1.aj bi e1).src ad ad).mono ?_;rintro e aS ⟨cx,rfl,aO,b0,h,he⟩;obtain⟨j,rfl⟩:=LP aO;have bt:j<fn:=ad;have ak:Fr (λb=>b=s) X aS:=(e1.mono λ_ h=>h.elim).trans he.fr;have y:Fr (λb=>b=s\/b=wb) S aS:=aN.1.fr.trans (ak.mono λ_ h=>.inl h);have dr:s<X:=by have:=aN.2.2.2;omega
   refine dq hK (he.fr) ?_;clear hK K;obtain⟨bx,b4,g,cs,bj,cy,r,a6,bh,hc⟩:=Sl.hf (z:=3) bn.1.fs (λ_=>rfl) (k:=j) (by simpa using bt);injection bj with bj;injection bj with hFA1 hFA2;subst hFA1 hFA2;obtain⟨bV,bL,bX,m,U,I,rfl,bG,bB⟩:=Fh a6;have e0:=(y.cell cy.1 cy.2).trans (hc 0 _ rfl);have e1:=(y.cell cy.1 cy.2).trans (hc 1 _ rfl);have e2:=(y.cell cy.1 cy.2).trans (hc 2 _ rfl);simp only[LW] at e0;have ce:cm<aS:=by have:=y.size;have:=cy.1;omega
   have cI:¬cm=s:=λh=>cy.2 (.inl h);have aV:(0:Int)<=(j:Int):=ad;have dN:(j:Int)<(fn:Int):=ad;have bc:=LN r;skip
   refine tf ?_;refine KU ?_;have ah:Fr (λb=>b=s) X aS/\cr aS s sA bW bD sl/\au aS X 96 #[Mq,(),()]/\X<=X.heap.size/\∃(ag:aL) (al:Mt) (G a5:Nat) (aI:Mt) (aZ aP:Nat),(Value.agg #[.string g.name,.slice bV bL bX,.slice m U I])=.agg #[.string ag.name,.slice al G a5,.slice aI aZ aP]/\ag∈F/\Sl S (off (λb=>b=s\/b=wb) S) al G (ag.params.map cD):=
    ⟨ak,h,cK.on he.fr ad,LK _,g,bV,bL,bX,_,_,_,rfl,bc,bB⟩
   clear hV bB a6 bh hc e0 e1 e2;revert ah;generalize (Value.agg #[.string g.name,.slice bV bL bX,.slice m U I])=aj;intro ah;exact key X j aj _ ah
 ·
  rintro aC j aj cP ⟨ak,aA,ao,gz,g,bV,bL,bX,m,U,I,rfl,eH,bB⟩;obtain⟨ci,bO,b5⟩:=ao.two;exact fQ
 ):p:=h
end C5
open C5 in
theorem Fx(bb:Bool)(k:Int)(d bd:Nat)(h:bb=false/\k=9\/bb=true/\k=10):SK k d bd:=by
 obtain⟨bQ,az⟩:∃bQ:Int,bQ=if bb then 4 else 3:=⟨_,rfl⟩
 have b3:=ae az;rcases h with⟨O,rfl⟩|⟨O,rfl⟩
 all_goals
  rw[O] at az;have bo:=ae az;clear az O;exact lR
def jr(u:aA):ak->List Int->ak
 | s,[]=>s
 | s,t::l=>jr u (cb u s t).1 l
def jS(u:aA):ak->List Int->List Int
 | _,[]=>[]
 | s,t::l=>(if (cb u s t).2 then [t] else [])++jS u (cb u s t).1 l
section
variable {u:aA} {D:Nat}
theorem uN:∀(l m:List Int) (s:ak),jr u s (l++m)=jr u (jr u s l) m
 | [],_,_=>rfl
 | t::l,m,s=>uN l m _
theorem vd:∀(l m:List Int) (s:ak),jS u s (l++m)=jS u s l++jS u (jr u s l) m
 | [],_,_=>rfl
 | t::l,m,s=>by
  rw[L4,jS,jS,jr,vd l m,L3]
theorem IY(l:List Int):∀s:ak,(jS u s l).length<=l.length:=by
 induction l with
 | nil=>intro s;exact LK _
 | cons t l Z=>
  intro s;have:=Z (cb u s t).1;rw[jS,LM,LZ];split<;>simp<;>omega
theorem w8(hU:da u):∀(l:List Int) (D:Nat) (s:ak),aW u D s->aW u (D+l.length) (jr u s l)
 | [],_,_,h=>h
 | t::l,D,s,h=>by
  have:=w8 hU l (D+1) _ (uW (t:=t) hU h);rw[LZ,show D+(l.length+1)=D+1+l.length by omega];exact this
end
end Go.Proofs.YtpkfopfkdgkfkaaGreat

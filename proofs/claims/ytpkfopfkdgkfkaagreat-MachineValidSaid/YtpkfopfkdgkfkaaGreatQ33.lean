/- Part 33 of the proof. No condition of its own. -/
import Derived.Test.YtpkfopfkdgkfkaaGreatQ31
namespace Go.Proofs.YtpkfopfkdgkfkaaGreat
open Go.RowKit Go.Proofs.Tryz
set_option maxRecDepth 1000000
set_option maxHeartbeats 25600000
set_option linter.unusedVariables false
variable{xs:List Value}{i j k m:Nat}{P:Nat->Prop}{p:Prop}{v:Value}{V bc:World}
theorem D.uK{w:World}{P:Nat->Prop}{z:Nat}:∀{l:List D} {xs:List Value},D.aM w P l xs->(∀d∈l,d.sz=z)->∀{k:Nat} {d:D},l[k]?=some d->
  ∃cs,d.rep w P cs/\cs.length=z/\(∀j u,cs[j]?=some u->xs[k*z+j]?=some u)/\∀(a:D) (j:Nat) (v:Value),j<z->a.rep w P (cs.set j v)->D.aM w P (l.set k a) (xs.set (k*z+j) v)
 | [],xs,_,_,k,d,aj=>by simp at aj
 | e::l,xs,h,aL,0,d,aj=>by
  simp only[D.aM] at h;obtain⟨x,y,rfl,hx,bb⟩:=h;simp only[List.getElem?_cons_zero,Mj] at aj;subst aj;have aY:=(D.gD _ _ hx).trans (aL e (by simp));refine⟨x,hx,aY,λj u hu=>?_,λa j v bd hd=>?_⟩
  .rw[Nat.zero_mul,L8,List.getElem?_append_left (List.getElem?_eq_some_iff.1 hu).1];exact hu
  .rw[Nat.zero_mul,L8,List.set_cons_zero,List.set_append_left _ _ ad];simp only[D.aM]
   exact⟨_,_,rfl,hd,bb⟩
 | e::l,xs,h,aL,k+1,d,aj=>by
  simp only[D.aM] at h;obtain⟨x,y,rfl,hx,bb⟩:=h;simp only[List.getElem?_cons_succ] at aj;obtain⟨cs,a5,hl,bd,hs⟩:=D.uK bb (λx hx=>aL x (by simp[hx])) aj;have aY:=(D.gD _ _ hx).trans (aL e (by simp));have he:∀j,(k+1)*z+j=x.length+(k*z+j):=λj=>by rw[aY,Nat.succ_mul];omega
  refine⟨cs,a5,hl,λj u hu=>?_,λa j v E hd=>?_⟩
  .rw[he,List.getElem?_append_right ad,Nat.add_sub_cancel_left];exact bd j u hu
  .rw[he,List.set_cons_succ,List.set_append_right _ _ ad,Nat.add_sub_cancel_left];simp only[D.aM];exact⟨_,_,rfl,hx,hs a j v E hd⟩
structure dR(w:World)(e:TypeId)(z:Nat)(Q:Nat->Prop)(g n c:Nat)(l:List D):Prop where
 ex:∃xs,Own w e z (some ⟨g,0,none⟩) n c xs [g]/\D.aM w Q l xs
 len:l.length=n
 sz:∀d∈l,d.sz=z
 pos:0<n
theorem dR.of{w:World}{B:Nat}{e:TypeId}{z n c:Nat}{Q:Nat->Prop}{A:Mt}{l:List D}(ao:w.ownsRow B e z (.slice A n c) n xs)(a5:D.aM w Q l xs)(hl:l.length=n)(aL:∀d∈l,d.sz=z)(hn:0<n):
  ∃g,A=some ⟨g,0,none⟩/\B<=g/\g<w.heap.size/\n<=c/\dR w e z Q g n c l:=by
 obtain⟨g,rfl,aQ,an,_,_,_⟩:=g1 ao hn;have bn:Own w e z (some ⟨g,0,none⟩) n c xs [g]:=⟨⟨ao.1,ao.2.imp id λ⟨g,cap,cur,bE,_,rest⟩=>⟨g,cap,cur,bE,Md _,rest⟩⟩,rfl⟩
 exact⟨g,rfl,aQ,an,bn.cap,⟨xs,bn,a5⟩,hl,aL,hn⟩
section
variable {w ab:World} {e:TypeId} {z g n c:Nat} {Q cJ:Nat->Prop} {l:List D}
theorem dR.lt(h:dR w e z Q g n c l):g<w.heap.size/\∀j,w.frozen? ⟨g,j,none⟩=false:=by
 obtain⟨xs,bn,_⟩:=h.ex;obtain⟨ag,bG,_,an,_,J,_⟩:=bn.block h.pos;injection bG with bG;injection bG with bG;subst bG;exact⟨an,J⟩
theorem dR.ai(h:dR w e z Q g n c l)(aR:ab.heap[g]?=w.heap[g]?)(aj:∀b,Q b->ab.heap[b]?=w.heap[b]?):dR ab e z Q g n c l:=by
 obtain⟨xs,bn,a5⟩:=h.ex;exact⟨⟨xs,bn.ai λb O=>by rw[Mi.1 O];exact aR,D.bG aj _ _ a5⟩,h.len,h.sz,h.pos⟩
theorem dR.mono(h:dR w e z Q g n c l)(hQ:∀b,Q b->cJ b):dR w e z cJ g n c l:=by
 obtain⟨xs,bn,a5⟩:=h.ex;exact⟨⟨xs,bn,D.bK hQ _ _ a5⟩,h.len,h.sz,h.pos⟩
theorem dR.sl(h:dR w e z Q g n c l)(hQ:∀b,Q b->cJ b)(aR:cJ g):Sl w cJ (some ⟨g,0,none⟩) n l:=by
 obtain⟨xs,bn,a5⟩:=h.ex;exact bn.sl (D.bK hQ _ _ a5) h.len λb O=>by rw[Mi.1 O];exact aR
theorem dR.cap(h:dR w e z Q g n c l):n<=c:=by
 obtain⟨xs,bn,_⟩:=h.ex;exact bn.cap
theorem dR.cells(h:dR w e z Q g n c l){d:D}(aj:l[k]?=some d):∃cs,d.rep w Q cs/\cs.length=z/\∀j v,cs[j]?=some v->w.cell? ⟨g,k*z+j,none⟩=some v:=by
 obtain⟨xs,bn,a5⟩:=h.ex;obtain⟨ag,bG,_,_,hc,_,_⟩:=bn.block h.pos;injection bG with bG;injection bG with bG;subst bG;obtain⟨cs,hd,hl,bd⟩:=D.mX a5 h.sz aj;exact⟨cs,hd,hl,λj v bE=>hc _ _ (bd j v bE)⟩
theorem dR.KG(h:dR w e z Q g n c l){d a:D}(aj:l[k]?=some d)(bd:j<z)(aR:ab.heap[g]?=(w.setCell ⟨g,k*z+j,none⟩ v).heap[g]?)(bK:∀b,Q b->ab.heap[b]?=w.heap[b]?)(hQ:∀b,Q b->cJ b)(hs:a.sz=z)
  (hd:∀cs,d.rep ab cJ cs->a.rep ab cJ (cs.set j v)):dR ab e z cJ g n c (l.set k a):=by
 obtain⟨xs,bn,a5⟩:=h.ex;obtain⟨ag,bG,_,_,hc,_,L⟩:=bn.block h.pos;injection bG with bG;injection bG with bG;subst bG;have a8:k<n:=by rw[<-h.len];exact(List.getElem?_eq_some_iff.1 aj).1
 have f:k*z+j<n*z:=by
  have:(k+1)*z<=n*z:=Nat.mul_le_mul_right _ a8;rw[Nat.succ_mul] at this;omega
 obtain⟨cs,T,_,_,P⟩:=D.uK (D.bK hQ _ _ (D.bG bK _ _ a5)) h.sz aj;refine⟨⟨_,(L (k*z+j) v f).ai λb O=>by rw[Mi.1 O];exact aR,P a j v bd (hd cs T)⟩,by rw[List.length_set];exact h.len,λx hx=>?_,h.pos⟩;rcases List.mem_or_eq_of_mem_set hx with hx|hx
 .exact h.sz x hx
 .rw[hx];exact hs
theorem dR.take(h:dR w e z Q g n c l){m:Nat}(hm:m<=n):Sl w (λb=>Q b\/b=g) (some ⟨g,0,none⟩) m (l.take m):=(h.sl (cJ:=λb=>Q b\/b=g) (λ_ h=>.inl h) (.inr rfl)).take hm
end
theorem dR.vk{e:TypeId}{Q cJ:Nat->Prop}{g n c:Nat}{l:List (List al)}(h:dR V e 1 Q g n c (l.map fI))(aj:k<n){A:Mt}{d:Nat}{fs:List al}(hV:V.setCell ⟨g,k,none⟩ (.slice A m d)=bc)(bK:∀b,Q b->b≠g)(hQ:∀b,Q b->cJ b)(hm:m<=d)
  (hs:Sl bc cJ A m (fs.map dh)):dR bc e 1 cJ g n c ((l.set k fs).map fI):=by
 have hl:l.length=n:=by have:=h.len;rwa [LO] at this
 have Y:(l.map fI)[k]?=some (fI (l[k]'ad)):=by rw[List.getElem?_map,List.getElem?_eq_getElem ad];rfl
 rw[List.map_set];refine h.KG (j:=0) Y ad (by rw[Nat.mul_one,LW,hV]) (λb O=>by rw[<-hV];exact aQ (bK b O)) hQ rfl λcs T=>?_;obtain⟨et,n0,c0,rfl,_,_⟩:=dn.1 T;exact dn.2 ⟨A,m,d,rfl,hm,hs⟩
theorem dR.Jw{e:TypeId}{Q cJ:Nat->Prop}{g n c:Nat}{l:List al}(h:dR V e 4 Q g n c (l.map dh)){f S:al}(aj:l[k]?=some f)(bd:j<4)(aR:bc.heap[g]?=(V.setCell ⟨g,k*4+j,none⟩ v).heap[g]?)(bK:∀b,Q b->bc.heap[b]?=V.heap[b]?)(hQ:∀b,Q b->cJ b)
  (hd:∀IA i ic bw y lc,i<=ic->y<=lc->Sl bc cJ IA i (f.ints.map D.i)->Sl bc cJ bw y (f.an.map D.i)->(dh S).rep bc cJ ([.int .i64 f.proc,.int .i64 f.pc,.slice IA i ic,.slice bw y lc].set j v)):dR bc e 4 cJ g n c ((l.set k S).map dh):=by
 rw[List.map_set];refine h.KG (j:=j) (d:=dh f) (by rw[List.getElem?_map,aj];rfl) bd aR bK hQ rfl λcs T=>?_;obtain⟨IA,i,ic,bw,y,lc,rfl,ac,ap,aV,bz⟩:=c7.1 T;exact hd IA i ic bw y lc ac ap aV bz
namespace C1
theorem pB(h:p:=by
 exact hb.simple (st:=.lock bb r) ⟨s,wb,sA,bW,bD,sl,GA,gn,gc,MA,mn,mc,FA,fn,fc,M,F,ar⟩ ct B a7 bl d ps V T ls N L aw aY QA b1 qc bg bn.1 cJ bP bn.2.2.2.1 cc.1 bT bA aQ (bm.fresh bn.1 J λb O=>ad) be
  (eN mg (jE.2 ⟨IA,i,ic,rfl,cH,(R.ai λb O=>J.block b O.2 (ay O.1)).mono λb O=>⟨by have:=O.1;omega,by have:=O.2;omega⟩⟩) (Sl.bS _) (LK _) (Sl.bS _) (LK _) (Sl.bS _) (LK _)) (kX cc.1 (a8 _)) (λn hn=>by simp[aD.all] at hn) (by simp only[aD.num];omega) (LK _) aX.2.2 bn.2.1
 ):p:=h
theorem lS(h:p:=by
 first
  | have bu:decide (k<4)=true:=by simpa using aj.2
  | have bu:decide (k<4)=false:=by simpa using aj.2.1
    have bp:decide (k<7)=true:=by simpa using aj.2.2
 have bo:=ae aj.1;clear aj;go_wp2_with(fail);refine(qV ⟨s,wb,sA,bW,bD,sl,GA,gn,gc,MA,mn,mc,FA,fn,fc,M,F,ar⟩ L aJ aq bd ba aY ps QA b1 qc bg wr (bU.1.wr bn.1) ((Sl.cZ bn.2.2.2.2.1 bU.1.fr).mono λb O=>⟨O.1,λh=>O.2 (.inl h)⟩) ad ((Sl.cZ bn.2.2.1 bU.1.fr).mono λb O=>⟨O.1,λh=>O.2 (.inl h)⟩) bK).mono ?_;rintro e aT ⟨r,IA,i,ic,rfl,a8,cH,R,aA,ak⟩;simp only at a8 aA ak;have l:=bU.2.2.on ak ad;have a3:=dm (bU.1.next bi aA ak) l a8 cH R ak.size;clear a0 ai af bq am aG d0 aK aM a8 cH R aA ak;obtain⟨d0,aK,aM⟩:=l.two;clear l;go_wp2_with(fail);generalize hX:World.setCell _ _ _=X;have J:Fr (λb=>b=S.heap.size) aT X:=by rw[<-hX];first|exact((Fr.refl (λb=>b=S.heap.size) aT).setCell (.inl rfl) _).setCell (.inl rfl) _|exact(((Fr.refl (λb=>b=S.heap.size) aT).setCell (.inl rfl) _).setCell (.inl rfl) _).setCell (.inl rfl) _
 have be:au X S 151 #[.int .i64 (if bb then 6 else 5),Mq,(0:Int),(0:Int),Mq,(),.string r.name,.slice IA i ic,(),(),()]:=by rw[<-hX,bo.o];first|exact(a3.2.1.aN 6 _).aN 7 _|exact((a3.2.1.aN 0 _).aN 6 _).aN 7 _
 clear hX d0 aK aM;obtain⟨bm,_,a8,cH,R,bS⟩:=a3.o;have bY:=J.size;have bz:=bU.2.2.lt;exact pA
 ):p:=h
end C1
open C1 in
theorem Fz(bb:Bool)(k:Int)(d bd:Nat)(h:(bb=false/\k<4)\/bb=true/\¬k<4/\k<7):SK k d bd:=by
 rcases h with aj|aj
 all_goals
  exact lR
namespace C6
theorem pB(h:p:=by
 exact hb.simple (st:=.ite x (.eY aa) .nil) ⟨s,wb,sA,bW,bD,sl,GA,gn,gc,MA,mn,mc,FA,fn,fc,M,F,ar⟩ ct B a7 bl d ps V T ls N L aw aY QA b1 qc bg bn.1 cJ bP bn.2.2.2.1 cc.1 bT bA aQ bQ.1 be (eN (aZ.2 ⟨cX,cO,cY,rfl,a3.2.2.2.1,bQ.2.2.2.1⟩) kT (Sl.bS _) (LK _) bQ.2.2.2.2 bt.2.2.2.1 (Sl.bS _) (LK _)) ⟨i,j.1,dP cc.1 2 x a3.2.2.1,(ds _ i i aJ _ _ _ cc.1 (λ_ _ h=>h) (LK _) bt.2.2.1.wf),m8⟩ (λn hn=>by simp only[aD.all,ao.all,Mg] at hn;obtain⟨k,ac,ap,aV⟩:=bt.2.2.1.all n hn;exact⟨k,ac,ad,aV⟩) (by simp only[aD.num,ao.num];omega) dJ aX.2.2 bn.2.1
 ):p:=h
theorem Ar(h:p:=by
 obtain⟨a0,ai,af⟩:=aN.1.blk.two;go_wp2_with(fail);refine(a1 X s sA bW bD sl 2 aN.1.src ad ad).mono ?_;rintro e b7 ⟨cx,rfl,aO,b0,h,he⟩;have ak:=he.fr;have dr:s<X:=aN.1.src.lt;have a5:=aN.1.next bi h ak;have bI:=aN.2.1.on ak ad;have bQ:=cL a5 bI (aN.2.2.1.on ak Z) (aN.2.2.2.1.Ez ak λb O=>ad) (aN.2.2.2.2.Ez ak λb O=>ad);have bs:S<b7.heap.size:=bI.lt;have aE:=ag ak.size (λb (ac:b<X.heap.size) (ap:¬b=s)=>ak.block b ac ap);clear a0 ai af h he ak a5 aO b0 bI;have al:=bt.2.2.1.num;by_cases aj:cx=1
 case neg=>
  have q:(cx == 1)=false:=by simpa using aj
  clear aj;go_wp2_with(fail);have be:=bQ.2.1;exact pA
 case pos=>
  have q:(cx == 1)=true:=by simpa using aj
  clear aj;obtain⟨bq,am,aG⟩:=bQ.2.2.1.two;go_wp2_with(fail)
  first
   | rw[j.2,show IntKind.i64.wrap ((i:Nat):Int)=((i:Nat):Int) from IntWalk.i64_in _ ad]
   | rw[j.2]
  refine(cc.2.2 aP ad i 3 aJ (T++decls ls) aq bd ba aY ps QA b1 qc bg b7 ad ad (bQ.1.wr bn.1) (Sl.cZ bn.2.2.2.2.1 bQ.1.fr) ad (λk aj=>cc.2.1 k ad) (Sl.cZ bn.2.2.1 bQ.1.fr) bK).mono ?_;rintro e cS ⟨t,bE,az,bb,bk,rfl,ci,cb,bS,P,a6⟩;have u:¬(S.heap.size=s\/S.heap.size=wb):=ad;have W:=bQ.2.1.on a6 u;have cC:bE<=aP:=ci.le;have bN:=dm (bQ.1.IG P a6) W ci cb bS a6;clear ci cb bS P a6 bq am aG;obtain⟨d0,aK,aM⟩:=W.two;clear W;go_wp2_with(fail);generalize co:World.setCell _ _ _=Y;have J:=cp co;have be:au Y S 151 #[(7:Int),Mq,.int .i64 x.bf,.int .i64 x.numOf,.string x.bu,.slice cX cO cY,Mq,(),(),.slice m a4 bF,.slice az bb bk]:=co▸bN.2.1.aN 10 _;clear co d0 aK aM;have z:=bN.2.2.2.2.2;have bf:=bN.2.2.1.num;have U:∀b,S.heap.size<=b->¬(b=s\/b=wb):=λb O h=>ad;have a9:Sl X (λb=>S.heap.size<b/\b<X.heap.size) cX cO (x.args.map bm):=av.1;have aW:Sl X (λb=>S.heap.size<b/\b<X.heap.size) m a4 (dc (.eY aa)):=av.2;have cZ:∀b,S.heap.size<b->b<X.heap.size->Y.heap[b]?=X.heap[b]?:=λb ac ap=>(J.block b (lV aE.1 z.size) ad).trans ((z.block b (ay aE.1) (U b ad)).trans (aE.2 b ap ad));have cr:X<=Y.heap.size:=by have:=aE.1;have:=z.size;have:=J.size;omega
  have bj:Sl Y (fresh S Y) cX cO (x.args.map bm):=(a9.ai λb O=>cZ b O.1 O.2).mono λb O=>⟨by have:=O.1;omega,by have:=O.2;omega⟩
  have bh:Sl Y (fresh S Y) m a4 (dc (.eY aa)):=(aW.ai λb O=>cZ b O.1 O.2).mono λb O=>⟨by have:=O.1;omega,by have:=O.2;omega⟩
  have aU:Sl Y (fresh S Y) az bb (dc (.eY t)):=by
   rw[mD];exact(bN.2.2.2.2.1.ai λb O=>J.block b O.2 (ay O.1)).mono λb O=>⟨by have:=O.1;omega,by have:=O.2;have:=J.size;omega⟩
  try refine hN _ _ ?_
  unfold lQ;refine⟨aq,bd,ba,br,on,bZ,?_⟩
  iterate 240 apply Exists.intro
  refine⟨?_,rfl⟩;exact hb.simple (st:=.ite x (.eY aa) (.eY t)) ⟨s,wb,sA,bW,bD,sl,GA,gn,gc,MA,mn,mc,FA,fn,fc,M,F,ar⟩ ct B a7 bl d ps V T ls N L aw aY QA b1 qc bg bn.1 cJ bP bn.2.2.2.1 cc.1 bT bA aQ (bN.1.fresh bn.1 J λb O=>ad) be (eN (aZ.2 ⟨cX,cO,cY,rfl,a3.2.2.2.1,bj⟩) kT (Sl.bS _) (LK _) bh bt.2.2.2.1 aU bN.2.2.2.1) ⟨i,j.1,dP cc.1 2 x a3.2.2.1,(ds _ i i aJ _ _ _ cc.1 (λ_ _ h=>h) (LK _) bt.2.2.1.wf),(ds _ i i aJ _ _ _ cc.1 (λ_ _ h=>h) (LK _) bN.2.2.1.wf)⟩ (λn hn=>by simp only[aD.all] at hn;exact(LU.1 hn).elim (λhn=>by obtain⟨k,ac,ap,aV⟩:=bt.2.2.1.all n hn;exact⟨k,ad,ad,aV⟩) (λhn=>by obtain⟨k,ac,ap,aV⟩:=bN.2.2.1.all n hn;exact⟨k,ac,ad,aV⟩)) (by simp only[aD.num];omega) ad aX.2.2 bn.2.1
 ):p:=h
theorem An(h:p:=by
 have bp:au X S 151 #[(7:Int),Mq,.int .i64 x.bf,.int .i64 x.numOf,.string x.bu,.slice cX cO cY,Mq,(),(),.slice m a4 bF,()]:=hX▸(((((bt.2.1.aN 0 _).aN 2 _).aN 3 _).aN 4 _).aN 5 _).aN 9 _;exact Aq
 ):p:=h
theorem By(h:p:=by
 go_upto_region 30 with(fail);exact BV
 ):p:=h
theorem lS(h:p:=by
 exact Bx
 ):p:=h
end C6
open C6 in
theorem JQ(d bd:Nat)(bw:0<d):SK 11 d bd:=by
 exact lR
namespace C7
theorem pB(h:p:=by
 exact hb.simple (st:=.gI x (.eY aa)) ⟨s,wb,sA,bW,bD,sl,GA,gn,gc,MA,mn,mc,FA,fn,fc,M,F,ar⟩ ct B a7 bl d ps V T ls N L aw aY QA b1 qc bg bn.1 cJ bP bn.2.2.2.1 cc.1 bT bA aQ aN.1 be (eN (aZ.2 ⟨cX,cO,cY,rfl,a3.2.2.2.1,aN.2.2.2.1⟩) kT (Sl.bS _) (LK _) aN.2.2.2.2 bt.2.2.2.1 (Sl.bS _) (LK _)) ⟨i,j.1,dP cc.1 2 x a3.2.2.1,(ds _ i i aJ _ _ _ cc.1 (λ_ _ h=>h) (LK _) bt.2.2.1.wf)⟩ (λn hn=>by obtain⟨k,ac,ap,aV⟩:=bt.2.2.1.all n hn;exact⟨k,ac,ad,aV⟩) (by simp only[aD.num];omega) dJ aX.2.2 bn.2.1
 ):p:=h
theorem Ar(h:p:=by
 go_wp2_with(fail);have al:=bt.2.2.1.num;have be:=aN.2.1;exact pA
 ):p:=h
theorem An(h:p:=by
 have bp:au X S 151 #[(8:Int),Mq,.int .i64 x.bf,.int .i64 x.numOf,.string x.bu,.slice cX cO cY,Mq,(),(),.slice m a4 bF,()]:=hX▸(((((bt.2.1.aN 0 _).aN 2 _).aN 3 _).aN 4 _).aN 5 _).aN 9 _;exact Aq
 ):p:=h
theorem By(h:p:=by
 go_upto_region 34 with(fail);exact BV
 ):p:=h
theorem lS(h:p:=by
 exact Bx
 ):p:=h
end C7
open C7 in
theorem JR(d bd:Nat)(bw:0<d):SK 12 d bd:=by
 exact lR
theorem JP(cx:Int)(bp:0<=cx)(ay:cx<14)(d bd:Nat):SK cx d bd:=by
 by_cases bz:cx<4
 .exact Fz false cx d bd (.inl ⟨rfl,bz⟩)
 by_cases j:cx<7
 .exact Fz true cx d bd (.inr ⟨rfl,bz,j⟩)
 have aj:cx=7\/cx=8\/cx=9\/cx=10\/cx=11\/cx=12\/cx=13:=ad;rcases aj with rfl|rfl|rfl|rfl|rfl|rfl|rfl
 .exact IS d bd
 .by_cases bE:0<bd
  .exact IQ d bd ad
  .exact yp 8 d bd ad
 .exact Fx false 9 d bd (by simp)
 .exact Fx true 10 d bd (by simp)
 .by_cases hd:0<d
  .exact JQ d bd ad
  .exact yp 11 d bd ad
 .by_cases hd:0<d
  .exact JR d bd ad
  .exact yp 12 d bd ad
 .exact yp 13 d bd ad
def J2(p:kx)(ct B:Nat)(a7 bl:Value)(d:Nat)(ps:List (ByteArray×Bool))(V T:Mu)(aw:World)(aH:Nat)(aY:ByteArray)(QA:Mt)(b1 qc:Nat)(bg:Value)(aq:Mt)(bd ba:Nat)(br:Mt)(on bZ:Nat)(N:Int)(w:World):Prop:=∃(aJ:Mu) (ls:List aD) (L:Nat),
 N<=7/\oL p aw w L/\au w ct 96 #[.string aY,.slice QA b1 qc,bg]/\lA B 9 1 151 11 w aq bd ba (aJ.map D.s) br on bZ (ls.map bj)/\Made (p.env ps) d V T aH L ls/\aJ ⊆ V++decls ls/\aJ.length+L<=60
def q0(p:kx)(ct B:Nat)(a7 bl:Value)(d:Nat)(ps:List (ByteArray×Bool))(V T:Mu)(aw:World)(aH:Nat)(aY:ByteArray)(QA:Mt)(b1 qc:Nat)(bg:Value)(a:Act)(w:World):Prop:=∃(aq:Mt) (bd ba:Nat) (br:Mt) (on bZ:Nat) (N:Int) (gR fn u8 gS eW bD u16 gx gy eX eY eZ e3 e4 e5 e6 e7 e8 e9 fa fb fd u32 fe ff fi fj fk fl fp fq fr fs ft fu fv fw fx fz fA fB fC fD fE fF fG fI fJ fK fL fM fN fO fP u64 fR fS fT fU fV fW fX fY fZ f3 f4 f5 f6 f7 f8 f9 ga gb gd ge gf gg gh gi gj gk gl gm go gp gq gr gs gt gu H I am aG aK aM aU a4 bb bf bm bo bp bq bu bz bB bI bW b6 b9 ca cd cj ck cm cq cu cw cy cB cE cF cH cK cM cN cO cQ cR cT cV cW cX cY c4 c5 c6 c7 c8 c9 da db dc dd de df dg dh di dj dk dl dm dn dp dr ds dt du dv dw dx dy dz dA dD dE dF dG dH dI dJ dK dL dM dO dP dR dS dT dU dV dY dZ d0 d1 d2 d3 d4 d5 d6 d7 d8 d9 ea eb ec ed ee ef eg eh ej ek el em en eo ep eq er es et ev ew ex ey ez eA eB eC eD eE eF eG eH eI eK eL eM eN eO eP eQ eR eT eU eV gv cc:Value),J2 p ct B a7 bl d ps V T aw aH aY QA b1 qc bg aq bd ba br on bZ N w/\a=⟨#[.pointer (some ⟨p.wb,0,none⟩),a7,.slice aq bd ba,.int .i64 (d:Int),bl,gR,.pointer (some ⟨ct,0,none⟩),fn,u8,gS,eW,.slice br on bZ,.int .i64 N,gv,cc,bD,u16,gx,gy,eX,eY,eZ,e3,e4,e5,e6,e7,e8,e9,fa,fb,fd,u32,fe,ff,fi,fj,fk,fl,fp,fq,fr,fs,ft,fu,fv,fw,fx,fz,fA,fB,fC,fD,fE,fF,fG,fI,fJ,fK,fL,fM,fN,fO,fP,u64,fR,fS,fT,fU,fV,fW,fX,fY,fZ,f3,f4,f5,f6,f7,f8,f9,ga,gb,gd,ge,gf,gg,gh,gi,gj,gk,gl,gm,go,gp,gq,gr,gs,gt,gu,H,I,am,aG,aK,aM,aU,a4,bb,bf,bm,bo,bp,bq,bu,bz,bB,bI,bW,b6,b9,ca,cd,cj,ck,cm,cq,cu,cw,cy,cB,cE,cF,cH,cK,cM,cN,cO,cQ,cR,cT,cV,cW,cX,cY,c4,c5,c6,c7,c8,c9,da,db,dc,dd,de,df,dg,dh,di,dj,dk,dl,dm,dn,dp,dr,ds,dt,du,dv,dw,dx,dy,dz,dA,dD,dE,dF,dG,dH,dI,dJ,dK,dL,dM,dO,dP,dR,dS,dT,dU,dV,dY,dZ,d0,d1,d2,d3,d4,d5,d6,d7,d8,d9,ea,eb,ec,ed,ee,ef,eg,eh,ej,ek,el,em,en,eo,ep,eq,er,es,et,ev,ew,ex,ey,ez,eA,eB,eC,eD,eE,eF,eG,eH,eI,eK,eL,eM,eN,eO,eP,eQ,eR,eT,eU,eV],[]⟩
def FY(a:Act)(_:World):Nat:=(intOf (a.tmps.getD 12 undef)).toNat
theorem GZ(p:kx)(ct B:Nat)(a7 bl:Value)(d:Nat)(ps:List (ByteArray×Bool))(V T:Mu)(aw:World)(aH:Nat)(aY:ByteArray)(QA:Mt)(b1 qc:Nat)(bg:Value)(i:gJ aw p aH)(k:Sl aw (off p.MW aw) QA b1 (ps.map cD))(bC:aw.heap.size<=ct)(bP:ct<B)(bM:B<=ct+1)(bK:b1<=2)(aR:d<=2)(aa:mq T aH)(ax:∀R,R<aH->I5 p R)(dB:Exit->Act->World->Prop)(hQ0:∀c a d v w,dB (.panic c) (a.put d v) w->dB (.panic c) a w)(x:∀r j,q0 p ct B a7 bl d ps V T aw aH aY QA b1 qc bg r j->dB (.exit 0) r j)
  (a:Act) (wr:World) (hI:q0 p ct B a7 bl d ps V T aw aH aY QA b1 qc bg a wr):Code.wp prog xx (Exit.then (λr j=>q0 p ct B a7 bl d ps V T aw aH aY QA b1 qc bg r j/\FY r j<FY a wr) dB) a wr:=by
 obtain⟨s,wb,sA,bW,bD,sl,GA,gn,gc,MA,mn,mc,FA,fn,fc,M,F,ar⟩:=p;unfold q0 at hI;obtain⟨aq,bd,ba,br,on,bZ,N,hI⟩:=hI
 iterate 241 obtain⟨_,hI⟩:=hI
 obtain⟨hI,rfl⟩:=hI;have bn:=ae hI;obtain⟨aJ,ls,L,a5,hC,am,hG,hM,hV,bT⟩:=hI;have bi:=i.ne;have b2:=i.src.lt;have cg:=i.blk.lt;simp only at bi b2 cg;obtain⟨a0,ai,af⟩:=hC.blk.two;have b8:aJ.length=bd:=by have:=hG.one.len;simpa using this
 have Q:ls.length=on:=by have:=hG.two.len;simpa using this
 have bw:=hC.le;have bJ:=hM.le;have aP:=i.kO;have aW:on<=48:=by
  have ac:=hM.num;have ap:=ui ls;have aV:=i.kO;omega
 have ah:=cL hC am hG hM hV;have aX:=bF i k aa ax;clear hC am hG hM hV i k aa ax;by_cases hS:0<N
 case neg=>
  have q:decide (N > 0)=false:=by simp;omega
  exact zU
 by_cases a4:0<L
 case neg=>
  have q:decide (N > 0)=true:=by simpa using hS
  obtain rfl:L=0:=ad;exact zU
 obtain⟨R,rfl⟩:∃R,L=R+1:=⟨L - 1,ad⟩
 have dJ:(0:Int)<((R+1:Nat):Int):=ad;clear bn;conv=>arg 2;whnf
 go_upto_region 7 with(fail);generalize hX:World.setCell _ _ _=S;have av:=cp hX;have bN:au S wb 85 #[.pointer (some ⟨s,0,none⟩),.slice GA gn gc,.slice MA mn mc,.slice FA fn fc,R,ar]:=hX▸ah.1.blk.aN 4 _;have n:oL ⟨s,wb,sA,bW,bD,sl,GA,gn,gc,MA,mn,mc,FA,fn,fc,M,F,ar⟩ aw S R:=⟨ah.1.src.cT av (λb O h=>by simp only at O;omega),bN,ah.1.fr.trans (av.mono λ_ h=>.inr h),ad⟩
 have P:=ah.2.1.on av ad;have be:=ah.2.2.1.cZ av (λb O _=>ad);have bk:=az n P be;have cl:ct<S:=P.lt;clear hX av bN n P be a0 ai af;obtain⟨a0,ai,af⟩:=bk.1.blk.two;go_upto_region 8 with(fail);generalize an:World.alloc _ _=aS;have aO:=aU an;have ao:=aI an;have u:oL ⟨s,wb,sA,bW,bD,sl,GA,gn,gc,MA,mn,mc,FA,fn,fc,M,F,ar⟩ S aS R:=⟨bk.1.src.cT aO (λ_ _ h=>h),bk.1.blk.aj aO,aO.mono λ_ h=>h.elim,bk.1.le⟩
 have H1:=ag u ao;clear an aO ao u a0 ai af;obtain⟨a0,ai,af⟩:=H1.1.blk.two;go_wp2_with(fail);refine(a1 aS s sA bW bD sl 14 H1.1.src ad ad).mono ?_;rintro e aT ⟨cx,rfl,bp,ay,h,he⟩;have bm:=H1.1.next bi h he.fr;have cd:=H1.2.on he.fr ad;have bc:=ag bm cd;clear h he bm cd a0 ai af H1;go_upto_region 14 with(fail);have h0:=bk.1.wr aX.1;have aB:∀b,(⟨s,wb,sA,bW,bD,sl,GA,gn,gc,MA,mn,mc,FA,fn,fc,M,F,ar⟩:kx).MW b->b<B:=λb O=>by rcases O with O|O<;>(simp only at O;omega)
 refine JP cx bp ay d bd ⟨s,wb,sA,bW,bD,sl,GA,gn,gc,MA,mn,mc,FA,fn,fc,M,F,ar⟩ ct B a7 bl ps V T ls N S R aw aY QA b1 qc bg aJ aq ba br on bZ R (by simp only;omega) ad ad bK aT h0.ne h0.src.lt h0.blk.lt (by have:=bk.2.2.one.len;simpa using this) bc.1.fr.size (ae ⟨h0,bk.2.1,Sl.cZ aX.2.1 bk.1.fr,bk.2.2,bk.2.2.names aB,aB⟩) (ae ⟨bc.1,bk.2.1.on bc.1.fr (λh=>by rcases h with h|h<;>(simp only at h;omega)),bc.2⟩) ad ad aR (ae ⟨ah.2.2.2.2,ah.2.2.2.1.free ad aX.2.2.1,λa2 Z=>aX.2.2.2 a2 ad⟩) aH (ae ⟨aX.1,aX.2.1,bk.1.fr⟩) bC _ ?hQ ?hN _ (by assumption)
 case hQ=>exact λc a d v w h=>hQ0 _ _ _ _ _ h
 case hN=>
  intro r ab hp;unfold lQ at hp;obtain⟨z,aL,U,aD,I7,aF,hp⟩:=hp
  iterate 240 obtain⟨_,hp⟩:=hp
  obtain⟨hF,rfl⟩:=hp;obtain⟨aN,m,st,bE,cs,aj,l,I,Y,J,a8,y,K,hle,ak,aG,aZ⟩:=hF;obtain⟨eo,en,es,EA,em,ec,rs,cM,di,rc,cR,n1,c1,A2,n2,c2,cC,n3,c3,rfl,_⟩:=lx J;obtain⟨d0,aK,aM⟩:=Y.two;have a3:=px aj l I J a8 y K ak;have aQ:ct<ab:=l.lt;have cv:B<=ab:=ad;clear aj l I Y J a8 y K ak;clear bc
  try dsimp only[Exit.inBlock,Exit.then]
  go_wp2_with(at_builtin;refine bL oO rfl (.tmp 244) (.tmp 246) rfl a3.2.2.1.two a3.2.2.2.1 rfl rfl rfl ad ad cv ?_;intro cm bI c6 al aC cn cb;have dx:=az al aC cn;clear al aC cn cb);refine⟨?_,by simp[FY,intOf];omega⟩;obtain⟨aj,l,I,J,a8,y,K,ak⟩:=a3.o;obtain⟨bf,a9,bo⟩:=dx.o;have aE:∀b,(Value.slice aD I7 aF).ownBlock=some b->B<=b:=λb O=>(I.two.lt O).1;unfold q0;refine⟨z,aL,U,cm,I7+1,bI,N - 1,?_⟩
  iterate 241 apply Exists.intro
  refine⟨?_,rfl⟩;refine⟨aN,ls++(m++[st]),bE,ad,aj.fresh aX.1 a9 (λb O=>by have:=aE b O;omega),l.on a9 (λO=>by have:=aE _ O;omega),?_,ah.2.2.2.1.snoc a8 y K ad,ak,aG⟩;have aA:(ls++(m++[st])).map bj=(ls++m).map bj++[bj st]:=by simp
  rw[aA];exact(I.swap.grow bf a9 bo).swap
theorem IZ(p:kx)(ct B:Nat)(a7 bl:Value)(d:Nat)(ps:List (ByteArray×Bool))(V T:Mu)(aw:World)(aH:Nat)(aY:ByteArray)(QA:Mt)(b1 qc:Nat)(bg:Value)(i:gJ aw p aH)(k:Sl aw (off p.MW aw) QA b1 (ps.map cD))(bC:aw.heap.size<=ct)(bP:ct<B)(bM:B<=ct+1)(bK:b1<=2)(aR:d<=2)(aa:mq T aH)(ax:∀R,R<aH->I5 p R)(dB:Exit->Act->World->Prop)(hQ0:∀c a d v w,dB (.panic c) (a.put d v) w->dB (.panic c) a w)(x:∀r j,q0 p ct B a7 bl d ps V T aw aH aY QA b1 qc bg r j->dB (.exit 0) r j)
  (aq:Mt) (bd ba:Nat) (br:Mt) (on bZ:Nat) (N:Int) {gR fn u8 gS eW bD u16 gx gy eX eY eZ e3 e4 e5 e6 e7 e8 e9 fa fb fd u32 fe ff fi fj fk fl fp fq fr fs ft fu fv fw fx fz fA fB fC fD fE fF fG fI fJ fK fL fM fN fO fP u64 fR fS fT fU fV fW fX fY fZ f3 f4 f5 f6 f7 f8 f9 ga gb gd ge gf gg gh gi gj gk gl gm go gp gq gr gs gt gu H I am aG aK aM aU a4 bb bf bm bo bp bq bu bz bB bI bW b6 b9 ca cd cj ck cm cq cu cw cy cB cE cF cH cK cM cN cO cQ cR cT cV cW cX cY c4 c5 c6 c7 c8 c9 da db dc dd de df dg dh di dj dk dl dm dn dp dr ds dt du dv dw dx dy dz dA dD dE dF dG dH dI dJ dK dL dM dO dP dR dS dT dU dV dY dZ d0 d1 d2 d3 d4 d5 d6 d7 d8 d9 ea eb ec ed ee ef eg eh ej ek el em en eo ep eq er es et ev ew ex ey ez eA eB eC eD eE eF eG eH eI eK eL eM eN eO eP eQ eR eT eU eV gv cc:Value} (wr:World) (hI:J2 p ct B a7 bl d ps V T aw aH aY QA b1 qc bg aq bd ba br on bZ N wr):Code.wp prog (Code.loop xx) dB ⟨#[.pointer (some ⟨p.wb,0,none⟩),a7,.slice aq bd ba,.int .i64 (d:Int),bl,gR,.pointer (some ⟨ct,0,none⟩),fn,u8,gS,eW,.slice br on bZ,.int .i64 N,gv,cc,bD,u16,gx,gy,eX,eY,eZ,e3,e4,e5,e6,e7,e8,e9,fa,fb,fd,u32,fe,ff,fi,fj,fk,fl,fp,fq,fr,fs,ft,fu,fv,fw,fx,fz,fA,fB,fC,fD,fE,fF,fG,fI,fJ,fK,fL,fM,fN,fO,fP,u64,fR,fS,fT,fU,fV,fW,fX,fY,fZ,f3,f4,f5,f6,f7,f8,f9,ga,gb,gd,ge,gf,gg,gh,gi,gj,gk,gl,gm,go,gp,gq,gr,gs,gt,gu,H,I,am,aG,aK,aM,aU,a4,bb,bf,bm,bo,bp,bq,bu,bz,bB,bI,bW,b6,b9,ca,cd,cj,ck,cm,cq,cu,cw,cy,cB,cE,cF,cH,cK,cM,cN,cO,cQ,cR,cT,cV,cW,cX,cY,c4,c5,c6,c7,c8,c9,da,db,dc,dd,de,df,dg,dh,di,dj,dk,dl,dm,dn,dp,dr,ds,dt,du,dv,dw,dx,dy,dz,dA,dD,dE,dF,dG,dH,dI,dJ,dK,dL,dM,dO,dP,dR,dS,dT,dU,dV,dY,dZ,d0,d1,d2,d3,d4,d5,d6,d7,d8,d9,ea,eb,ec,ed,ee,ef,eg,eh,ej,ek,el,em,en,eo,ep,eq,er,es,et,ev,ew,ex,ey,ez,eA,eB,eC,eD,eE,eF,eG,eH,eI,eK,eL,eM,eN,eO,eP,eQ,eR,eT,eU,eV],[]⟩ wr:=by
 refine wp_loop (q0 p ct B a7 bl d ps V T aw aH aY QA b1 qc bg) FY ?_ (λa j hI=>GZ p ct B a7 bl d ps V T aw aH aY QA b1 qc bg i k bC bP bM bK aR aa ax dB hQ0 x a j hI);unfold q0
 iterate 248 apply Exists.intro
 exact⟨hI,rfl⟩
theorem nN{w:World}{P:Nat->Prop}:∀l:List ByteArray,D.aM w P (l.map D.s) (l.map Value.string)
 | []=>by simp only[Me,D.aM]
 | x::l=>by simp only[LQ];exact cu.2 ⟨_,rfl,nN l⟩
theorem yo{w:World}{P:Nat->Prop}:∀(l:Mu) (xs:List Value),D.aM w P (l.map D.s) xs->xs=l.map Value.string
 | [],xs,h=>by simpa only[Me,D.aM] using h
 | x::l,xs,h=>by
  simp only[LQ] at h;obtain⟨y,rfl,ap⟩:=cu.1 h;rw[LQ,yo l y ap]
theorem uZ{w:World}{A:Mt}{n:Nat}{l:Mu}(h:Sl w P A n (l.map D.s)):Src w 1 A n (l.map Value.string):=by
 obtain⟨xs,a5,hs⟩:=h.src (z:=1) (λd hd=>by obtain⟨x,_,rfl⟩:=Mf.1 hd;rfl)
 rwa [yo l xs a5] at hs
theorem vg(p:kx)(aH:Nat)(ax:∀R,R<aH->I5 p R):I5 p aH:=by
 intro d f V T N bA bk aY ps QA b1 qc bg w hd o hw hN bT aa bO bK;obtain⟨s,wb,sA,bW,bD,sl,GA,gn,gc,MA,mn,mc,FA,fn,fc,M,F,ar⟩:=p;have bi:=hw.ne;have b2:=hw.src.lt;have cg:=hw.blk.lt;have b8:V.length=bA:=by have:=hN.1;simpa using this
 simp only at bi b2 cg;have H:=cL hw hN bO aa ax;clear hw hN bO aa ax;go_enter func31,ntmps31;go_upto_region 2 with(fail);generalize ba:World.alloc _ _=W;have aw:=aU ba;have ao:=aI ba;have cN:W=w.heap.size+1:=by rw[<-ba];simp
 have be:Gr (λ_=>False) (w.heap.size+1) 9 1 (W.alloc (.cells #[] 9)) (some ⟨W,0,none⟩) 0 0 []:=(Gr.lit (w:=W) (n:=0) (l:=[]) rfl (by rfl) ad (by simp only[D.aM])).base ad;rw[cN] at be;have aA:Src (W.alloc (.cells #[] 9)) 1 N bA (V.map Value.string):=uZ (Sl.cZ H.2.1 ((aw.mono λ_ h=>h.elim).alloc _));have g:N=none->bA=0:=λh=>by subst h;exact Sl.none_ H.2.1
 have cv:w.heap.size+1<=(W.alloc (.cells #[] 9)).heap.size:=by simp;omega
 have ah:=ag aw ao;clear ba aw ao;go_upto_region 3 with(at_builtin;refine qR kF rfl (.tmp 17) (.tmp 18) rfl be (nN V) (by simpa using b8) aA g rfl rfl ad ad cv ?_;intro cC c3 b7 dW av aZ a9;have aE:=ag dW av;clear dW av aZ a9);have a7:Ext W b7:=(Mo.alloc _:Ext W (W.alloc (.cells #[] 9))).eZ (aE.2.below (by simp) λk aj h=>by
  simp[Value.ownBlock] at h;omega)
 have dG:=H.1.aj (ah.1.trans a7);obtain⟨a0,ai,af⟩:=dG.blk.two;have bQ:=az dG a7 aE.1;clear dG a7 aE be aA g;go_wp2_with(fail);refine(a1 b7 s sA bW bD sl ((f:Int)+1) bQ.1.src ad ad).mono ?_;rintro e cS ⟨cx,rfl,bp,ce,h,he⟩;have ak:Fr (λb=>b=s) w cS:=((ah.1.trans bQ.2.1).mono λ_ h=>h.elim).trans he.fr;have j:=bQ.1.next h he.fr;have Z:=bQ.2.2.cZ he.fr λb O _=>⟨λh=>h,ad⟩
 simp only[L8,Mh] at Z;have i:=(ah.2.aj bQ.2.1).on he.fr ad;have bw:aH<=24:=H.1.kO;have b5:=ae (show J2 ⟨s,wb,sA,bW,bD,sl,GA,gn,gc,MA,mn,mc,FA,fn,fc,M,F,ar⟩ w.heap.size (w.heap.size+1) (.agg #[aY,.slice QA b1 qc,bg]) (.int .i64 (f:Int)) d ps V T w aH aY QA b1 qc bg cC bA c3 none 0 0 cx cS from
  ⟨V,[],aH,ad,⟨j.src,j.blk,ak.mono λ_ h=>.inl h,bw⟩,i,⟨Gr.strs Z,Gr.nil _ _ _ _ _,λb _ h=>by cases h⟩,Made.nil _ _ _ _ _,λx hx=>LU.2 (.inl hx),bT⟩)
 clear h he ak j Z i a0 ai af bQ;skip
 go_wp2_with(fail);refine IZ ⟨s,wb,sA,bW,bD,sl,GA,gn,gc,MA,mn,mc,FA,fn,fc,M,F,ar⟩ w.heap.size (w.heap.size+1) (.agg #[aY,.slice QA b1 qc,bg]) (.int .i64 (f:Int)) d ps V T w aH aY QA b1 qc bg H.1 H.2.2.1 (LK _) ad (LK _) bK hd H.2.2.2.1 H.2.2.2.2 _ ?hQ ?hX cC bA c3 none 0 0 cx cS b5.o
 case hQ=>exact λ_ _ d _ _ h=>by cases d<;>exact h
 case hX=>
  intro r wf hI;unfold q0 at hI;obtain⟨z,aL,U,aD,I7,aF,hI⟩:=hI
  iterate 242 obtain⟨_,hI⟩:=hI
  obtain⟨⟨aJ,ls,L,_,hC,am,hG,hM,hV,m⟩,rfl⟩:=hI;have b3:=az hC hG hM;clear hC am hG hM hV m b5;go_wp2;go_ret;obtain⟨hC,hG,hM⟩:=b3.o;exact⟨ls,L,aD,I7,aF,rfl,hM,hG.two.cap.1,hG.two.sl (λb O hp=>⟨by have:=hp.1;omega,O⟩) (λb O hp=>⟨ad,O⟩),hC.wr H.1,hC.fr⟩
theorem xy(p:kx):∀L,I5 p L:=λL=>by
 induction L using Nat.strongRecOn with
 | _ L Z=>exact vg p L Z
def j0(n:Nat):Code->Option Code
 | .seq a b=>match a with
  | .region k _ _=>if k=n then some (.seq a b) else j0 n b
  | .seq x y=>match j0 n (.seq x y) with
   | some c=>some c
   | none=>j0 n b
  | _=>j0 n b
 | _=>none
noncomputable def wW(n:Nat):Code:=match (Tryz.f11.body.bind (j0 n)).getD .skip with
 | .seq a _=>a
 | c=>c
noncomputable def nH(n:Nat):Code:=match (Tryz.f11.body.bind (j0 n)).getD .skip with
 | .seq _ b=>b
 | _=>.skip
noncomputable def HQ(n:Nat):Code:=(Tryz.f11.body.bind (j0 n)).getD .skip
def kp(w:World)(e:Ending)(ab:World):Prop:=∃(p:bQ) (GA:Mt) (gn gc:Nat) (MA:Mt) (mn mc:Nat) (FA:Mt) (fn fc:Nat),e=.returned (.agg #[.slice GA gn gc,.slice MA mn mc,.slice FA fn fc])/\oJ p/\gn<=gc/\mn<=mc/\fn<=fc/\
 Sl ab (fresh w ab) GA gn (p.globals.map iG)/\Sl ab (fresh w ab) MA mn (p.af.map eK)/\Sl ab (fresh w ab) FA fn (p.funcs.map dD)/\Ext w ab
def na(M:List bM):Prop:=∀i m,M[i]?=some m->m.name=iK i/\0<=m.size/\m.size<=3/\(m.re=true->m.size=0)
structure oM(S w:World)(A:Mt)(n c:Nat)(l:List Int)(ar:Bool)(MA:Mt)(mn mc:Nat)(M:List bM):Prop where
 src:cr w (S.heap.size+1) A n c l
 blk:au w (S.heap.size+1+1) 85 #[.pointer (some ⟨S.heap.size+1,0,none⟩),.slice none 0 0,.slice MA mn mc,.slice none 0 0,.int .i64 24,.bool ar]
 res:au w S.heap.size 31 #[.slice none 0 0,.slice none 0 0,.slice none 0 0]
 ms:Gr (λ_=>False) (S.heap.size+1+1+1) 89 3 w MA mn mc (M.map eK)
 nm:mn<=4
 ok:na M
 ext:Ext S w
section
variable {S w ab:World} {A:Mt} {n c:Nat} {l:List Int} {ar:Bool} {MA:Mt} {mn mc:Nat} {M:List bM}
theorem oM.next(h:oM S w A n c l ar MA mn mc M)(hs:cr ab (S.heap.size+1) A n c l)(O:Fr (λb=>b=S.heap.size+1) w ab):oM S ab A n c l ar MA mn mc M:=
 ⟨hs,h.blk.on O ad,h.res.on O ad,h.ms.cZ O (λb O _=>⟨λh=>h,ad⟩),h.nm,h.ok,Fr.low (M:=λb=>b=S.heap.size+1) ((h.ext.mono λ_ h=>h.elim).trans O) λk aj=>ad⟩
theorem oM.aj(h:oM S w A n c l ar MA mn mc M)(O:Ext w ab):oM S ab A n c l ar MA mn mc M:=h.next (h.src.cT O λ_ _ h=>h) (O.mono λ_ h=>h.elim)
theorem oM.fresh(h:oM S w A n c l ar MA mn mc M){g:Nat}(aR:S.heap.size+1+1<g)(bn:(Value.slice MA mn mc).ownBlock≠some g)(O:Fr (λb=>b=g) w ab):oM S ab A n c l ar MA mn mc M:=
 ⟨h.src.cT O (λb O h=>ad),h.blk.on O ad,h.res.on O ad,h.ms.dr O.size (λb an hp=>O.block b an (hp.elim (λh=>h.elim) λhp j=>by subst j;exact bn hp)),h.nm,h.ok,Fr.low (M:=λb=>b=g) ((h.ext.mono λ_ h=>h.elim).trans O) λk aj=>ad⟩
theorem oM.add(h:oM S w A n c l ar MA mn mc M){ey:Mt}{eE:Nat}{m:bM}(aR:Gr (λ_=>False) (S.heap.size+1+1+1) 89 3 ab ey (mn+1) eE (M.map eK++[eK m]))(J:Fr (λb=>(Value.slice MA mn mc).ownBlock=some b) w ab)
  (hn:mn+1<=4) (ca:na (M++[m])):oM S (ab.setCell ⟨S.heap.size+1+1,2,none⟩ (.slice ey (mn+1) eE)) A n c l ar ey (mn+1) eE (M++[m]):=by
 have bn:∀b,(Value.slice MA mn mc).ownBlock=some b->S.heap.size+1+1+1<=b:=λb O=>(h.ms.lt O).1;have aC:Fr (λb=>b=S.heap.size+1+1) ab (ab.setCell ⟨S.heap.size+1+1,2,none⟩ (.slice ey (mn+1) eE)):=(Fr.refl (λb=>b=S.heap.size+1+1) ab).setCell (.inl rfl) _;refine⟨(h.src.cT J λb O ah=>by have:=bn b ah;omega).cT aC (λb O ah=>ad),(h.blk.on J λah=>by have:=bn _ ah;omega).aN 2 _,(h.res.on J λah=>by have:=bn _ ah;omega).on aC ad,?_,hn,ca,
  Fr.low (M:=λb=>b=S.heap.size+1+1) ((Fr.low (M:=λb=>(Value.slice MA mn mc).ownBlock=some b) ((h.ext.mono λ_ h=>h.elim).trans J) λk aj=>by have:=bn k aj;omega).mono (λ_ h=>h.elim) |>.trans aC) λk aj=>ad⟩
 rw[LR,LQ,Me];exact aR.cZ aC (λb O _=>⟨λh=>h,ad⟩)
end
theorem na.snoc{M:List bM}(h:na M)(aX:M.length=i){re:Bool}{sz:Int}(h0:0<=sz)(aV:sz<=3)(z:re=true->sz=0):na (M++[⟨iK i,re,sz⟩]):=by
 intro k m hm;by_cases aj:k<M.length
 .rw[List.getElem?_append_left aj] at hm;exact h k m hm
 .rw[List.getElem?_append_right ad] at hm;have cu:k - M.length=0:=by
   exact vw
  rw[cu] at hm;simp at hm;subst hm;have:k=i:=ad;subst this;exact⟨rfl,h0,aV,z⟩
def FU(S:World)(gY:Value)(Q:Exit->Act->World->Prop)(K:Act->World->Prop):Prop:=∀(A:Mt) (n c:Nat) (l:List Int) (ar:Bool) (MA:Mt) (mn mc:Nat) (M:List bM) {hu hw gR gV fn u8 gS eW bK gw gv cc bD u16 gx gy eX eY eZ e3 e4 e5 e6 e7 e8 e9 fa fb fd u32 fe ff fi fj fk fl fp fq fr fs ft fu fv fw fx fz fA fB fC fD fE fF fG fI fJ fK fL fM fN fO fP u64 fR fS fT fU fV fW fX fY fZ f3 f4 f5 f6 f7 f8 f9 ga gb gd ge gf gg gh gi gj gk gl gm go gp gq gr gs gt gu H I am aG aK aM aU a4 bb bf bm bo bp bq bu bz bB bI bW b6 b9 ca cd cj ck cm cq cu cw cy cB cE cF cH cK cM cN cO cQ cR cT cV cW cX cY c4 c5 c6 c7 c8 c9 da db dc dd de df dg dh di dj dk dl dm dn dp dr ds dt du dv dw dx dy dz dA dD dE dF dG dH dI dJ dK dL dM dO dP dR dS dT dU dV dY dZ d0 d1 d2 d3 d4 d5 d6 d7 d8 d9 ea eb ec ed ee ef eg eh ej ek el em en eo ep eq er es et ev ew ex ey ez eA eB eC eD eE eF eG eH eI eK eL eM eN eO eP eQ eR eT eU eV gB gC gD gE gF gG gH gI gJ gK gL gM gN gO gP:Value} (w:World),1<=mn->oM S w A n c l ar MA mn mc M->
 Code.wp prog (wW 13) (Exit.then K Q) ⟨#[gY,hu,.pointer (some ⟨S.heap.size,0,none⟩),.pointer (some ⟨S.heap.size+1+1,0,none⟩),hw,gR,gV,fn,u8,gS,eW,bK,gw,gv,cc,bD,u16,gx,gy,eX,eY,eZ,e3,e4,e5,e6,e7,e8,e9,fa,fb,fd,u32,fe,ff,fi,fj,fk,fl,fp,fq,fr,fs,ft,fu,fv,fw,fx,fz,fA,fB,fC,fD,fE,fF,fG,fI,fJ,fK,fL,fM,fN,fO,fP,u64,fR,fS,fT,fU,fV,fW,fX,fY,fZ,f3,f4,f5,f6,f7,f8,f9,ga,gb,gd,ge,gf,gg,gh,gi,gj,gk,gl,gm,go,gp,gq,gr,gs,gt,gu,H,I,am,aG,aK,aM,aU,a4,bb,bf,bm,bo,bp,bq,bu,bz,bB,bI,bW,b6,b9,ca,cd,cj,ck,cm,cq,cu,cw,cy,cB,cE,cF,cH,cK,cM,cN,cO,cQ,cR,cT,cV,cW,cX,cY,c4,c5,c6,c7,c8,c9,da,db,dc,dd,de,df,dg,dh,di,dj,dk,dl,dm,dn,dp,dr,ds,dt,du,dv,dw,dx,dy,dz,dA,dD,dE,dF,dG,dH,dI,dJ,dK,dL,dM,dO,dP,dR,dS,dT,dU,dV,dY,dZ,d0,d1,d2,d3,d4,d5,d6,d7,d8,d9,ea,eb,ec,ed,ee,ef,eg,eh,ej,ek,el,em,en,eo,ep,eq,er,es,et,ev,ew,ex,ey,ez,eA,eB,eC,eD,eE,eF,eG,eH,eI,eK,eL,eM,eN,eO,eP,eQ,eR,eT,eU,eV,gB,gC,gD,gE,gF,gG,gH,gI,gJ,gK,gL,gM,gN,gO,gP],[]⟩ w
theorem cw.JS{α:Type}{f:α->List Value}{sz:Nat}{w:World}{B n:Nat}{A:Mt}{l:List α}(h:cw (EF f) sz w B A n l)(hm:m<=n):cw (EF f) sz w B A m (l.take m):=by
 refine⟨by have:=h.1;simp;omega,λh0=>?_⟩;obtain⟨b,o,bG,O,hc⟩:=h.2 ad;exact⟨b,o,bG,O,λk x hx=>hc k x ((List.getElem?_take_of_lt (i:=k) (by have:=(List.getElem?_eq_some_iff.1 hx).1;simp at this;omega)).symm.trans hx)⟩
theorem Eg(m:Nat)(A:Mt)(n c:Nat)(l:List Int)(w:World)(hm:m<=1000)(h:cw (EF cO) 1 w w.heap.size A n l)(hc:n<=c) :
  Calls prog 29 #[.slice A n c,m] w λe ab=>(∃I a6 aE,e=.returned (.slice I a6 aE)/\a6<=m/\∃aP,cw (EF cO) 1 w w I a6 aP)/\w=ab:=by
 have H:=ae h;by_cases hn:n<=m
 .have q:decide ((n:Int) > (m:Int))=false:=by simp;omega
  clear h;go_enter func29,ntmps29;go_wp2;go_ret;exact⟨⟨A,n,c,rfl,hn,l,H.o⟩,rfl⟩
 .obtain⟨b,o,rfl,O⟩:=h.some_ ad;have q:decide ((n:Int) > (m:Int))=true:=by simp;omega
  have bC:(0:Int)<=(m:Int):=ad;have d7:(m:Int)<=(c:Int):=ad;clear h;go_enter func29,ntmps29;go_wp2;go_ret;exact⟨⟨_,m,_,rfl,LK _,_,H.JS ad⟩,rfl⟩
theorem EW(aX:i<4):strOf [byteOf (97+(i:Int))]=iK i:=by
 have h:∀k:Fin 4,strOf [byteOf (97+((k.val:Nat):Int))]=iK k.val:=by decide
 exact h ⟨i,aX⟩
theorem vS:cn prog 27 92 (.agg #[Mq,(0:Int)]) 2 24:=cn.mk' Tryz.underlying27 (by kernel_rfl) rfl ad
def sd(G:List (ByteArray×Int)):Prop:=∀i g,G[i]?=some g->g.1=dW i∧-2<=g.2/\g.2<=2
theorem sd.snoc{G:List (ByteArray×Int)}(h:sd G)(aX:G.length=i){v:Int}(h0:-2<=v)(aV:v<=2):sd (G++[(dW i,v)]):=by
 intro k m hm;by_cases aj:k<G.length
 .rw[List.getElem?_append_left aj] at hm;exact h k m hm
 .rw[List.getElem?_append_right ad] at hm;have cu:k - G.length=0:=by
   exact vw
  rw[cu] at hm;simp at hm;subst hm;have:k=i:=ad;subst this;exact⟨rfl,h0,aV⟩
structure xF(S:World)(u:Nat)(w:World)(A:Mt)(n c:Nat)(l:List Int)(ar:Bool)(MA:Mt)(mn mc:Nat)(M:List bM)(GA:Mt)(gn gc:Nat)(G:List (ByteArray×Int))(aq:Mt)(ba:Nat):Prop where
 src:cr w (S.heap.size+1) A n c l
 blk:au w (S.heap.size+1+1) 85 #[.pointer (some ⟨S.heap.size+1,0,none⟩),.slice GA gn gc,.slice MA mn mc,.slice none 0 0,.int .i64 24,.bool ar]
 res:au w S.heap.size 31 #[.slice none 0 0,.slice none 0 0,.slice none 0 0]
 ms:Sl w (λb=>S.heap.size+1+1+1<=b/\b<u) MA mn (M.map eK)
 mc:mn<=mc
 rows:lA u 92 2 9 1 w GA gn gc (G.map iG) aq gn ba ((G.map (·.1)).map D.s)
 nm:1<=mn/\mn<=4
 ok:na M
 ng:gn<=2
 zp:sd G
 ext:Ext S w
 hD:S.heap.size+1+1+1<=u/\u<=w.heap.size
section
variable {S w ab:World} {u:Nat} {A:Mt} {n c:Nat} {l:List Int} {ar:Bool} {MA:Mt} {mn mc:Nat} {M:List bM} {GA:Mt} {gn gc:Nat} {G:List (ByteArray×Int)} {aq:Mt} {ba:Nat}
theorem oM.Kr(h:oM S w A n c l ar MA mn mc M)(ac:1<=mn):xF S w.heap.size w A n c l ar MA mn mc M none 0 0 [] none 0:=
 ⟨h.src,h.blk,h.res,h.ms.sl (λ_ _ h=>h.elim) (λb O aQ=>⟨aQ,O⟩),h.ms.cap.1,lA.nil _ _ _ _ _ _,⟨ac,h.nm⟩,h.ok,ad,(λi g h=>by cases h),h.ext,by have:=h.blk.lt;omega,LK _⟩
theorem xF.next(h:xF S u w A n c l ar MA mn mc M GA gn gc G aq ba)(hs:cr ab (S.heap.size+1) A n c l)(O:Fr (λb=>b=S.heap.size+1) w ab):xF S u ab A n c l ar MA mn mc M GA gn gc G aq ba:=by
 have hD:=h.hD;exact⟨hs,h.blk.on O ad,h.res.on O ad,h.ms.ai λb hp=>O.block b (ay hp.2) (ay hp.1),h.mc,h.rows.cZ O (λb O _=>ad),h.nm,h.ok,h.ng,h.zp,Fr.low (M:=λb=>b=S.heap.size+1) ((h.ext.mono λ_ h=>h.elim).trans O) λk aj=>ad,hD.1,by have:=O.size;omega⟩
theorem xF.aj(h:xF S u w A n c l ar MA mn mc M GA gn gc G aq ba)(O:Ext w ab):xF S u ab A n c l ar MA mn mc M GA gn gc G aq ba:=h.next (h.src.cT O λ_ _ h=>h) (O.mono λ_ h=>h.elim)
theorem xF.add(h:xF S u w A n c l ar MA mn mc M GA gn gc G aq ba){bg z:Mt}{aY U:Nat}{g:ByteArray×Int}(a5:lA u 92 2 9 1 ab bg (gn+1) aY ((G++[g]).map iG) z (gn+1) U (((G++[g]).map (·.1)).map D.s))
  (J:Fr (λb=>(Value.slice GA gn gc).ownBlock=some b\/(Value.slice aq gn ba).ownBlock=some b) w ab) (hn:gn+1<=2) (ca:sd (G++[g])) :
  xF S u (ab.setCell ⟨S.heap.size+1+1,1,none⟩ (.slice bg (gn+1) aY)) A n c l ar MA mn mc M bg (gn+1) aY (G++[g]) z U:=by
 have hD:=h.hD;have bn:∀b,((Value.slice GA gn gc).ownBlock=some b\/(Value.slice aq gn ba).ownBlock=some b)->u<=b:=λb O=>by
  rcases O with O|O
  .exact(h.rows.one.lt O).1
  .exact(h.rows.two.lt O).1
 have aC:Fr (λb=>b=S.heap.size+1+1) ab (ab.setCell ⟨S.heap.size+1+1,1,none⟩ (.slice bg (gn+1) aY)):=(Fr.refl (λb=>b=S.heap.size+1+1) ab).setCell (.inl rfl) _;have hs:=J.size;have bS:=aC.size;refine⟨(h.src.cT J λb O ah=>by have:=bn b ah;omega).cT aC (λb O ah=>ad),(h.blk.on J λah=>by have:=bn _ ah;omega).aN 1 _,(h.res.on J λah=>by have:=bn _ ah;omega).on aC ad,
  h.ms.ai λb hp=>(aC.block b (ay hp.2) (ay hp.1)).trans (J.block b (ay hp.2) λah=>by have:=bn b ah;have:=hp.2;omega),h.mc,a5.cZ aC (λb O _=>ad),h.nm,h.ok,hn,ca,?_,hD.1,ad⟩
 have ac:Ext S ab:=Fr.low (M:=λb=>(Value.slice GA gn gc).ownBlock=some b\/(Value.slice aq gn ba).ownBlock=some b) ((h.ext.mono λ_ h=>h.elim).trans J) λk aj=>by have:=bn k aj;omega
 exact zZ
end
def FV(S:World)(gY:Value)(Q:Exit->Act->World->Prop)(K:Act->World->Prop):Prop:=∀(u:Nat) (A:Mt) (n c:Nat) (l:List Int) (ar:Bool) (MA:Mt) (mn mc:Nat) (M:List bM) (GA:Mt) (gn gc:Nat) (G:List (ByteArray×Int)) (aq:Mt) (ba:Nat) {hu hw gR gV u8 gS eW bK gw gv cc bD u16 gx gy eX eY eZ e3 e4 e5 e6 e7 e8 e9 fa fb fd u32 fe ff fi fj fk fl fp fq fr fs ft fu fv fw fx fz fA fB fC fD fE fF fG fI fJ fK fL fM fN fO fP u64 fR fS fT fU fV fW fX fY fZ f3 f4 f5 f6 f7 f8 f9 ga gb gd ge gf gg gh gi gj gk gl gm go gp gq gr gs gt gu H I am aG aK aM aU a4 bb bf bm bo bp bq bu bz bB bI bW b6 b9 ca cd cj ck cm cq cu cw cy cB cE cF cH cK cM cN cO cQ cR cT cV cW cX cY c4 c5 c6 c7 c8 c9 da db dc dd de df dg dh di dj dk dl dm dn dp dr ds dt du dv dw dx dy dz dA dD dE dF dG dH dI dJ dK dL dM dO dP dR dS dT dU dV dY dZ d0 d1 d2 d3 d4 d5 d6 d7 d8 d9 ea eb ec ed ee ef eg eh ej ek el em en eo ep eq er es et ev ew ex ey ez eA eB eC eD eE eF eG eH eI eK eL eM eN eO eP eQ eR eT eU eV gB gC gD gE gF gG gH gI gJ gK gL gM gN gO gP:Value} (w:World),xF S u w A n c l ar MA mn mc M GA gn gc G aq ba->
 Code.wp prog (wW 19) (Exit.then K Q) ⟨#[gY,hu,.pointer (some ⟨S.heap.size,0,none⟩),.pointer (some ⟨S.heap.size+1+1,0,none⟩),hw,gR,gV,.slice aq gn ba,u8,gS,eW,bK,gw,gv,cc,bD,u16,gx,gy,eX,eY,eZ,e3,e4,e5,e6,e7,e8,e9,fa,fb,fd,u32,fe,ff,fi,fj,fk,fl,fp,fq,fr,fs,ft,fu,fv,fw,fx,fz,fA,fB,fC,fD,fE,fF,fG,fI,fJ,fK,fL,fM,fN,fO,fP,u64,fR,fS,fT,fU,fV,fW,fX,fY,fZ,f3,f4,f5,f6,f7,f8,f9,ga,gb,gd,ge,gf,gg,gh,gi,gj,gk,gl,gm,go,gp,gq,gr,gs,gt,gu,H,I,am,aG,aK,aM,aU,a4,bb,bf,bm,bo,bp,bq,bu,bz,bB,bI,bW,b6,b9,ca,cd,cj,ck,cm,cq,cu,cw,cy,cB,cE,cF,cH,cK,cM,cN,cO,cQ,cR,cT,cV,cW,cX,cY,c4,c5,c6,c7,c8,c9,da,db,dc,dd,de,df,dg,dh,di,dj,dk,dl,dm,dn,dp,dr,ds,dt,du,dv,dw,dx,dy,dz,dA,dD,dE,dF,dG,dH,dI,dJ,dK,dL,dM,dO,dP,dR,dS,dT,dU,dV,dY,dZ,d0,d1,d2,d3,d4,d5,d6,d7,d8,d9,ea,eb,ec,ed,ee,ef,eg,eh,ej,ek,el,em,en,eo,ep,eq,er,es,et,ev,ew,ex,ey,ez,eA,eB,eC,eD,eE,eF,eG,eH,eI,eK,eL,eM,eN,eO,eP,eQ,eR,eT,eU,eV,gB,gC,gD,gE,gF,gG,gH,gI,gJ,gK,gL,gM,gN,gO,gP],[]⟩ w
theorem tj{w:World}{x:ByteArray×Int}{cs:List Value}:(iG x).rep w P cs↔cs=[.string x.1,.int .i64 x.2]:=by
 unfold iG;rw[bN,cu];exact DY
theorem qN{P:Program}{ops:Array Oper}{Q:Exit->Act->World->Prop}{R:World->World->Prop}{tails:List Nat}{f:Nat->PT}{a:Act}{w:World}(h:ox P ops Q R tails i (f i) a w)(ap:ox P ops Q R tails j (f j) a w)(aV:ox P ops Q R tails k (f k) a w):cS P ops Q R tails (.pick [i,j,k] f) a w:=λm hm=>by
 simp only[L5,List.not_mem_nil,or_false] at hm;rcases hm with rfl|rfl|rfl
 .exact h
 .exact ap
 .exact aV
theorem ED(aX:i<3){bv:Int}(O:IntKind.u8.wrap (IntKind.i64.wrap (48+(i:Int)))=bv):(⟨#[103]⟩++strOf [byteOf bv]:ByteArray)=dW i:=by
 subst O;have h:∀k:Fin 3,(⟨#[103]⟩++strOf [byteOf (IntKind.u8.wrap (IntKind.i64.wrap (48+((k.val:Nat):Int))))]:ByteArray)=dW k.val:=by decide
 exact h ⟨i,aX⟩
theorem fH(V:World)(g:Nat)(v1:Int)(h0:V.cell? ⟨g,0,none⟩=some (.int .u8 v1)) :
  (convert 87 9 (.slice (some ⟨g,0,none⟩) 1 1)).run prog V=.ok (.string (strOf [byteOf v1])) V:=by
 have:=run_convert_bytes_arg (P:=prog) V 87 5 Tryz.underlying87 Tryz.underlying5 g 0 1 1 [v1] rfl (λi aX=>by
  obtain rfl:i=0:=ad;exact h0) 9 Tryz.underlying9
 rw[this];rfl
theorem Ik:cn prog 35 111 (.agg #[(0:Int),()]) 2 32:=cn.mk' Tryz.underlying35 (by kernel_rfl) rfl ad
theorem Ip:cn prog 36 22 (.slice none 0 0) 1 24:=cn.mk' Tryz.underlying36 (by kernel_rfl) rfl ad
theorem jf{w ab:World}{B:Nat}{e:TypeId}{z:Nat}{n:Nat}(h:w.ownsRow B e z v n xs)(aj:∀b,v.ownBlock=some b->ab.heap[b]?=w.heap[b]?):ab.ownsRow B e z v n xs:=by
 refine⟨h.1,?_⟩;rcases h.2 with aV|⟨g,cap,cur,bE,j,aW,rest⟩
 .exact .inl aV
 .exact .inr ⟨g,cap,cur,bE,j,(aj g (by rw[bE];rfl)).trans aW,rest⟩
structure hE(u:aA)(g B:Nat)(K:Nat->Prop)(w:World)(IA:Mt)(n ic:Nat)(S:Mt)(cT b2:Nat)(cM:Mt)(bI rc:Nat)(L:List h5)(b7:List Int):Prop where
 blk:au w g 38 #[.slice IA n ic,.slice S cT b2,.slice cM bI rc]
 ins:Gr (λb=>b≠g/\(Value.slice S cT b2).ownBlock≠some b/\¬K b) B 111 2 w IA n ic (L.map fO)
 ok:∀x∈L,l5 u x
 Iv:∃xs,w.ownsRow B 22 1 (.slice S cT b2) cT xs
 IL:Sl w (λb=>b<w.heap.size/\b≠g/\(Value.slice IA n ic).ownBlock≠some b/\(Value.slice S cT b2).ownBlock≠some b/\¬K b) cM bI (b7.map .i)
 w6:0<bI
 zb:bI<=rc
 ig:∀b,(Value.slice IA n ic).ownBlock=some b->b≠g/\(Value.slice S cT b2).ownBlock≠some b/\¬K b
 cg:∀b,(Value.slice S cT b2).ownBlock=some b->b≠g/\¬K b
 kg:¬K g
 kl:∀b,K b->b<w.heap.size
section
variable {u:aA} {g B:Nat} {K:Nat->Prop} {w ab:World} {IA S cM Z Y c:Mt} {n ic cT b2 bI rc cG ah a d:Nat} {L:List h5} {b7 f:List Int}
theorem hE.cl(h:hE u g B K w IA n ic S cT b2 cM bI rc L b7):∀b,(Value.slice S cT b2).ownBlock=some b->B<=b/\b<w.heap.size:=λb O=>by
 obtain⟨xs,hx⟩:=h.Iv;exact hx.lt b O
theorem hE.on(h:hE u g B K w IA n ic S cT b2 cM bI rc L b7)(O:Fr K w ab):hE u g B K ab IA n ic S cT b2 cM bI rc L b7:=by
 refine⟨h.blk.on O h.kg,h.ins.dr O.size λb an hp=>O.block b an ?_,h.ok,?_,(h.IL.ai λb hp=>O.block b hp.1 hp.2.2.2.2).mono λb hp=>⟨LL hp.1 O.size,hp.2⟩,h.w6,h.zb,h.ig,h.cg,h.kg,λb aj=>LL (h.kl b aj) O.size⟩
 .rcases hp with hp|hp
  .exact hp.2.2
  .exact(h.ig b hp).2.2
 .obtain⟨xs,hx⟩:=h.Iv;exact⟨xs,jf hx λb hp=>O.block b (hx.lt b hp).2 (h.cg b hp).2⟩
theorem hE.apart(h:hE u g B K w IA n ic S cT b2 cM bI rc L b7)(O:Ext w ab)(aj:w.heap.size<=k)(cu:k<ab.heap.size):hE u g B (λb=>b=k) ab IA n ic S cT b2 cM bI rc L b7:=by
 have ac:=h.on (O.mono λ_ h=>h.elim);have m:=h.blk.lt;refine⟨ac.blk,(h.ins.mono λb an hp=>⟨hp.1,hp.2.1,ad⟩).aj O,h.ok,ac.Iv,
  (h.IL.ai λb hp=>O.block b hp.1 λh=>h).mono λb hp=>⟨LL hp.1 O.size,hp.2.1,hp.2.2.1,hp.2.2.2.1,by have:=hp.1;omega⟩,
  h.w6,h.zb,λb hp=>⟨(h.ig b hp).1,(h.ig b hp).2.1,?_⟩,λb hp=>⟨(h.cg b hp).1,?_⟩,ad,λb O=>ad⟩
 .have:=(h.ins.lt hp).2;omega
 .have:=(h.cl b hp).2;omega
theorem hE.free(h:hE u g B K w IA n ic S cT b2 cM bI rc L b7):hE u g B (λ_=>False) w IA n ic S cT b2 cM bI rc L b7:=
 ⟨h.blk,h.ins.mono λb _ hp=>⟨hp.1,hp.2.1,λh=>h⟩,h.ok,h.Iv,h.IL.mono λb hp=>⟨hp.1,hp.2.1,hp.2.2.1,hp.2.2.2.1,λh=>h⟩,h.w6,h.zb,λb hp=>⟨(h.ig b hp).1,(h.ig b hp).2.1,λh=>h⟩,λb hp=>⟨(h.cg b hp).1,λh=>h⟩,λh=>h,λ_ h=>h.elim⟩
theorem hE.J4(h:hE u g B K w IA n ic S cT b2 cM bI rc L b7){x:h5}(hx:l5 u x)
  (aR:Gr (λb=>b≠g/\(Value.slice S cT b2).ownBlock≠some b/\¬K b) B 111 2 ab Z (n+1) cG (L.map fO++[fO x])) (J:Fr (λb=>(Value.slice IA n ic).ownBlock=some b) w ab) (bn:dB w IA n ic Z (n+1) cG) :
  hE u g B K (ab.setCell ⟨g,0,none⟩ (.slice Z (n+1) cG)) Z (n+1) cG S cT b2 cM bI rc (L++[x]) b7:=by
 have m:=h.blk.lt;have hs:=J.size;have dP:∀b,(Value.slice Z (n+1) cG).ownBlock=some b->b≠g/\(Value.slice S cT b2).ownBlock≠some b/\¬K b:=λb hp=>by
  rcases bn b hp with ac|ac
  .exact h.ig b ac
  .exact⟨ad,λhc=>by have:=(h.cl b hc).2;omega,λaj=>by have:=h.kl b aj;omega⟩
 have cI:Fr (λb=>b=g) ab (ab.setCell ⟨g,0,none⟩ (.slice Z (n+1) cG)):=(Fr.refl (λb=>b=g) ab).setCell (.inl rfl) _;refine⟨(h.blk.on J λO=>(h.ig g O).1 rfl).aN 0 _,?_,?_,?_,?_,h.w6,h.zb,dP,h.cg,h.kg,λb aj=>by have:=h.kl b aj;simp;omega⟩
 .rw[LR,LQ,Me];exact aR.dr cI.size λb an hp=>cI.block b an λO=>by
   subst O;rcases hp with hp|hp
   .exact hp.1 rfl
   .exact(dP b hp).1 rfl
 .intro y bb;rcases LU.1 bb with bb|bb
  .exact h.ok y bb
  .simp at bb;subst bb;exact hx
 .obtain⟨xs,hx⟩:=h.Iv;exact⟨xs,jf hx λb hp=>(cI.block b (by have:=(hx.lt b hp).2;omega) (h.cg b hp).1).trans (J.block b (hx.lt b hp).2 λO=>(h.ig b O).2.1 hp)⟩
 .refine(h.IL.ai λb hp=>(cI.block b (ay hp.1) hp.2.1).trans (J.block b hp.1 hp.2.2.1)).mono λb hp=>⟨by have:=hp.1;simp;omega,hp.2.1,λO=>?_,hp.2.2.2⟩
  rcases bn b O with ac|ac
  .exact hp.2.2.1 ac
  .have:=hp.1;omega
theorem hE.J3(h:hE u g B K w IA n ic S cT b2 cM bI rc L b7)(aR:ab.ownsRow B 22 1 (.slice Y (cT+1) ah) (cT+1) xs)(J:Fr (λb=>(Value.slice S cT b2).ownBlock=some b) w ab)(bn:dB w S cT b2 Y (cT+1) ah):
  hE u g B K (ab.setCell ⟨g,1,none⟩ (.slice Y (cT+1) ah)) IA n ic Y (cT+1) ah cM bI rc L b7:=by
 have m:=h.blk.lt;have hs:=J.size;have e:∀b,(Value.slice Y (cT+1) ah).ownBlock=some b->b≠g/\¬K b:=λb hp=>by
  rcases bn b hp with ac|ac
  .exact h.cg b ac
  .exact⟨ad,λaj=>by have:=h.kl b aj;omega⟩
 have cI:Fr (λb=>b=g) ab (ab.setCell ⟨g,1,none⟩ (.slice Y (cT+1) ah)):=(Fr.refl (λb=>b=g) ab).setCell (.inl rfl) _;refine⟨(h.blk.on J λO=>(h.cg g O).1 rfl).aN 1 _,?_,h.ok,?_,?_,h.w6,h.zb,λb hp=>⟨(h.ig b hp).1,λO=>?_,(h.ig b hp).2.2⟩,e,h.kg,λb aj=>by have:=h.kl b aj;simp;omega⟩
 .have ac:Gr (λb=>b≠g/\(Value.slice Y (cT+1) ah).ownBlock≠some b/\¬K b/\(Value.slice S cT b2).ownBlock≠some b) B 111 2 w IA n ic (L.map fO):=h.ins.mono λb an hp=>⟨hp.1,λO=>by
   rcases bn b O with ac|ac
   .exact hp.2.1 ac
   .omega,hp.2.2,hp.2.1⟩
  have ap:=ac.dr (ab:=ab.setCell ⟨g,1,none⟩ (.slice Y (cT+1) ah)) (by simp;omega) λb an hp=>(cI.block b ad (by
    rcases hp with hp|hp
    .exact hp.1
    .exact(h.ig b hp).1)).trans (J.block b an (by
    rcases hp with hp|hp
    .exact hp.2.2.2
    .exact(h.ig b hp).2.1))
  exact ap.mono λb _ hp=>⟨hp.1,hp.2.1,hp.2.2.1⟩
 .exact⟨xs,jf aR λb hp=>cI.block b (aR.lt b hp).2 (e b hp).1⟩
 .refine(h.IL.ai λb hp=>(cI.block b (ay hp.1) hp.2.1).trans (J.block b hp.1 hp.2.2.2.1)).mono λb hp=>⟨by have:=hp.1;simp;omega,hp.2.1,hp.2.2.1,λO=>?_,hp.2.2.2.2⟩
  rcases bn b O with ac|ac
  .exact hp.2.2.2.1 ac
  .have:=hp.1;omega
 .rcases bn b O with ac|ac
  .exact(h.ig b hp).2.1 ac
  .have:=(h.ins.lt hp).2;omega
theorem hE.KC(h:hE u g B K w IA n ic S cT b2 cM bI rc L b7)(bg:P=λb=>b<w.heap.size/\b≠g/\(Value.slice IA n ic).ownBlock≠some b/\(Value.slice S cT b2).ownBlock≠some b/\¬K b)
  (a5:Sl ab (λb=>P b\/fresh w ab b) c a (f.map .i)) (aw:Ext w ab) (h0:0<a) (hc:a<=d) :
  hE u g B K (ab.setCell ⟨g,2,none⟩ (.slice c a d)) IA n ic S cT b2 c a d L f:=by
 subst bg;have m:=h.blk.lt;have hs:=aw.size;have ac:=h.on (aw.mono λ_ h=>h.elim);have cI:Fr (λb=>b=g) ab (ab.setCell ⟨g,2,none⟩ (.slice c a d)):=(Fr.refl (λb=>b=g) ab).setCell (.inl rfl) _;refine⟨ac.blk.aN 2 _,ac.ins.dr cI.size λb an hp=>cI.block b an ?_,h.ok,?_,?_,h0,hc,h.ig,h.cg,h.kg,λb aj=>by have:=h.kl b aj;simp;omega⟩
 .rcases hp with hp|hp
  .exact hp.1
  .exact(h.ig b hp).1
 .obtain⟨xs,hx⟩:=ac.Iv;exact⟨xs,jf hx λb hp=>cI.block b (hx.lt b hp).2 (h.cg b hp).1⟩
 .have bK:∀b,((b<w.heap.size/\b≠g/\(Value.slice IA n ic).ownBlock≠some b/\(Value.slice S cT b2).ownBlock≠some b/\¬K b)\/fresh w ab b)->(b<ab.heap.size/\b≠g/\(Value.slice IA n ic).ownBlock≠some b/\(Value.slice S cT b2).ownBlock≠some b/\¬K b):=λb hp=>by
   rcases hp with hp|hp
   .exact⟨by have:=hp.1;omega,hp.2⟩
   .have ac:=hp.1;exact⟨hp.2,ad,λO=>by have:=(h.ins.lt O).2;omega,λO=>by have:=(h.cl b O).2;omega,λaj=>by have:=h.kl b aj;omega⟩
  exact((a5.mono bK).ai λb hp=>cI.block b hp.1 hp.2.1).mono λb hp=>⟨by have:=hp.1;simp;omega,hp.2⟩
end
end Go.Proofs.YtpkfopfkdgkfkaaGreat

/- Part 21 of the proof. No condition of its own. -/
import Derived.Test.YtflecliffjbleaaGreatQ20
namespace Go.Proofs.YtflecliffjbleaaGreat
open Go.RowKit Go.Proofs.Tryz
set_option maxRecDepth 1000000
set_option maxHeartbeats 25600000
set_option linter.unusedVariables false
variable{A:Nat->Prop}{p:Prop}{Y:al}
structure RO(P:Nat->Prop)(B:Nat)(w:World)(s:ag)(k:Nat)(fs:List al)(f:al)(r:Nat)(q:SV)(O lb lc:Nat)(hx a2:List Value)(IA:LP)(ic:Nat)(S:LP)(y:Nat)(F1 F2 bs:List Nat):Prop where
 th:s.threads[k]?=some (fs++[f])
 gl:q.gn=s.globals.length
 tl:q.tn=s.table.length
 hl:q.hn=s.threads.length
 g:Own w 3 1 q.GA q.gn q.gc (s.globals.map eJ) F1
 t:Own w 95 2 q.TA q.tn q.tc (s.table.flatMap cG) F2
 h:Own w 49 1 q.HA q.hn q.hc hx [O]
 sY:q.HA=some ⟨O,0,none⟩
 rb:∀j c5,j≠k->s.threads[j]?=some c5->∃u,hx[j]?=some u/\(mS c5).rep w P [u]
 s0:hx[k]?=some (.slice (some ⟨lb,0,none⟩) (fs.length+1) lc)
 l:Own w 99 4 (some ⟨lb,0,none⟩) (fs.length+1) lc (a2++[.int .i64 f.proc,.int .i64 f.pc,.slice IA f.ints.length ic,.slice S f.aw.length y]) [lb]
 fr:D.aJ w P (fs.map hz) a2
 lk:Sl w P S f.aw.length (f.aw.map D.i)
 GS:f.aw.length<=y
 i:Own w 3 1 IA f.ints.length ic (f.ints.map eJ) bs
 o:an w r 30 (q.val s)
 nd:(r::O::lb::(F1++(F2++bs))).Nodup
 lo:∀b∈r::O::lb::(F1++(F2++bs)),B<=b/\b<w.heap.size
 pb:∀b,P b->b<B
def Il(P:Nat->Prop)(w:World)(s:ag)(k:Nat)(fs:List al)(f:al)(e:Ending)(ac:World):Prop:=∃q O lb lc hx a2 IA ic S y F1 F2 bs,e=.returned (.agg (q.val s))/\Ext w ac/\
 ∀V r,Ext ac V->an V r 30 (q.val s)->ac.heap.size<=r->RO P w.heap.size V s k fs f r q O lb lc hx a2 IA ic S y F1 F2 bs
namespace CA
theorem gA(h:p:=by
 refine cB ?_;generalize hX:World.setCell _ _ _=X;obtain⟨ci,b1⟩:=p9 0 [.slice cy gn c1,.slice A2 tn c2,.slice ck hn c3,.int .i64 s.fault] cR hX;have bw:an X r 30 #[.slice cy gn c1,.slice A2 tn c2,.slice ck hn c3,.int .i64 s.fault]:=ci;have a6:∀k∈F1++(F2++L),k≠r:=by
  have:=eA (A:=F1++(F2++L)) (B:=[]) (x:=r) (by simpa using aS);simpa using this
 have b2:∀k,k∈F1++(F2++L)->k∈F1++(F2++(L++[r])):=λk ai=>by
  simp only[Lk] at ai ⊢;rcases ai with ai|ai|ai
  .exact .inl ai
  .exact .inr (.inl ai)
  .exact .inr (.inr (.inl ai))
 have aJ:∀k∈F1++(F2++L),X.heap[k]?=V.heap[k]?:=λk ai=>b1.block k (aG k (b2 k ai)).2 (a6 k ai);have bq:Ext W X:=Fr.low (M:=λb=>b=r) (Fr.trans (Fr.mono bm λ_ h=>h.elim) b1) λb O=>by rw[O];exact b8.1
 have aR:=gY (cD.ai λk ai=>aJ k (by simp[ai])) (bl.ai λk ai=>aJ k (by simp[ai])) (bb.ai λk ai=>aJ k (by simp[ai])) bw aS (λk ai=>(⟨(aG k ai).1,by have:=(aG k ai).2;have:=b1.size;omega⟩:W.heap.size<=k/\k<X.heap.size)) bq;obtain⟨a0,ap,aj⟩:=(aH.2.1.aj bq).two;have aZ:Ext w X:=aH.1.trans bq;have az:∀b,P b->X.heap[b]?=w.heap[b]?:=λb O=>aZ.block b (bB.2.1 b O) λh=>h;obtain⟨dw,dY,dc,FA,m,fc,cH,aO,T,dk,cq,co⟩:=bB.1.at_.h.ym (k:=t.toNat) (by show t.toNat<hn;omega);simp only at cH;subst cH;have dx:dc=fs++[f]:=by have:=bB.2.2.2.1;rw[T] at this;injection this
 subst dx;obtain rfl:m=fs.length+1:=by have:=co.1;simpa using this.symm
 have dG:=(aZ.cell (j:=dY+t.toNat) (bB.2.1 _ aO) λh=>h).trans dk;have cb:=co.ai az;have cO:dw<X.heap.size:=by have:=bB.2.1 _ aO;have:=aZ.size;omega
 have cS:∀d∈(fs++[f]).map hz,d.sz=4:=λd hd=>by obtain⟨x,_,rfl⟩:=Lz.1 hd;rfl
 obtain⟨dN,cx,av⟩:=Sl.src (z:=4) cb cS;rw[Li] at cx;obtain⟨bO,c6,rfl,bp,ba⟩:=D.j8 cx;obtain⟨IA,ii,ic,S,dL,y,rfl,aq,aK,cC,bZ⟩:=g0.1 (D.bo.1 ba);have ds:bO.length=fs.length*4:=by rw[D.g8 _ _ bp,D.gN (z:=4) (λd hd=>by obtain⟨x,_,rfl⟩:=Lz.1 hd;rfl),Lf]
 obtain rfl:ii=f.ints.length:=by have:=cC.1;simpa using this.symm
 obtain rfl:dL=f.aw.length:=by have:=bZ.1;simpa using this.symm
 have dB:=bY.2.2.2;have bx:FA=none->fs.length+1=0:=λh=>by subst h;exact cb.none_
 have hIn:IA=none->f.ints.length=0:=λh=>by subst h;exact cC.none_
 have c0:cK (EF b5) 1 X X.heap.size IA f.ints.length f.ints:=(cC.mono (bf:=au X) λb O=>by have:=bB.2.1 b O;have:=aZ.size;show b<X.heap.size;omega).ints;have bP:=ej bp bZ aK c0 aZ ds;have bQ:=aL av bx hIn;obtain⟨aA,cT,cl,dA,cI,cL,cN⟩:=aR.2.2.1.block ab;subst cT;have db:=bG cl cI cL cN;clear e0 bk a5 hX ci b1 bw a6 b2 aJ cD bl bb cR aS aG bm T aO dk co az cS cx ba bp bZ cC aq aK c0 av bx hIn aZ bq cl cI cL cN cb cq;go_upto_region 3 with(at_builtin;refine jc _ GK (by rfl) (.tmp 22) (.tmp 28) (by rfl) (by rfl) _ _ _ _ (by rfl) bQ.1 ab ab bQ.2.1 ?_;intro dC cz aP ay bL;have H1:=ah ay bL;clear ay bL);have b6:=H1.2.size;obtain⟨lb,dp,dl,cp,cU,dq,cV⟩:=h9 H1.1 ab;subst dp;have d2:aP.cell? ⟨lb,fs.length*4+2,none⟩=some (.slice IA f.ints.length ic):=cU _ _ (by rw[<-bP.2.2.2.2.2,List.getElem?_append_right ab,Nat.add_sub_cancel_left];rfl);have cu:Src aP 1 IA f.ints.length (f.ints.map eJ):=by
  have:=Src.ov (bP.2.2.2.1.cS H1.2 H1.2.size) (iA _) (qA _) ab
  rwa [xW] at this
 have bN:=aL cu dl cV;have cX:=dq;clear cu cV cU;go_upto_region 4 with(at_builtin;refine jc _ de (by rfl) (.tmp 34) (.tmp 41) (by rfl) (by rfl) _ _ _ _ (by rfl) bN.1 ab ab bQ.2.2 ?_;intro cZ n aV af a9;have bt:=ah af a9;obtain⟨f0,cJ,dD⟩:aV.cell? ⟨lb,fs.length*4+2,none⟩=some (.slice IA f.ints.length ic)/\(∀j,aV.frozen? ⟨lb,j,none⟩=false)/\lb<aV.heap.size:=⟨((Fr.of (M:=λ_=>False) a9).cell cp λh=>h).trans d2,λj=>((Fr.of (M:=λ_=>False) a9).frozen cp λh=>h).trans (cX j),Lc cp a9.size⟩;clear af a9);generalize b7:World.setCell _ _ _=Y;obtain⟨dy,cr,-,-,-,-,ct⟩:=h9 (bT H1.1 bt.2) ab;obtain rfl:lb=dy:=by simpa using cr
 have dh:Y.ownsRow X.heap.size 99 4 (.slice (some ⟨lb,0,none⟩) (fs.length+1) cz) (fs.length+1) ((bO++[Value.int .i64 f.proc,.int .i64 f.pc,.slice IA f.ints.length ic,.slice S f.aw.length y]).set (fs.length*4+2) (.slice cZ f.ints.length n)):=by
  rw[<-b7];exact ct _ _ ab
 have ar:Fr (λb=>b=lb) aV Y:=b7▸(Fr.refl (λb=>b=lb) _).setCell (.inl rfl) _;have bj:Ext X Y:=Fr.low (M:=λb=>b=lb) (Fr.trans (Fr.trans (Fr.of H1.2) (Fr.of (Below.mono bt.2 (Lb _)))) ar) λb O=>by rw[O];exact bN.2.1
 have b4:∀b∈bA cZ f.ints.length n,aP.heap.size<=b/\b<aV.heap.size:=λb O=>bt.1.lt b (by simpa using O);have df:Own Y 3 1 cZ f.ints.length n (f.ints.map eJ) (bA cZ f.ints.length n):=Own.ai (w:=aV) ⟨m0 bt.1 (Lx _),rfl⟩ λb O=>ar.block b (b4 b O).2 (aC (b4 b O));have cF:∀b∈bA cZ f.ints.length n,aP.heap.size<=b/\b<Y.heap.size:=λb O=>⟨(b4 b O).1,Lc (b4 b O).2 ar.size⟩
 have c7:=aR.2.2.1.aj bj;have bU:=aR.2.2.2.1.aj bj;obtain⟨e0,bk,a5⟩:=bU.two;have aX:hx.length=hn:=by
  rw[D.g8 _ _ bB.2.2.2.2.1,D.gN (z:=1) (λd hd=>by obtain⟨x,_,rfl⟩:=Lz.1 hd;rfl),Lf,Nat.mul_one];exact bY.2.2.1
 obtain⟨bu,aB,-,du,ce,bW,cf⟩:=c7.block ab;obtain rfl:aA=bu:=by simpa using aB
 obtain⟨dM,dr⟩:∃u,hx[t.toNat]?=some u:=⟨_,List.getElem?_eq_getElem ab⟩
 have ch:=ce t.toNat dM dr;have dK:lb<Y.heap.size:=Lc dD ar.size;have dF:=bj.size;have dJ:=bN.2.1;have a2:=xu dh bj df cF c7 bU aX cf;clear dr b7 cr ct dh ar bj b4 df cF c7 bU aB ce cf f0 cJ d2 cX aX;go_upto_region 5 with(fail);generalize bD:World.setCell _ _ _=Z;have aS:=aR.2.2.2.2.1;have ak:=aR.2.2.2.2.2.1;rw[db.1] at aS ak;have a6:∀b∈F1++F2++[r],b≠aA:=eA (A:=F1++F2) (B:=[r]) (x:=aA) (by simpa using aS);have dd:Own Z 49 1 (some ⟨aA,0,none⟩) hn c3 (hx.set t.toNat (.slice (some ⟨lb,0,none⟩) (fs.length+1) cz)) L:=bD▸a2.2.2.2.2.2.2.2 t.toNat _ ab;have bz:Fr (λb=>b=aA) Y Z:=bD▸(Fr.refl (λb=>b=aA) _).setCell (.inl rfl) _;have da:∀b,b<X.heap.size->b≠aA->Z.heap[b]?=X.heap[b]?:=λb O hn=>(bz.block b (Lc O a2.2.1.size) hn).trans (a2.2.1.block b O λh=>h);have bK:=aR.1.ai λb O=>da b (ak b (by simp[O])).2 (a6 b (by simp[O]));have dj:=aR.2.1.ai λb O=>da b (ak b (by simp[O])).2 (a6 b (by simp[O]));have am:(bO++[Value.int .i64 f.proc,.int .i64 f.pc,.slice IA f.ints.length ic,.slice S f.aw.length y]).set (fs.length*4+2) (.slice cZ f.ints.length n)=bO++[Value.int .i64 f.proc,.int .i64 f.pc,.slice cZ f.ints.length n,.slice S f.aw.length y]:=by
  have:=bP.2.2.2.2.2;rw[List.set_append_right _ _ ab,this,Nat.add_sub_cancel_left];rfl
 have di:Own Z 99 4 (some ⟨lb,0,none⟩) (fs.length+1) cz (bO++[Value.int .i64 f.proc,.int .i64 f.pc,.slice cZ f.ints.length n,.slice S f.aw.length y]) [lb]:=by
  rw[<-am];exact Own.ai (w:=Y) ⟨m0 a2.1 (Lx _),rfl⟩ λb O=>bz.block b (aC (LF.1 O)) (aC (LF.1 O))
 have cF:=a2.2.2.2.1;have dg:=a2.2.2.1.ai λb O=>bz.block b (cF b O).2 (aC (cF b O));have bH:=a2.2.2.2.2.2.1.on bz (a6 r (by simp));have b0:Ext W Z:=Fr.low (M:=λb=>b=aA) (Fr.trans (Fr.mono (aR.2.2.2.2.2.2.trans a2.2.1) λ_ h=>h.elim) bz) λb O=>by rw[O];exact(ak aA (by simp)).1
 have bJ:=aH.2.2.1.aj b0;have bn:Ext w Z:=aH.1.trans b0;have aI:∀b∈aA::lb::(F1++(F2++bA cZ f.ints.length n)),W.heap.size<=b/\b<Z.heap.size:=by
  have ae:=aR.2.2.2.2.2.2.size;have aD:=bz.size;intro b O;rcases Lr.1 O with O|O
  .have:=ak aA (by simp);omega
  rcases Lr.1 O with O|O
  .omega
  rcases Lk.1 O with O|O
  .have:=ak b (by simp[O]);omega
  rcases Lk.1 O with O|O
  .have:=ak b (by simp[O]);omega
  .have:=cF b O;omega
 have bC:(aA::lb::(F1++(F2++bA cZ f.ints.length n))).Nodup:=by
  have dz:(F1++F2).Nodup:=by have:=aS;rw[<-List.append_assoc] at this;exact(List.nodup_append.1 this).1
  have c4:(F1++F2++bA cZ f.ints.length n).Nodup:=List.nodup_append.2 ⟨dz,gJ _ _ _,λa aW b O h=>by
   have aU:=cF b O;have a1:a<X.heap.size:=(ak a (by rcases Lk.1 aW with h|h<;>simp[h])).2;omega⟩
  rw[Lp] at c4;refine List.nodup_cons.2 ⟨λh=>?_,List.nodup_cons.2 ⟨λh=>?_,c4⟩⟩
  .rcases Lr.1 h with O|O
   .omega
   rcases Lk.1 O with O|O
   .exact a6 aA (by simp[O]) rfl
   rcases Lk.1 O with O|O
   .exact a6 aA (by simp[O]) rfl
   .have:=cF aA O;omega
  .rcases Lk.1 h with O|O
   .have:=ak lb (by simp[O]);omega
   rcases Lk.1 O with O|O
   .have:=ak lb (by simp[O]);omega
   .have:=cF lb O;omega
 have aX:=a2.2.2.2.2.2.2.1;obtain⟨e0,bk,a5⟩:=bH.two;obtain⟨bE,bg,bh⟩:=bJ.two;have bc:=z8 bK dj dd di dg bJ bn aI bC aX;clear bD aS ak a6 dd bz da bK dj am di cF dg bH b0 bJ bn aI bC aX ch bW;go_wp2_with(fail);generalize hU:World.setCell _ _ _=U;obtain⟨cM,ca,b3⟩:=cm (w:=w) [.slice cy gn c1,.slice A2 tn c2,.slice (some ⟨aA,0,none⟩) hn c3,.int .i64 s.fault] (by rfl) bc.2.2.2.2.2.1 bc.2.2.2.2.2.2.1 ab hU;have cv:=ah ca b3;clear hU ca b3 e0 bk a5 bE bg bh;obtain⟨bE,bg,bh⟩:=cM.two;refine LK (v:=.agg #[.slice cy gn c1,.slice A2 tn c2,.slice (some ⟨aA,0,none⟩) hn c3,.int .i64 s.fault]) (by simp[results,Tryz.results42,go_sem,bE]) rfl ?_;obtain⟨hG,hT,hH,bo,hI,-,-,aI,bC,aX⟩:=bc.o;refine⟨⟨cy,gn,c1,A2,tn,c2,some ⟨aA,0,none⟩,hn,c3⟩,aA,lb,cz,hx.set t.toNat (.slice (some ⟨lb,0,none⟩) (fs.length+1) cz),bO,cZ,n,S,y,F1,F2,bA cZ f.ints.length n,rfl,cv.1,λV dE bm bV dI=>?_⟩;have b3:=cv.2;have c8:=b3.size;have cW:=bm.size;have dt:∀b,W.heap.size<=b->b<Z.heap.size->V.heap[b]?=Z.heap[b]?:=λb ae aD=>(bm.block b ab λh=>h).trans (b3.block b aD ab);have c9:∀b,P b->V.heap[b]?=w.heap[b]?:=λb O=>(cv.1.trans bm).block b (bB.2.1 b O) λh=>h;have cP:∀b,P b->V.heap[b]?=X.heap[b]?:=λb O=>(c9 b O).trans (bP.2.2.2.2.1.block b (bB.2.1 b O) λh=>h).symm;have bs:∀b∈aA::lb::(F1++(F2++bA cZ f.ints.length n)),V.heap[b]?=Z.heap[b]?:=λb O=>dt b (aI b O).1 (aI b O).2;have cl:=db.1;have dn:t.toNat<hx.length:=ab
 refine {th:=bB.2.2.2.1,gl:=bY.1.symm,tl:=bY.2.1.symm,hl:=bY.2.2.1.symm,g:=hG.ai λb O=>bs b (by simp[O]),t:=hT.ai λb O=>bs b (by simp[O]),h:=?_,sY:=rfl,rb:=λj c5 bd cw=>?_,s0:=by simp[dn],l:=bo.ai λb O=>bs b (by simp[LF.1 O]),fr:=D.bP cP _ _ bP.1,lk:=bP.2.1.ai cP,GS:=bP.2.2.1,i:=hI.ai λb O=>bs b (by simp[O]),o:=bV,nd:=?_,lo:=λb O=>?_,pb:=bB.2.1}
 .rw[<-cl];exact hH.ai λb O=>bs b (by rw[cl] at O;simp[LF.1 O])
 .obtain⟨cs,aQ,b9,bR⟩:=D.pe (z:=1) bB.2.2.2.2.1 (λd hd=>by obtain⟨x,_,rfl⟩:=Lz.1 hd;rfl) (k:=j) (d:=mS c5) (by rw[List.getElem?_map,cw];rfl);obtain⟨u,rfl⟩:=List.length_eq_one_iff.1 b9;have h0:=bR 0 u rfl;simp only[Nat.mul_one,Ll] at h0;exact⟨u,by rw[List.getElem?_set_ne (λh=>bd h.symm)];exact h0,D.aP c9 _ _ aQ⟩
 .exact List.nodup_cons.2 ⟨λh=>by have:=aI dE h;omega,bC⟩
 .rcases Lr.1 O with O|O
  .subst O;exact⟨ab,bV.lt⟩
  .have:=aI b O;omega
 ):p:=h
end CA
open CA in
theorem Fy(P:Nat->Prop)(s:ag)(t:Int)(fs:List al)(f:al)(q:SV)(w:World)(h:q.Is w P s)(aY:∀b,P b->b<w.heap.size)(ac:Small s)(cY:0<=t)(br:s.threads[t.toNat]?=some (fs++[f])) :
  Calls prog 42 #[.agg (q.val s),.int .i64 t] w (Il P w s t.toNat fs f):=by
 obtain⟨GA,gn,gc,TA,tn,tc,HA,hn,hc⟩:=q;have cc:=h.ok aY;have b8:s.globals.length=gn:=by have ae:=h.at_.g.1;rw[Lf] at ae;exact ae
 have bv:s.table.length=tn:=by have ae:=h.at_.t.1;rw[Lf] at ae;exact ae
 have bS:s.threads.length=hn:=by have ae:=h.at_.h.1;rw[Lf] at ae;exact ae
 have yM:gn<=100000:=by have:=ac.g;omega
 have EG:tn<=100000:=by have:=ac.t;omega
 have Hu:hn<=100000:=by have:=ac.h;omega
 have dv:t<(hn:Int):=by have:=(List.getElem?_eq_some_iff.1 br).1;omega
 have cn:=(ac.f _ (Le br)).1;rw[Ld] at cn;simp only[Lo,Lu] at cn;have aM:=(ac.f _ (Le br)).2 f (by simp);obtain⟨hx,ax,bX⟩:=Sl.src (z:=1) h.at_.h (λd hd=>by obtain⟨x,_,rfl⟩:=Lz.1 hd;rfl);have bB:=ej h aY cc br ax bX;have bY:=bG b8 bv bS aM;clear h aY cc br ax bX b8 bv bS ac aM;dsimp only[SV.val];go_enter func42,ntmps42;go_upto_region 1 with(fail);generalize be:World.alloc _ _=W;have aE:=im be;have bF:=fU be;have cg:=fL be;have aH:=bG aE bF cg (bB.2.2.1.on aE);have cE:=aE.size;have dm:=cg.lt;obtain⟨a0,ap,aj⟩:=bF.two;obtain⟨ws,np⟩:∃ws,ws=W.heap.size:=⟨_,rfl⟩
 have cA:w.heap.size<ws:=ab;have bI:=ad np;clear be aE bF cg np;refine uP (λb=>¬b<ws) [16] (.free 1 (.held 2 (.free 5 (.held 6 (.free 9 (.held 10 (.free 12 (.held 13 (jk 8 0 0 0 false))))))))) ?_;refine tf ?_;refine oJ ?_;refine tf ?_;refine oJ ?_;refine tf ?_;refine oJ ?_;refine tf ?_;refine oJ ?_;refine EX (W:=W) (s:=s) (gn:=gn) (tn:=tn) (hn:=hn) (gc:=gc) (tc:=tc) (hc:=hc) (GA:=GA) (TA:=TA) (HA:=HA) (hx:=hx) (ws:=ws) (p0:=?Kx) (a0:=?Kc) (p3:=?KG) (a3:=?Kk) (p4:=?KU) (a4:=?KN) (p7:=?KH) (a7:=?Kl) (p8:=?KI) (a8:=?Km) (p11:=?Ky) (a11:=?Kd) (p15:=?Kz) (a15:=?Ke) (t15:=?KJ) (aa:=(λbi bM v10 v11 aF aT aN=>⟨#[.agg #[.slice GA gn gc,.slice TA tn tc,.slice HA hn hc,.int .i64 s.fault],.int .i64 t,.pointer (some ⟨w.heap.size,0,none⟩),undef,.pointer (some ⟨w.heap.size+1,0,none⟩),bi,undef,bM,.pointer (some ⟨w.heap.size,0,none⟩),.slice GA gn gc,v10,v11,.pointer (some ⟨w.heap.size,1,none⟩),.slice TA tn tc,aF,aT,.pointer (some ⟨w.heap.size,2,none⟩),.slice HA hn hc,aN,.pointer (some ⟨w.heap.size,3,none⟩),.int .i64 s.fault,undef,undef,undef,undef,undef,undef,undef,undef,undef,undef,undef,undef,undef,undef,undef,undef,undef,undef,undef,undef,undef,undef,undef,undef,undef,undef,undef,undef,undef,undef,undef],[]⟩)) ?hG ?hT ?hH ?Ju ?yM ?EG ?Hu ?np ?o0 ?o3 ?o4 ?o7 ?o8 ?Jx ?Jy ?q5 ?q7 ?EI ?I1 ?JI ?JJ ?JK ?e7 ?e9 ?Jo ?Jp ?Jq ?Jr ?hP 8 0 0 0 false ?n1 ?n2 ?n3 ?n4 ?n5 ?n6 undef undef undef undef undef undef undef [] [] [] [] W.drew ?start
 case hG=>exact aH.2.2.2.at_.g
 case hT=>exact aH.2.2.2.at_.t
 case hH=>exact bB.2.2.2.2.2.on (Fr.ext aH.1)
 case Ju=>exact λh=>by subst h;exact aH.2.2.2.at_.h.none_
 case yM=>exact yM
 case EG=>exact EG
 case Hu=>exact Hu
 case np=>have:=bI.o;omega
 case o0=>rfl
 case o3=>rfl
 case o4=>rfl
 case o7=>rfl
 case o8=>rfl
 case Jx=>rfl
 case Jy=>rfl
 case q5=>intro _ _ _ _ _ _ _ _;rfl
 case q7=>intro _ _ _ _ _ _ _ _;rfl
 case EI=>intro _ _ _ _ _ _ _ _;rfl
 case I1=>intro _ _ _ _ _ _ _ _;rfl
 case JI=>intro _ _ _ _ _ _ _ _;rfl
 case JJ=>intro _ _ _ _ _ _ _ _;rfl
 case JK=>intro _ _ _ _ _ _ _ _;rfl
 case e7=>intro _ _ _ _ _ _ _;rfl
 case e9=>intro _ _ _ _ _ _ _;rfl
 case Jo=>intro _ _ _ _ _ _ _;rfl
 case Jp=>intro _ _ _ _ _ _ _;rfl
 case Jq=>intro _ _ _ _ _ _ _;rfl
 case Jr=>intro _ _ _ _ _ _ _;rfl
 case n1=>omega
 case n2=>omega
 case n3=>omega
 case n4=>omega
 case n5=>omega
 case n6=>simp
 case start=>exact⟨LL.drew,.inl ⟨rfl,rfl,rfl,rfl⟩,.inl ⟨rfl,rfl,rfl,rfl⟩,.inl ⟨rfl,rfl,rfl,rfl⟩,.inl ⟨rfl,rfl,rfl⟩,by simp,λk ai=>by simp at ai⟩
 case hP=>
  intro b bi bM v10 v11 aF aT aN F1 F2 L N V hC;obtain⟨cy,c1,rfl,cD⟩:∃A c,v10=.slice A gn c/\Own V 3 1 A gn c (s.globals.map eJ) F1:=by
   rcases hC.g with⟨h,_⟩|⟨h,_⟩|⟨_,h⟩
   .cases h
   .cases h
   .exact h
  obtain⟨A2,c2,rfl,bl⟩:∃A c,aF=.slice A tn c/\Own V 95 2 A tn c (s.table.flatMap cG) F2:=by
   rcases hC.t with⟨h,_⟩|⟨h,_⟩|⟨_,h⟩
   .cases h
   .cases h
   .exact h
  obtain⟨ck,c3,rfl,bb⟩:∃A c,aN=.slice A hn c/\Own V 49 1 A hn c hx L:=by
   rcases hC.h with⟨h,_⟩|⟨h,_⟩|⟨_,h⟩
   .cases h
   .cases h
   .exact h
  refine tf ?_;refine xe (P:=?P1) (ops:=?KS) (Q:=?KX) (R:=?KZ) (tails:=?K2) (rest:=.pick [16] (λ_=>.stop)) (aa:=?KP) (C:=λ(r:Nat) V=>Ext W V/\Own V 3 1 cy gn c1 (s.globals.map eJ) F1/\Own V 95 2 A2 tn c2 (s.table.flatMap cG) F2/\Own V 49 1 ck hn c3 hx L/\an V r 30 #[.slice none 0 0,.slice none 0 0,.slice none 0 0,.int .i64 0]/\(F1++(F2++(L++[r]))).Nodup/\∀k∈F1++(F2++(L++[r])),W.heap.size<=k/\k<V.heap.size) (λkey=>?main) ?key
  case main=>
   rcases hC.o with⟨rfl,rfl,a1⟩|⟨rfl,r,rfl,a1,cd⟩
   .subst a1;show cQ _ _ _ _ _ (.pick [15] λ_=>.pick [16] λ_=>.stop) _ _
    refine ao ?_;refine fj ?_;have aw:∀k∈F1++(F2++(L++[])),k<V.heap.size:=λk ai=>(hC.lo k ai).2;have hD:Ext W (V.alloc (.cells #[.slice none 0 0,.slice none 0 0,.slice none 0 0,.int .i64 0] 30))/\Own (V.alloc (.cells #[.slice none 0 0,.slice none 0 0,.slice none 0 0,.int .i64 0] 30)) 3 1 cy gn c1 (s.globals.map eJ) F1/\Own (V.alloc (.cells #[.slice none 0 0,.slice none 0 0,.slice none 0 0,.int .i64 0] 30)) 95 2 A2 tn c2 (s.table.flatMap cG) F2/\Own (V.alloc (.cells #[.slice none 0 0,.slice none 0 0,.slice none 0 0,.int .i64 0] 30)) 49 1 ck hn c3 hx L/\an (V.alloc (.cells #[.slice none 0 0,.slice none 0 0,.slice none 0 0,.int .i64 0] 30)) V.heap.size 30 #[.slice none 0 0,.slice none 0 0,.slice none 0 0,.int .i64 0]/\(F1++(F2++(L++[V.heap.size]))).Nodup/\∀k∈F1++(F2++(L++[V.heap.size])),W.heap.size<=k/\k<(V.alloc (.cells #[.slice none 0 0,.slice none 0 0,.slice none 0 0,.int .i64 0] 30)).heap.size:=by
     refine⟨hC.ext.alloc _,cD.aj (LL.alloc _),bl.aj (LL.alloc _),bb.aj (LL.alloc _),LM,?_,λk ai=>?_⟩
     .have:=qu (F1:=F1++(F2++L)) (F2:=[]) (by simpa using hC.nd) (by simpa using aw);simpa using this
     .rw[World.kY];have cW:=hC.ext.size;rcases gW.dh.1 ai with ai|ai|ai|ai
      .have:=hC.lo k (gW.dh.2 (.inl ai));omega
      .have:=hC.lo k (gW.dh.2 (.inr (.inl ai)));omega
      .have:=hC.lo k (gW.dh.2 (.inr (.inr (.inl ai))));omega
      .have:=LF.1 ai;omega
    generalize V.alloc (.cells #[.slice none 0 0,.slice none 0 0,.slice none 0 0,.int .i64 0] 30)=dH at hD ⊢;generalize V.heap.size=r at hD ⊢;exact key r dH hD
   .subst a1;show cQ _ _ _ _ _ (.pick [16] λ_=>.stop) _ _
    exact key r V ⟨hC.ext,cD,bl,bb,cd,hC.nd,hC.lo⟩
  clear hC cD bl bb V b;intro r V ⟨bm,cD,bl,bb,cR,aS,aG⟩;obtain⟨e0,bk,a5⟩:=cR.two;have b8:=aG r (by simp);clear a0 ap aj;exact hk
theorem m8{α:Type}{enc:α->D}{w:World}{P:Nat->Prop}:∀(l:List α) (xs:List Value),xs.length=l.length->(∀(j:Nat) (x:α),l[j]?=some x->∃u,xs[j]?=some u/\(enc x).rep w P [u])->D.aJ w P (l.map enc) xs
 | [],[],_,_=>aK.2 rfl
 | [],_::_,h,_=>by simp at h
 | _::_,[],h,_=>by simp at h
 | a::l,v::xs,h,hp=>by
  obtain⟨u,hu,aQ⟩:=hp 0 a rfl;simp only[List.getElem?_cons_zero,LG] at hu;subst hu;exact dy.2 ⟨[v],xs,rfl,aQ,m8 l xs (by simpa using h) λj x hx=>by simpa using hp (j+1) x (by simpa using hx)⟩
section
variable {P:Nat->Prop} {B:Nat} {w ac:World} {s a7:ag} {k:Nat} {fs:List al} {f a9:al} {r:Nat} {q:SV} {O lb lc:Nat} {hx a2:List Value} {IA:LP} {ic:Nat} {S:LP} {y:Nat} {F1 F2 bs:List Nat}
theorem RO.J3(h:RO P B w s k fs f r q O lb lc hx a2 IA ic S y F1 F2 bs):q.Is w (λb=>P b\/(B<=b/\b<w.heap.size/\b≠r)) s:=by
 have aG:=h.lo;have ax:∀b∈O::lb::(F1++(F2++bs)),P b\/(B<=b/\b<w.heap.size/\b≠r):=λb hm=>.inr ⟨(aG b (List.mem_cons_of_mem _ hm)).1,(aG b (List.mem_cons_of_mem _ hm)).2,λhe=>(List.nodup_cons.1 h.nd).1 (he▸hm)⟩;have a:∀b,P b->P b\/(B<=b/\b<w.heap.size/\b≠r):=λb O=>.inl O;refine⟨⟨?_,?_,?_⟩,h.g.cap,h.t.cap,h.h.cap⟩
 .exact h.g.sl (cF _) (by rw[Lf];exact h.gl.symm) λb O=>ax b (by simp[O])
 .exact h.t.sl (dK _) (by rw[Lf];exact h.tl.symm) λb O=>ax b (by simp[O])
 .have aX:hx.length=s.threads.length:=by have:=h.h.row.1;rw[Nat.mul_one] at this;rw[this];exact h.hl
  refine h.h.sl (m8 _ _ aX λj x bd=>?_) (by rw[Lf];exact h.hl.symm) λb O=>ax b (by simp[LF.1 O]);by_cases z:j=k
  .subst z;have:=h.th.symm.trans bd;injection this with this;subst this;refine⟨_,h.s0,fm.2 ⟨_,_,_,rfl,h.l.cap,h.l.sl ?_ (by simp) λb O=>ax b (by simp[LF.1 O])⟩⟩;rw[Li];exact D.cH (D.bQ a _ _ h.fr) (D.bo.2 (g0.2 ⟨_,_,_,_,_,_,rfl,h.i.cap,h.GS,h.i.sl (cF _) (by simp) λb O=>ax b (by simp[O]),h.lk.mono a⟩))
  .obtain⟨u,hu,aQ⟩:=h.rb j x z bd;exact⟨u,hu,D.aE a _ _ aQ⟩
theorem RO.is(h:RO P B w s k fs f r q O lb lc hx a2 IA ic S y F1 F2 bs):q.Is w (λb=>P b\/(B<=b/\b<w.heap.size)) s:=h.J3.mono λb O=>O.imp id λO=>⟨O.1,O.2.1⟩
theorem RO.Jn(h:RO P B w s k fs f r q O lb lc hx a2 IA ic S y F1 F2 bs){g:Nat}(aK:g∈lb::(F1++(F2++bs)))(U:ac.heap.size=w.heap.size)(ai:∀b,b≠g->ac.heap[b]?=w.heap[b]?)
  (d:∀j,j≠k->a7.threads[j]?=s.threads[j]?) (aS:a7.threads[k]?=some (fs++[a9])) (b8:a7.globals.length=s.globals.length) (bv:a7.table.length=s.table.length) (bS:a7.threads.length=s.threads.length) (E:a7.fault=s.fault) (cn:a9.aw=f.aw)
  (hG:Own ac 3 1 q.GA q.gn q.gc (a7.globals.map eJ) F1) (hT:Own ac 95 2 q.TA q.tn q.tc (a7.table.flatMap cG) F2)
  (bo:Own ac 99 4 (some ⟨lb,0,none⟩) (fs.length+1) lc (a2++[.int .i64 a9.proc,.int .i64 a9.pc,.slice IA a9.ints.length ic,.slice S a9.aw.length y]) [lb])
  (hI:Own ac 3 1 IA a9.ints.length ic (a9.ints.map eJ) bs):RO P B ac a7 k fs a9 r q O lb lc hx a2 IA ic S y F1 F2 bs:=by
 have n1:=List.nodup_cons.1 h.nd;have n2:=List.nodup_cons.1 n1.2;have a:r≠g:=λhe=>n1.1 (by rw[he];exact List.mem_cons_of_mem _ aK);have c:O≠g:=λhe=>n2.1 (by rw[he];exact aK);have bl:B<=g:=(h.lo g (by simp only[Lr] at aK ⊢;exact .inr (.inr aK))).1;have az:∀b,P b->ac.heap[b]?=w.heap[b]?:=λb O=>ai b (aC (h.pb b O));refine {th:=aS,gl:=h.gl.trans b8.symm,tl:=h.tl.trans bv.symm,hl:=h.hl.trans bS.symm,g:=hG,t:=hT,h:=h.h.ai λb O=>ai b (by rw[LF.1 O];exact c),sY:=h.sY,rb:=λj c5 bd cw=>?_,s0:=h.s0,l:=bo,fr:=D.bP az _ _ h.fr,lk:=by rw[cn];exact h.lk.ai az,GS:=by rw[cn];exact h.GS,i:=hI,o:=?_,nd:=h.nd,lo:=λb O=>by rw[U];exact h.lo b O,pb:=h.pb}
 .obtain⟨u,hu,aQ⟩:=h.rb j c5 bd ((d j bd).symm.trans cw);exact⟨u,hu,D.aP az _ _ aQ⟩
 .have:=(ai r a).trans h.o;unfold SV.val at this ⊢
  rwa [E]
namespace CB
theorem vN(h:p:=by
 obtain⟨g,bp,-,-,-,-,hs⟩:=h.l.block ab;obtain rfl:lb=g:=by simpa using bp
 have am:=hs (fs.length*4+1) (.int .i64 v) ab;rw[List.set_append_right _ _ ab,a,Nat.add_sub_cancel_left] at am;exact h.Jn (g:=lb) (by simp) (by simp[World.setCell]) (λb O=>aN O) (λj bd=>by simp[Ne.symm bd]) (by simp[aw]) rfl rfl (by simp) rfl rfl
  (h.g.ai λb O=>aN (hn b (by simp[O]))) (h.t.ai λb O=>aN (hn b (by simp[O]))) am (h.i.ai λb O=>aN (hn b (by simp[O])))
 ):p:=h
end CB
open CB in
theorem RO.pc(h:RO P B w s k fs f r q O lb lc hx a2 IA ic S y F1 F2 bs)(v:Int) :
  RO P B (w.setCell ⟨lb,fs.length*4+1,none⟩ (.int .i64 v)) {s with threads:=s.threads.set k (fs++[{f with pc:=v}])} k fs {f with pc:=v} r q O lb lc hx a2 IA ic S y F1 F2 bs:=by
 have aw:=(List.getElem?_eq_some_iff.1 h.th).1;have n1:=List.nodup_cons.1 (List.nodup_cons.1 (List.nodup_cons.1 h.nd).2).2;have hn:∀b∈F1++(F2++bs),b≠lb:=λb O he=>n1.1 (he▸O);exact vM
namespace CC
theorem vN(h:p:=by
 have aW:k<q.hn:=by rw[h.hl];exact aw
 obtain⟨g,bp,-,hl,hc,J,-⟩:=h.l.block ab;obtain rfl:lb=g:=by simpa using bp
 obtain⟨g2,bu,-,I,bR,ay,-⟩:=h.h.block ab;obtain rfl:O=g2:=by have:=h.sY.symm.trans bu;simpa using this
 refine⟨hl,I,J,ay,bR _ _ h.s0,hc _ _ ?_,hc _ _ ?_,hc _ _ ?_,hc _ _ ?_,aW⟩<;>rw[<-a,List.getElem?_append_right ab]<;>simp
 ):p:=h
end CC
open CC in
theorem RO.top(h:RO P B w s k fs f r q O lb lc hx a2 IA ic S y F1 F2 bs):lb<w.heap.size/\O<w.heap.size/\(∀j,w.frozen? ⟨lb,j,none⟩=false)/\(∀j,w.frozen? ⟨O,j,none⟩=false)/\w.cell? ⟨O,k,none⟩=some (.slice (some ⟨lb,0,none⟩) (fs.length+1) lc)/\w.cell? ⟨lb,fs.length*4,none⟩=some (.int .i64 f.proc)/\w.cell? ⟨lb,fs.length*4+1,none⟩=some (.int .i64 f.pc)/\
  w.cell? ⟨lb,fs.length*4+2,none⟩=some (.slice IA f.ints.length ic)/\w.cell? ⟨lb,fs.length*4+3,none⟩=some (.slice S f.aw.length y)/\k<q.hn:=by
 have aw:=(List.getElem?_eq_some_iff.1 h.th).1;exact vM
theorem RO.ints(h:RO P B w s k fs f r q O lb lc hx a2 IA ic S y F1 F2 bs){j:Nat}(bd:j<f.ints.length):∃H,IA=some ⟨H,0,none⟩/\H<w.heap.size/\w.frozen? ⟨H,j,none⟩=false/\(∃u,w.cell? ⟨H,j,none⟩=some u)/\H≠r/\B<=H/\
  ∀v,RO P B (w.setCell ⟨H,j,none⟩ (.int .i64 v)) {s with threads:=s.threads.set k (fs++[{f with ints:=f.ints.set j v}])} k fs {f with ints:=f.ints.set j v} r q O lb lc hx a2 IA ic S y F1 F2 bs:=by
 have aw:=(List.getElem?_eq_some_iff.1 h.th).1;obtain⟨H,dv,rfl,aM,hc,J,hs⟩:=h.i.block ab;have hm:H∈r::O::lb::(F1++(F2++[H])):=by simp
 have n1:=List.nodup_cons.1 h.nd;have hn:∀b∈lb::(F1++F2),b≠H:=by
  have:=eA (A:=lb::(F1++F2)) (B:=[]) (x:=H) (by simpa[Lp] using (List.nodup_cons.1 n1.2).2);simpa using this
 refine⟨H,dv,aM,J j,⟨_,hc j (eJ f.ints[j]) (by simp[bd])⟩,λhe=>n1.1 (by rw[he];simp),(h.lo H hm).1,λv=>?_⟩;have am:=hs j (.int .i64 v) ab;refine h.Jn (g:=H) (by simp) (by simp[World.setCell]) (λb O=>aN O) (λj bd=>by simp[Ne.symm bd]) (by simp[aw]) rfl rfl (by simp) rfl rfl
  (h.g.ai λb O=>aN (hn b (by simp[O]))) (h.t.ai λb O=>aN (hn b (by simp[O]))) ?_ ?_
 .simp only[List.length_set];exact h.l.ai λb O=>aN (hn b (by simp[LF.1 O]))
 .simp only[List.length_set];rw[qn];exact am
theorem RO.dw(h:RO P B w s k fs f r q O lb lc hx a2 IA ic S y F1 F2 bs){j:Nat}(bd:j<q.gn):∃bl,q.GA=some ⟨bl,0,none⟩/\bl<w.heap.size/\w.frozen? ⟨bl,j,none⟩=false/\(∃u,w.cell? ⟨bl,j,none⟩=some u)/\bl≠r/\B<=bl/\
  ∀v,RO P B (w.setCell ⟨bl,j,none⟩ (.int .i64 v)) {s with globals:=s.globals.set j v} k fs f r q O lb lc hx a2 IA ic S y F1 F2 bs:=by
 obtain⟨bl,a,rfl,b8,hc,J,hs⟩:=h.g.block ab;have hm:bl∈r::O::lb::([bl]++(F2++bs)):=by simp
 have n1:=List.nodup_cons.1 h.nd;have hn:∀b∈lb::(F2++bs),b≠bl:=by
  have:=eA (A:=[lb]) (B:=F2++bs) (x:=bl) (by simpa using (List.nodup_cons.1 n1.2).2);simpa using this
 have bR:j<s.globals.length:=by rw[<-h.gl];exact bd
 refine⟨bl,a,b8,J j,⟨_,hc j (eJ s.globals[j]) (by simp[bR])⟩,λhe=>n1.1 (by rw[he];simp),(h.lo bl hm).1,λv=>?_⟩;have am:=hs j (.int .i64 v) ab;rw[<-show (.int .i64 v:Value)=.int .i64 v from rfl] at am;refine h.Jn (g:=bl) (by simp) (by simp[World.setCell]) (λb O=>aN O) (λ_ _=>rfl) h.th (by simp) rfl rfl rfl rfl
  ?_ (h.t.ai λb O=>aN (hn b (by simp[O]))) (h.l.ai λb O=>aN (hn b (by simp[LF.1 O]))) (h.i.ai λb O=>aN (hn b (by simp[O])))
 show Own _ 3 1 q.GA q.gn q.gc ((s.globals.set j v).map eJ) [bl]
 rw[qn];exact am
end
section
variable {P:Nat->Prop} {B:Nat} {w ac X:World} {s a7:ag} {k:Nat} {fs:List al} {f a9:al} {r:Nat} {q:SV} {O lb lc:Nat} {hx a2:List Value} {IA:LP} {ic:Nat} {S:LP} {y:Nat} {F1 F2 bs:List Nat}
theorem RO.sep(h:RO P B w s k fs f r q O lb lc hx a2 IA ic S y F1 F2 bs):r≠O/\r≠lb/\O≠lb/\(∀b∈F1++(F2++bs),b≠r/\b≠O/\b≠lb)/\∀b,P b->b<w.heap.size/\b≠r/\b≠O/\b≠lb:=by
 have n1:=List.nodup_cons.1 h.nd;have n2:=List.nodup_cons.1 n1.2;have n3:=List.nodup_cons.1 n2.2;refine⟨λhe=>n1.1 (by rw[he];simp),λhe=>n1.1 (by rw[he];simp),λhe=>n2.1 (by rw[he];simp),λb hm=>⟨λhe=>n1.1 (he▸?_),λhe=>n2.1 (he▸?_),λhe=>n3.1 (he▸hm)⟩,λb hm=>?_⟩
 .exact List.mem_cons_of_mem _ (List.mem_cons_of_mem _ hm)
 .exact List.mem_cons_of_mem _ hm
 .have ae:=h.pb b hm;have aD:=h.lo r (by simp);have aU:=h.lo O (by simp);have a1:=h.lo lb (by simp);omega
theorem RO.fin(h:RO P B w s k fs f r q O lb lc hx a2 IA ic S y F1 F2 bs)(U:w.heap.size<=X.heap.size)(ai:∀b,b<w.heap.size->b≠O->b≠lb->X.heap[b]?=w.heap[b]?){T:List al}{v:Value}
  (wi:Own X 49 1 q.HA q.hn q.hc (hx.set k v) [O]) (bD:(mS T).rep X (λb=>P b\/(B<=b/\b<X.heap.size)) [v]) :
  q.Is X (λb=>P b\/(B<=b/\b<X.heap.size)) {s with threads:=s.threads.set k T}/\an X r 30 (q.val s):=by
 obtain⟨d1,d2,d3,n,g⟩:=h.sep;have aG:=h.lo;have ax:∀b∈r::O::lb::(F1++(F2++bs)),P b\/(B<=b/\b<X.heap.size):=λb O=>.inr ⟨(aG b O).1,by have:=(aG b O).2;omega⟩;have i:∀b∈F1++(F2++bs),X.heap[b]?=w.heap[b]?:=λb O=>ai b (aG b (List.mem_cons_of_mem _ (List.mem_cons_of_mem _ (List.mem_cons_of_mem _ O)))).2 (n b O).2.1 (n b O).2.2;have az:∀b,P b->X.heap[b]?=w.heap[b]?:=λb O=>ai b (g b O).1 (g b O).2.2.1 (g b O).2.2.2;have a:∀b,P b->P b\/(B<=b/\b<X.heap.size):=λb O=>.inl O;have aX:hx.length=s.threads.length:=by have:=h.h.row.1;rw[Nat.mul_one] at this;rw[this];exact h.hl
 have aw:=(List.getElem?_eq_some_iff.1 h.th).1;refine⟨⟨⟨?_,?_,?_⟩,h.g.cap,h.t.cap,h.h.cap⟩,(ai r (aG r (by simp)).2 d1 d2).trans h.o⟩
 .exact(h.g.ai λb O=>i b (by simp[O])).sl (cF _) (by rw[Lf];exact h.gl.symm) λb O=>ax b (by simp[O])
 .exact(h.t.ai λb O=>i b (by simp[O])).sl (dK _) (by rw[Lf];exact h.tl.symm) λb O=>ax b (by simp[O])
 .refine wi.sl (m8 _ _ (by simpa using aX) λj x bd=>?_) (by simp only[Lf,List.length_set];exact h.hl.symm) λb O=>ax b (by simp[LF.1 O]);by_cases z:j=k
  .subst z;rw[List.getElem?_set_self aw] at bd;injection bd with bd;subst bd;exact⟨v,List.getElem?_set_self ab,bD⟩
  .rw[List.getElem?_set_ne (Ne.symm z)] at bd;obtain⟨u,hu,aQ⟩:=h.rb j x z bd;exact⟨u,by rw[List.getElem?_set_ne (Ne.symm z)];exact hu,D.aE a _ _ (D.aP az _ _ aQ)⟩
theorem RO.wi(h:RO P B w s k fs f r q O lb lc hx a2 IA ic S y F1 F2 bs)(v:Value):Own (w.setCell ⟨O,k,none⟩ v) 49 1 q.HA q.hn q.hc (hx.set k v) [O]:=by
 have aw:=(List.getElem?_eq_some_iff.1 h.th).1;have aW:k<q.hn:=by rw[h.hl];exact aw
 obtain⟨g2,bu,-,-,-,-,hs⟩:=h.h.block ab;obtain rfl:O=g2:=by have:=h.sY.symm.trans bu;simpa using this
 exact hs k v ab
namespace CD
theorem vN(h:p:=by
 have hc:=h.l.cap;have hl:=(h.l.shorter (m:=fs.length) ab ab).ai (ac:=X) λb O=>aJ b (by rw[LF.1 O];exact Ne.symm d3);rw[List.take_append_of_le_length ab,Lj ab] at hl;refine h.fin ab (λb _ ae _=>aJ b ae) (by rw[<-hX];exact h.wi _) (fm.2 ⟨_,fs.length,lc,rfl,ab,hl.sl (D.bQ (λb O=>.inl O) _ _ (D.bP (λb O=>aJ b (g b O).2.2.1) _ _ h.fr)) (by simp) λb aX=>.inr ?_⟩);rw[LF.1 aX,bI];exact h.lo lb (by simp)
 ):p:=h
end CD
open CD in
theorem RO.drop(h:RO P B w s k fs f r q O lb lc hx a2 IA ic S y F1 F2 bs)(hX:w.setCell ⟨O,k,none⟩ (.slice (some ⟨lb,0,none⟩) fs.length lc)=X) :
  q.Is X (λb=>P b\/(B<=b/\b<X.heap.size)) {s with threads:=s.threads.set k fs}/\an X r 30 (q.val s):=by
 obtain⟨d1,d2,d3,n,g⟩:=h.sep;have bI:X.heap.size=w.heap.size:=by rw[<-hX];simp[World.setCell]
 have aJ:∀b,b≠O->X.heap[b]?=w.heap[b]?:=λb O=>by rw[<-hX];exact aN O
 exact vM
theorem RO.push(h:RO P B w s k fs f r q O lb lc hx a2 IA ic S y F1 F2 bs){cs:List Value}(bj:(hz Y).rep w A cs)(c:∀b,A b->B<=b/\b<w.heap.size/\b≠O/\b≠lb)
  {I:LP} {aA:Nat} {aV:World} (aQ:Own aV 99 4 I (fs.length+2) aA (a2++[.int .i64 f.proc,.int .i64 f.pc,.slice IA f.ints.length ic,.slice S f.aw.length y]++cs) (bA I (fs.length+2) aA))
  (H:Fr (λb=>b=lb) w aV) (T:∀b∈bA I (fs.length+2) aA,b=lb\/(w.heap.size<=b/\b<aV.heap.size)) (hX:aV.setCell ⟨O,k,none⟩ (.slice I (fs.length+2) aA)=X) :
  q.Is X (λb=>P b\/(B<=b/\b<X.heap.size)) {s with threads:=s.threads.set k (fs++[f]++[Y])}/\an X r 30 (q.val s):=by
 obtain⟨d1,d2,d3,n,g⟩:=h.sep;have bv:=H.size;have bI:X.heap.size=aV.heap.size:=by rw[<-hX];simp[World.setCell]
 have aJ:∀b,b<w.heap.size->b≠O->b≠lb->X.heap[b]?=w.heap[b]?:=λb hl ae aD=>by rw[<-hX];exact(aN ae).trans (H.block b hl aD)
 have aO:=(h.lo O (by simp)).2;have d:∀b∈bA I (fs.length+2) aA,b≠O:=λb aX=>by
  rcases T b aX with ae|ae
  .rw[ae];exact Ne.symm d3
  .omega
 have e:=aQ.ai (ac:=X) λb aX=>by rw[<-hX];exact aN (d b aX)
 have az:∀b,P b->X.heap[b]?=w.heap[b]?:=λb O=>aJ b (g b O).1 (g b O).2.2.1 (g b O).2.2.2;have a:∀b,P b->P b\/(B<=b/\b<X.heap.size):=λb O=>.inl O;have ax:∀b∈r::O::lb::(F1++(F2++bs)),P b\/(B<=b/\b<X.heap.size):=λb O=>.inr ⟨(h.lo b O).1,by have:=(h.lo b O).2;omega⟩;have ak:=h.i.ai (ac:=X) λb O=>aJ b (h.lo b (by simp[O])).2 (n b (by simp[O])).2.1 (n b (by simp[O])).2.2;have wi:Own X 49 1 q.HA q.hn q.hc (hx.set k (.slice I (fs.length+2) aA)) [O]:=by
  have ae:Own aV 49 1 q.HA q.hn q.hc hx [O]:=h.h.ai λb aX=>H.block b (by rw[LF.1 aX];exact aO) (by rw[LF.1 aX];exact d3);have aw:=(List.getElem?_eq_some_iff.1 h.th).1;have aW:k<q.hn:=by rw[h.hl];exact aw
  obtain⟨g2,bu,-,-,-,-,hs⟩:=ae.block ab;obtain rfl:O=g2:=by have:=h.sY.symm.trans bu;simpa using this
  rw[<-hX];exact hs k _ ab
 refine h.fin ab aJ wi (fm.2 ⟨_,_,_,rfl,e.cap,e.sl ?_ (by simp) λb aX=>?_⟩)
 .rw[Li,Li];refine D.cH (D.cH (D.bQ a _ _ (D.bP az _ _ h.fr)) (D.bo.2 (g0.2 ⟨_,_,_,_,_,_,rfl,h.i.cap,h.GS,ak.sl (cF _) (by simp) λb O=>ax b (by simp[O]),(h.lk.ai az).mono a⟩))) (D.bo.2 ?_);exact D.aE (λb O=>.inr (⟨(c b O).1,by have:=(c b O).2.1;omega⟩:B<=b/\b<X.heap.size)) _ _ (D.aP (λb O=>aJ b (c b O).2.1 (c b O).2.2.1 (c b O).2.2.2) _ _ bj)
 .rcases T b aX with ae|ae
  .rw[ae];exact ax lb (by simp)
  .have:=(h.lo O (by simp));exact .inr ⟨ab,ab⟩
end
section
variable {P:Nat->Prop} {B:Nat} {w ac X:World} {s a7:ag} {k:Nat} {fs:List al} {f a9:al} {r:Nat} {q:SV} {O lb lc:Nat} {hx a2:List Value} {IA:LP} {ic:Nat} {S:LP} {y:Nat} {F1 F2 bs:List Nat}
theorem RO.I7(h:RO P B w s k fs f r q O lb lc hx a2 IA ic S y F1 F2 bs){PT:Nat->Prop}{I:LP}{a5 aA:Nat}{T:List dn}(hT:Sl w PT I a5 (T.map mQ))(hn:a5<=aA)(a:∀b,PT b->P b\/(B<=b/\b<w.heap.size/\b≠r))(hX:w.setCell ⟨r,1,none⟩ (.slice I a5 aA)=X):
  let aq:SV:=⟨q.GA,q.gn,q.gc,I,a5,aA,q.HA,q.hn,q.hc⟩
  let a7:ag:={s with table:=T}
  aq.Is X (λb=>P b\/(B<=b/\b<X.heap.size)) a7/\an X r 30 (aq.val a7):=by
 intro aq a7;have bI:X.heap.size=w.heap.size:=by rw[<-hX];simp[World.setCell]
 have ai:∀b,(P b\/(B<=b/\b<w.heap.size/\b≠r))->X.heap[b]?=w.heap[b]?:=λb hm=>by
  rw[<-hX];refine aN ?_;rcases hm with hm|hm
  .exact(h.sep.2.2.2.2 b hm).2.1
  .exact hm.2.2
 have ak:=h.J3.ai ai;have hm:∀b,(P b\/(B<=b/\b<w.heap.size/\b≠r))->P b\/(B<=b/\b<X.heap.size):=λb O=>O.imp id λO=>⟨O.1,by rw[bI];exact O.2.1⟩
 refine⟨⟨⟨ak.at_.g.mono hm,(hT.ai λb O=>ai b (a b O)).mono λb O=>hm b (a b O),ak.at_.h.mono hm⟩,ak.gc,hn,ak.hc⟩,?_⟩;rw[<-hX];exact h.o.aD 1 _
theorem RO.start(h:RO P B w s k fs f r q O lb lc hx a2 IA ic S y F1 F2 bs){c0 c1 c2 c3:Value}(bj:(hz Y).rep w A [c0,c1,c2,c3])(c:∀b,A b->B<=b/\b<w.heap.size/\b≠O/\b≠r)
  {aP aV:World} (R:w.alloc (.cells #[c0,c1,c2,c3] 99)=aP) {I:LP} {aA:Nat}
  (aQ:Own aV 49 1 I (q.hn+1) aA (hx++[.slice (some ⟨w.heap.size,0,none⟩) 1 1]) (bA I (q.hn+1) aA)) (J:Fr (λb=>b=O) aP aV) (T:∀b∈bA I (q.hn+1) aA,b=O\/(aP.heap.size<=b/\b<aV.heap.size))
  (hX:aV.setCell ⟨r,2,none⟩ (.slice I (q.hn+1) aA)=X) :
  let aq:SV:=⟨q.GA,q.gn,q.gc,q.TA,q.tn,q.tc,I,q.hn+1,aA⟩
  let a7:ag:={s with threads:=s.threads++[[Y]]}
  aq.Is X (λb=>P b\/(B<=b/\b<X.heap.size)) a7/\an X r 30 (aq.val a7):=by
 intro aq a7;obtain⟨d1,d2,d3,n,g⟩:=h.sep;have dh:aP.heap.size=w.heap.size+1:=by rw[<-R];simp
 have aF:=bb R;have o:=aT R;have bv:=J.size;have bI:X.heap.size=aV.heap.size:=by rw[<-hX];simp[World.setCell]
 have c4:=h.lo r (by simp);have c9:=h.lo O (by simp);have bt:=h.lo lb (by simp);have aJ:∀b,b<aP.heap.size->b≠r->b≠O->X.heap[b]?=aP.heap[b]?:=λb aw a6 aU=>by
  rw[<-hX];exact(aN a6).trans (J.block b aw aU)
 have m:∀b,b<w.heap.size->b≠r->b≠O->X.heap[b]?=w.heap[b]?:=λb aw a6 aU=>(aJ b ab a6 aU).trans (aF.block b aw λh=>h);have az:∀b,P b->X.heap[b]?=w.heap[b]?:=λb hm=>m b (g b hm).1 (g b hm).2.1 (g b hm).2.2.1;have i:∀b∈F1++(F2++bs),X.heap[b]?=w.heap[b]?:=λb hm=>m b (h.lo b (List.mem_cons_of_mem _ (List.mem_cons_of_mem _ (List.mem_cons_of_mem _ hm)))).2 (n b hm).1 (n b hm).2.1;have a:∀b,P b->P b\/(B<=b/\b<X.heap.size):=λb hm=>.inl hm;have ax:∀b∈r::O::lb::(F1++(F2++bs)),P b\/(B<=b/\b<X.heap.size):=λb hm=>.inr ⟨(h.lo b hm).1,by have:=(h.lo b hm).2;omega⟩;have v:an X w.heap.size 99 #[c0,c1,c2,c3]:=(aJ _ ab ab ab).trans o;have cn:(hz Y).rep X (λb=>P b\/(B<=b/\b<X.heap.size)) [c0,c1,c2,c3]:=D.aE (λb hm=>.inr (⟨(c b hm).1,by have:=(c b hm).2.1;omega⟩:B<=b/\b<X.heap.size)) _ _ (D.aP (λb hm=>m b (c b hm).2.1 (c b hm).2.2.2 (c b hm).2.2.1) _ _ bj);have bZ:Sl X (λb=>P b\/(B<=b/\b<X.heap.size)) (some ⟨w.heap.size,0,none⟩) 1 ([Y].map hz):=⟨rfl,λ_=>⟨w.heap.size,0,[c0,c1,c2,c3],rfl,.inr ⟨ab,ab⟩,by simp only[Lh,Ly];exact D.bo.2 cn,λj u hu=>by
  rw[Lt,v.cell];simpa using hu⟩⟩
 have d:∀b∈bA I (q.hn+1) aA,b≠r:=λb hm=>by
  rcases T b hm with ae|ae
  .rw[ae];exact Ne.symm d1
  .omega
 have e:=aQ.ai (ac:=X) λb hm=>by rw[<-hX];exact aN (d b hm)
 have hl:=h.l.ai (ac:=X) λb hm=>by rw[LF.1 hm];exact m lb bt.2 (Ne.symm d2) (Ne.symm d3)
 have ak:=h.i.ai (ac:=X) λb hm=>i b (by simp[hm]);have aX:hx.length=s.threads.length:=by have:=h.h.row.1;rw[Nat.mul_one] at this;rw[this];exact h.hl
 refine⟨⟨⟨?_,?_,?_⟩,h.g.cap,h.t.cap,e.cap⟩,?_⟩
 .exact(h.g.ai λb hm=>i b (by simp[hm])).sl (cF _) (by rw[Lf];exact h.gl.symm) λb hm=>ax b (by simp[hm])
 .exact(h.t.ai λb hm=>i b (by simp[hm])).sl (dK _) (by rw[Lf];exact h.tl.symm) λb hm=>ax b (by simp[hm])
 .refine e.sl (l:=(s.threads++[[Y]]).map mS) ?_ (by simp[h.hl]) λb hm=>?_
  .rw[Li];refine D.cH (m8 _ _ aX λj x bd=>?_) (D.bo.2 (fm.2 ⟨_,1,1,rfl,Lb _,bZ⟩));by_cases z:j=k
   .subst z;have:=h.th.symm.trans bd;injection this with this;subst this;refine⟨_,h.s0,fm.2 ⟨_,_,_,rfl,h.l.cap,hl.sl ?_ (by simp) λb hm=>ax b (by simp[LF.1 hm])⟩⟩;rw[Li];exact D.cH (D.bQ a _ _ (D.bP az _ _ h.fr)) (D.bo.2 (g0.2 ⟨_,_,_,_,_,_,rfl,h.i.cap,h.GS,ak.sl (cF _) (by simp) λb hm=>ax b (by simp[hm]),(h.lk.ai az).mono a⟩))
   .obtain⟨u,hu,aQ⟩:=h.rb j x z bd;exact⟨u,hu,D.aE a _ _ (D.aP az _ _ aQ)⟩
  .rcases T b hm with ae|ae
   .rw[ae];exact ax O (by simp)
   .exact .inr ⟨ab,ab⟩
 .have:=(h.o.aj aF).on J d1;rw[<-hX];exact this.aD 2 _
end
end Go.Proofs.YtflecliffjbleaaGreat

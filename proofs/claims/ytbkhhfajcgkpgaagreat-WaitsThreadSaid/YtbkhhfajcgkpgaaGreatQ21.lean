/- Part 21 of the proof. No condition of its own. -/
import Derived.Test.YtbkhhfajcgkpgaaGreatQ20
namespace Go.Proofs.YtbkhhfajcgkpgaaGreat
open Go.RowKit Go.Proofs.Tryz
set_option maxRecDepth 1000000
set_option maxHeartbeats 25600000
set_option linter.unusedVariables false
variable{t:Nat→Prop}{p:Prop}{Y:an}
structure RO(P:Nat→Prop)(B:Nat)(w:World)(s:ah)(k:Nat)(fs:List an)(f:an)(r:Nat)(q:SV)(O lb lc:Nat)(hx br:List Value)(IA:Kr)(ic:Nat)(bj:Kr)(y:Nat)(F1 F2 a8:List Nat):Prop where
 th:s.threads[k]?=some (fs++[f])
 gl:q.gn=s.globals.length
 tl:q.tn=s.table.length
 hl:q.hn=s.threads.length
 g:Own w 3 1 q.GA q.gn q.gc (s.globals.map eC) F1
 t:Own w 83 2 q.TA q.tn q.tc (s.table.flatMap cz) F2
 h:Own w 52 1 q.HA q.hn q.hc hx [O]
 sj:q.HA=some ⟨O,0,none⟩
 qw:∀j cX,j≠k→s.threads[j]?=some cX→∃u,hx[j]?=some u∧(mg cX).rep w P [u]
 yA:hx[k]?=some (.slice (some ⟨lb,0,none⟩) (fs.length+1) lc)
 l:Own w 100 4 (some ⟨lb,0,none⟩) (fs.length+1) lc (br++[.int .i64 f.proc,.int .i64 f.pc,.slice IA f.ints.length ic,.slice bj f.aw.length y]) [lb]
 fr:D.aI w P (fs.map hh) br
 lk:Sl w P bj f.aw.length (f.aw.map D.i)
 FR:f.aw.length≤y
 i:Own w 3 1 IA f.ints.length ic (f.ints.map eC) a8
 o:af w r 30 (q.val s)
 nd:(r::O::lb::(F1++(F2++a8))).Nodup
 lo:∀b∈r::O::lb::(F1++(F2++a8)),B≤b∧b<w.heap.size
 pb:∀b,P b→b<B
def Hg(P:Nat→Prop)(w:World)(s:ah)(k:Nat)(fs:List an)(f:an)(e:Ending)(ac:World):Prop:=∃q O lb lc hx br IA ic bj y F1 F2 a8,e=.returned (.agg (q.val s))∧Ext w ac∧
 ∀V r,Ext ac V→af V r 30 (q.val s)→ac.heap.size≤r→RO P w.heap.size V s k fs f r q O lb lc hx br IA ic bj y F1 F2 a8
namespace BR
theorem gq(h:p:=by
 refine cw ?_;generalize hX:World.setCell _ _ _=X;obtain⟨cd,bZ⟩:=q8 0 [.slice ce gn c1,.slice A2 tn c2,.slice cf hn c3,.int .i64 s.fault] bI hX;have bh:af X r 30 #[.slice ce gn c1,.slice A2 tn c2,.slice cf hn c3,.int .i64 s.fault]:=cd;have a1:∀k∈F1++(F2++L),k≠r:=by
  have:=ep (A:=F1++(F2++L)) (B:=[]) (x:=r) (by simpa using aR);simpa using this
 have bQ:∀k,k∈F1++(F2++L)→k∈F1++(F2++(L++[r])):=fun k aj=>by
  simp only[JZ] at aj ⊢;rcases aj with aj|aj|aj
  ·exact .inl aj
  ·exact .inr (.inl aj)
  ·exact .inr (.inr (.inl aj))
 have aB:∀k∈F1++(F2++L),X.heap[k]?=V.heap[k]?:=fun k aj=>bZ.block k (N k (bQ k aj)).2 (a1 k aj);have bo:Ext W X:=Fr.low (M:=fun b=>b=r) (Fr.trans (Fr.mono bf fun _ h=>h.elim) bZ) fun b O=>by rw[O];exact bN.1
 have aP:=iE (cq.aj fun k aj=>aB k (by simp[aj])) (bs.aj fun k aj=>aB k (by simp[aj])) (br.aj fun k aj=>aB k (by simp[aj])) bh aR (fun k aj=>(⟨(N k aj).1,by have:=(N k aj).2;have:=bZ.size;omega⟩:W.heap.size≤k∧k<X.heap.size)) bo;obtain⟨a0,ap,ak⟩:=(ax.2.1.ak bo).two;have a2:Ext w X:=ax.1.trans bo;have am:∀b,P b→X.heap[b]?=w.heap[b]?:=fun b O=>a2.block b (bu.2.1 b O) fun h=>h;obtain⟨dv,dR,c9,FA,m,fc,cH,aX,al,dh,b7,cp⟩:=bu.1.at_.h.xv (k:=t.toNat) (by show t.toNat<hn;omega);simp only at cH;subst cH;have dx:c9=fs++[f]:=by have:=bu.2.2.2.1;rw[al] at this;injection this
 subst dx;obtain rfl:m=fs.length+1:=by have:=cp.1;simpa using this.symm
 have dF:=(a2.cell (j:=dR+t.toNat) (bu.2.1 _ aX) fun h=>h).trans dh;have b4:=cp.aj am;have cQ:dv<X.heap.size:=by have:=bu.2.1 _ aX;have:=a2.size;omega
 have cR:∀d∈(fs++[f]).map hh,d.sz=4:=fun d hd=>by obtain⟨x,_,rfl⟩:=Ke.1 hd;rfl
 obtain⟨dL,cB,av⟩:=Sl.src (z:=4) b4 cR;rw[JX] at cB;obtain⟨bX,cY,rfl,bk,bi⟩:=D.jS cB;obtain⟨IA,ii,ic,bj,dJ,y,rfl,aA,aJ,cG,bT⟩:=gO.1 (D.bj.1 bi);have ds:bX.length=fs.length*4:=by rw[D.gU _ _ bk,D.gG (z:=4) (fun d hd=>by obtain⟨x,_,rfl⟩:=Ke.1 hd;rfl),JU]
 obtain rfl:ii=f.ints.length:=by have:=cG.1;simpa using this.symm
 obtain rfl:dJ=f.aw.length:=by have:=bT.1;simpa using this.symm
 have dB:=bW.2.2.2;have bn:FA=none→fs.length+1=0:=fun h=>by subst h;exact b4.none_
 have hIn:IA=none→f.ints.length=0:=fun h=>by subst h;exact cG.none_
 have cV:cC (EF b2) 1 X X.heap.size IA f.ints.length f.ints:=(cG.mono (bb:=au X) fun b O=>by have:=bu.2.1 b O;have:=a2.size;show b<X.heap.size;omega).ints;have bM:=dQ bk bT aJ cV a2 ds;have ca:=aQ av bn hIn;obtain⟨az,cN,bq,dA,cJ,cK,cL⟩:=aP.2.2.1.block ab;subst cN;have c7:=bw bq cJ cK cL;clear e0 a5 aZ hX cd bZ bh a1 bQ aB cq bs br bI aR N bf al aX dh cp am cR cB bi bk bT cG aA aJ cV av bn hIn a2 bo bq cJ cK cL b4 b7;go_upto_region 3 with(at_builtin;refine iR _ FK (by rfl) (.tmp 22) (.tmp 28) (by rfl) (by rfl) _ _ _ _ (by rfl) ca.1 ab ab ca.2.1 ?_;intro dC cE aN aL bF;have H1:=ai aL bF;clear aL bF);have b1:=H1.2.size;obtain⟨lb,dj,di,cr,cS,dk,cT⟩:=hR H1.1 ab;subst dj;have d2:aN.cell? ⟨lb,fs.length*4+2,none⟩=some (.slice IA f.ints.length ic):=cS _ _ (by rw[←bM.2.2.2.2.2,List.getElem?_append_right ab,Nat.add_sub_cancel_left];rfl);have cx:Src aN 1 IA f.ints.length (f.ints.map eC):=by
  have:=Src.nP (bM.2.2.2.1.cO H1.2 H1.2.size) (ib _) (pQ _) ab
  rwa [w8] at this
 have bK:=aQ cx di cT;have cU:=dk;clear cx cT cS;go_upto_region 4 with(at_builtin;refine iR _ dm (by rfl) (.tmp 34) (.tmp 41) (by rfl) (by rfl) _ _ _ _ (by rfl) bK.1 ab ab ca.2.2 ?_;intro cO n aO ag bx;have aE:=ai ag bx;obtain⟨f0,dw,eN⟩:aO.cell? ⟨lb,fs.length*4+2,none⟩=some (.slice IA f.ints.length ic)∧(∀j,aO.frozen? ⟨lb,j,none⟩=false)∧lb<aO.heap.size:=⟨((Fr.of (M:=fun _=>False) bx).cell cr fun h=>h).trans d2,fun j=>((Fr.of (M:=fun _=>False) bx).frozen cr fun h=>h).trans (cU j),JR cr bx.size⟩;clear ag bx);generalize b6:World.setCell _ _ _=Y;obtain⟨dy,cu,-,-,-,-,cv⟩:=hR (b5 H1.1 aE.2) ab;obtain rfl:lb=dy:=by simpa using cu
 have dd:Y.ownsRow X.heap.size 100 4 (.slice (some ⟨lb,0,none⟩) (fs.length+1) cE) (fs.length+1) ((bX++[Value.int .i64 f.proc,.int .i64 f.pc,.slice IA f.ints.length ic,.slice bj f.aw.length y]).set (fs.length*4+2) (.slice cO f.ints.length n)):=by
  rw[←b6];exact cv _ _ ab
 have ar:Fr (fun b=>b=lb) aO Y:=b6▸(Fr.refl (fun b=>b=lb) _).setCell (.inl rfl) _;have bA:Ext X Y:=Fr.low (M:=fun b=>b=lb) (Fr.trans (Fr.trans (Fr.of H1.2) (Fr.of (Below.mono aE.2 (JQ _)))) ar) fun b O=>by rw[O];exact bK.2.1
 have cj:∀b∈bt cO f.ints.length n,aN.heap.size≤b∧b<aO.heap.size:=fun b O=>aE.1.lt b (by simpa using O);have db:Own Y 3 1 cO f.ints.length n (f.ints.map eC) (bt cO f.ints.length n):=Own.aj (w:=aO) ⟨mu aE.1 (Kc _),rfl⟩ fun b O=>ar.block b (cj b O).2 (aH (cj b O));have cD:∀b∈bt cO f.ints.length n,aN.heap.size≤b∧b<Y.heap.size:=fun b O=>⟨(cj b O).1,JR (cj b O).2 ar.size⟩
 have c0:=aP.2.2.1.ak bA;have cc:=aP.2.2.2.1.ak bA;obtain⟨e0,a5,aZ⟩:=cc.two;have aW:hx.length=hn:=by
  rw[D.gU _ _ bu.2.2.2.2.1,D.gG (z:=1) (fun d hd=>by obtain⟨x,_,rfl⟩:=Ke.1 hd;rfl),JU,Nat.mul_one];exact bW.2.2.1
 obtain⟨bE,ay,-,du,cn,dr,co⟩:=c0.block ab;obtain rfl:az=bE:=by simpa using ay
 obtain⟨dK,dq⟩:∃u,hx[t.toNat]?=some u:=⟨_,List.getElem?_eq_getElem ab⟩
 have cI:=cn t.toNat dK dq;have dI:lb<Y.heap.size:=JR eN ar.size;have dE:=bA.size;have dH:=bK.2.1;have a6:=s7 dd bA db cD c0 cc aW co;clear dq b6 cu cv dd ar bA cj db cD c0 cc ay cn co f0 dw d2 cU aW;go_upto_region 5 with(fail);generalize bD:World.setCell _ _ _=Z;have aR:=aP.2.2.2.2.1;have T:=aP.2.2.2.2.2.1;rw[c7.1] at aR T;have a1:∀b∈F1++F2++[r],b≠az:=ep (A:=F1++F2) (B:=[r]) (x:=az) (by simpa using aR);have da:Own Z 52 1 (some ⟨az,0,none⟩) hn c3 (hx.set t.toNat (.slice (some ⟨lb,0,none⟩) (fs.length+1) cE)) L:=bD▸a6.2.2.2.2.2.2.2 t.toNat _ ab;have bL:Fr (fun b=>b=az) Y Z:=bD▸(Fr.refl (fun b=>b=az) _).setCell (.inl rfl) _;have c6:∀b,b<X.heap.size→b≠az→Z.heap[b]?=X.heap[b]?:=fun b O hn=>(bL.block b (JR O a6.2.1.size) hn).trans (a6.2.1.block b O fun h=>h);have eI:=aP.1.aj fun b O=>c6 b (T b (by simp[O])).2 (a1 b (by simp[O]));have dg:=aP.2.1.aj fun b O=>c6 b (T b (by simp[O])).2 (a1 b (by simp[O]));have aq:(bX++[Value.int .i64 f.proc,.int .i64 f.pc,.slice IA f.ints.length ic,.slice bj f.aw.length y]).set (fs.length*4+2) (.slice cO f.ints.length n)=bX++[Value.int .i64 f.proc,.int .i64 f.pc,.slice cO f.ints.length n,.slice bj f.aw.length y]:=by
  have:=bM.2.2.2.2.2;rw[List.set_append_right _ _ ab,this,Nat.add_sub_cancel_left];rfl
 have de:Own Z 100 4 (some ⟨lb,0,none⟩) (fs.length+1) cE (bX++[Value.int .i64 f.proc,.int .i64 f.pc,.slice cO f.ints.length n,.slice bj f.aw.length y]) [lb]:=by
  rw[←aq];exact Own.aj (w:=Y) ⟨mu a6.1 (Kc _),rfl⟩ fun b O=>bL.block b (aH (Kh.1 O)) (aH (Kh.1 O))
 have cD:=a6.2.2.2.1;have dc:=a6.2.2.1.aj fun b O=>bL.block b (cD b O).2 (aH (cD b O));have bC:=a6.2.2.2.2.2.1.on bL (a1 r (by simp));have cg:Ext W Z:=Fr.low (M:=fun b=>b=az) (Fr.trans (Fr.mono (aP.2.2.2.2.2.2.trans a6.2.1) fun _ h=>h.elim) bL) fun b O=>by rw[O];exact(T az (by simp)).1
 have b0:=ax.2.2.1.ak cg;have bl:Ext w Z:=ax.1.trans cg;have aK:∀b∈az::lb::(F1++(F2++bt cO f.ints.length n)),W.heap.size≤b∧b<Z.heap.size:=by
  have ae:=aP.2.2.2.2.2.2.size;have aC:=bL.size;intro b O;rcases J6.1 O with O|O
  ·have:=T az (by simp);omega
  rcases J6.1 O with O|O
  ·omega
  rcases JZ.1 O with O|O
  ·have:=T b (by simp[O]);omega
  rcases JZ.1 O with O|O
  ·have:=T b (by simp[O]);omega
  ·have:=cD b O;omega
 have bU:(az::lb::(F1++(F2++bt cO f.ints.length n))).Nodup:=by
  have dz:(F1++F2).Nodup:=by have:=aR;rw[←List.append_assoc] at this;exact(List.nodup_append.1 this).1
  have cW:(F1++F2++bt cO f.ints.length n).Nodup:=List.nodup_append.2 ⟨dz,gC _ _ _,fun a aV b O h=>by
   have aT:=cD b O;have a9:a<X.heap.size:=(T a (by rcases JZ.1 aV with h|h<;>simp[h])).2;omega⟩
  rw[J4] at cW;refine List.nodup_cons.2 ⟨fun h=>?_,List.nodup_cons.2 ⟨fun h=>?_,cW⟩⟩
  ·rcases J6.1 h with O|O
   ·omega
   rcases JZ.1 O with O|O
   ·exact a1 az (by simp[O]) rfl
   rcases JZ.1 O with O|O
   ·exact a1 az (by simp[O]) rfl
   ·have:=cD az O;omega
  ·rcases JZ.1 h with O|O
   ·have:=T lb (by simp[O]);omega
   rcases JZ.1 O with O|O
   ·have:=T lb (by simp[O]);omega
   ·have:=cD lb O;omega
 have aW:=a6.2.2.2.2.2.2.1;obtain⟨e0,a5,aZ⟩:=bC.two;obtain⟨bv,bd,be⟩:=b0.two;have ba:=ze eI dg da de dc b0 bl aK bU aW;clear bD aR T a1 da bL c6 eI dg aq de cD dc bC cg b0 bl aK bU aW cI dr;go_wp2_with(fail);generalize hU:World.setCell _ _ _=U;obtain⟨ct,ck,ci⟩:=cb (w:=w) [.slice ce gn c1,.slice A2 tn c2,.slice (some ⟨az,0,none⟩) hn c3,.int .i64 s.fault] (by rfl) ba.2.2.2.2.2.1 ba.2.2.2.2.2.2.1 ab hU;have cm:=ai ck ci;clear hU ck ci e0 a5 aZ bv bd be;obtain⟨bv,bd,be⟩:=ct.two;refine Km (v:=.agg #[.slice ce gn c1,.slice A2 tn c2,.slice (some ⟨az,0,none⟩) hn c3,.int .i64 s.fault]) (by simp[results,Tryz.results47,go_sem,bv]) rfl ?_;obtain⟨hG,hT,hH,bR,hI,-,-,aK,bU,aW⟩:=ba.o;refine⟨⟨ce,gn,c1,A2,tn,c2,some ⟨az,0,none⟩,hn,c3⟩,az,lb,cE,hx.set t.toNat (.slice (some ⟨lb,0,none⟩) (fs.length+1) cE),bX,cO,n,bj,y,F1,F2,bt cO f.ints.length n,rfl,cm.1,fun V dD bf bV dG=>?_⟩;have ci:=cm.2;have c4:=ci.size;have cM:=bf.size;have dt:∀b,W.heap.size≤b→b<Z.heap.size→V.heap[b]?=Z.heap[b]?:=fun b ae aC=>(bf.block b ab fun h=>h).trans (ci.block b aC ab);have c8:∀b,P b→V.heap[b]?=w.heap[b]?:=fun b O=>(cm.1.trans bf).block b (bu.2.1 b O) fun h=>h;have cP:∀b,P b→V.heap[b]?=X.heap[b]?:=fun b O=>(c8 b O).trans (bM.2.2.2.2.1.block b (bu.2.1 b O) fun h=>h).symm;have bz:∀b∈az::lb::(F1++(F2++bt cO f.ints.length n)),V.heap[b]?=Z.heap[b]?:=fun b O=>dt b (aK b O).1 (aK b O).2;have bq:=c7.1;have dl:t.toNat<hx.length:=ab
 refine {th:=bu.2.2.2.1,gl:=bW.1.symm,tl:=bW.2.1.symm,hl:=bW.2.2.1.symm,g:=hG.aj fun b O=>bz b (by simp[O]),t:=hT.aj fun b O=>bz b (by simp[O]),h:=?_,sj:=rfl,qw:=fun j cX bc cy=>?_,yA:=by simp[dl],l:=bR.aj fun b O=>bz b (by simp[Kh.1 O]),fr:=D.bJ cP _ _ bM.1,lk:=bM.2.1.aj cP,FR:=bM.2.2.1,i:=hI.aj fun b O=>bz b (by simp[O]),o:=bV,nd:=?_,lo:=fun b O=>?_,pb:=bu.2.1}
 ·rw[←bq];exact hH.aj fun b O=>bz b (by rw[bq] at O;simp[Kh.1 O])
 ·obtain⟨cs,aU,bB,bJ⟩:=D.oA (z:=1) bu.2.2.2.2.1 (fun d hd=>by obtain⟨x,_,rfl⟩:=Ke.1 hd;rfl) (k:=j) (d:=mg cX) (by rw[List.getElem?_map,cy];rfl);obtain⟨u,rfl⟩:=List.length_eq_one_iff.1 bB;have h0:=bJ 0 u rfl;simp only[Nat.mul_one,J0] at h0;exact⟨u,by rw[List.getElem?_set_ne (fun h=>bc h.symm)];exact h0,D.aN c8 _ _ aU⟩
 ·exact List.nodup_cons.2 ⟨fun h=>by have:=aK dD h;omega,bU⟩
 ·rcases J6.1 O with O|O
  ·subst O;exact⟨ab,bV.lt⟩
  ·have:=aK b O;omega
 ):p:=h
theorem r2(h:p:=by
 have ax:=bw aF bH b8 (bu.2.2.1.on aF);have cA:=aF.size;have df:=b8.lt;obtain⟨a0,ap,ak⟩:=bH.two;obtain⟨ws,nH⟩:∃ws,ws=W.heap.size:=⟨_,rfl⟩
 have cF:w.heap.size<ws:=ab;have bG:=ad nH;clear bg aF bH b8 nH;refine tX (fun b=>¬b<ws) [16] (.free 1 (.held 2 (.free 5 (.held 6 (.free 9 (.held 10 (.free 12 (.held 13 (iX 8 0 0 0 false))))))))) ?_;refine tf ?_;refine n8 ?_;refine tf ?_;refine n8 ?_;refine tf ?_;refine n8 ?_;refine tf ?_;refine n8 ?_;refine D0 (W:=W) (s:=s) (gn:=gn) (tn:=tn) (hn:=hn) (gc:=gc) (tc:=tc) (hc:=hc) (GA:=GA) (TA:=TA) (HA:=HA) (hx:=hx) (ws:=ws) (p0:=?Jn) (a0:=?I2) (p3:=?Jv) (a3:=?Ja) (p4:=?JI) (a4:=?JC) (p7:=?Jw) (a7:=?Jb) (p8:=?Jx) (a8:=?Jc) (p11:=?Jo) (a11:=?I3) (p15:=?Jp) (a15:=?I4) (t15:=?Jy) (aa:=(fun bP b3 v10 v11 aG aS aI=>⟨#[.agg #[.slice GA gn gc,.slice TA tn tc,.slice HA hn hc,.int .i64 s.fault],.int .i64 t,.pointer (some ⟨w.heap.size,0,none⟩),undef,.pointer (some ⟨w.heap.size+1,0,none⟩),bP,undef,b3,.pointer (some ⟨w.heap.size,0,none⟩),.slice GA gn gc,v10,v11,.pointer (some ⟨w.heap.size,1,none⟩),.slice TA tn tc,aG,aS,.pointer (some ⟨w.heap.size,2,none⟩),.slice HA hn hc,aI,.pointer (some ⟨w.heap.size,3,none⟩),.int .i64 s.fault,undef,undef,undef,undef,undef,undef,undef,undef,undef,undef,undef,undef,undef,undef,undef,undef,undef,undef,undef,undef,undef,undef,undef,undef,undef,undef,undef,undef,undef,undef,undef],[]⟩)) ?hG ?hT ?hH ?Ih ?xW ?DL ?Gu ?nH ?o0 ?o3 ?o4 ?o7 ?o8 ?Ik ?Il ?q5 ?q7 ?DN ?HN ?Ix ?Iy ?Iz ?e7 ?e9 ?H9 ?Ia ?Ib ?Ic ?hv 8 0 0 0 false ?n1 ?n2 ?n3 ?n4 ?n5 ?n6 undef undef undef undef undef undef undef [] [] [] [] W.drew ?start
 case hG=>exact ax.2.2.2.at_.g
 case hT=>exact ax.2.2.2.at_.t
 case hH=>exact bu.2.2.2.2.2.on (Fr.ext ax.1)
 case Ih=>exact fun h=>by subst h;exact ax.2.2.2.at_.h.none_
 case xW=>exact xW
 case DL=>exact DL
 case Gu=>exact Gu
 case nH=>have:=bG.o;omega
 case o0=>rfl
 case o3=>rfl
 case o4=>rfl
 case o7=>rfl
 case o8=>rfl
 case Ik=>rfl
 case Il=>rfl
 case q5=>intro _ _ _ _ _ _ _ _;rfl
 case q7=>intro _ _ _ _ _ _ _ _;rfl
 case DN=>intro _ _ _ _ _ _ _ _;rfl
 case HN=>intro _ _ _ _ _ _ _ _;rfl
 case Ix=>intro _ _ _ _ _ _ _ _;rfl
 case Iy=>intro _ _ _ _ _ _ _ _;rfl
 case Iz=>intro _ _ _ _ _ _ _ _;rfl
 case e7=>intro _ _ _ _ _ _ _;rfl
 case e9=>intro _ _ _ _ _ _ _;rfl
 case H9=>intro _ _ _ _ _ _ _;rfl
 case Ia=>intro _ _ _ _ _ _ _;rfl
 case Ib=>intro _ _ _ _ _ _ _;rfl
 case Ic=>intro _ _ _ _ _ _ _;rfl
 case n1=>omega
 case n2=>omega
 case n3=>omega
 case n4=>omega
 case n5=>omega
 case n6=>simp
 case start=>exact⟨Kn.drew,.inl ⟨rfl,rfl,rfl,rfl⟩,.inl ⟨rfl,rfl,rfl,rfl⟩,.inl ⟨rfl,rfl,rfl,rfl⟩,.inl ⟨rfl,rfl,rfl⟩,by simp,fun k aj=>by simp at aj⟩
 case hv=>
  intro b bP b3 v10 v11 aG aS aI F1 F2 L S V hC;obtain⟨ce,c1,rfl,cq⟩:∃A c,v10=.slice A gn c∧Own V 3 1 A gn c (s.globals.map eC) F1:=by
   rcases hC.g with⟨h,_⟩|⟨h,_⟩|⟨_,h⟩
   ·cases h
   ·cases h
   ·exact h
  obtain⟨A2,c2,rfl,bs⟩:∃A c,aG=.slice A tn c∧Own V 83 2 A tn c (s.table.flatMap cz) F2:=by
   rcases hC.t with⟨h,_⟩|⟨h,_⟩|⟨_,h⟩
   ·cases h
   ·cases h
   ·exact h
  obtain⟨cf,c3,rfl,br⟩:∃A c,aI=.slice A hn c∧Own V 52 1 A hn c hx L:=by
   rcases hC.h with⟨h,_⟩|⟨h,_⟩|⟨_,h⟩
   ·cases h
   ·cases h
   ·exact h
  refine tf ?_;refine wk (P:=?P1) (ops:=?JH) (Q:=?JL) (R:=?JN) (tails:=?JP) (rest:=.pick [16] (fun _=>.stop)) (aa:=?JE) (C:=fun(r:Nat) V=>Ext W V∧Own V 3 1 ce gn c1 (s.globals.map eC) F1∧Own V 83 2 A2 tn c2 (s.table.flatMap cz) F2∧Own V 52 1 cf hn c3 hx L∧af V r 30 #[.slice none 0 0,.slice none 0 0,.slice none 0 0,.int .i64 0]∧(F1++(F2++(L++[r]))).Nodup∧∀k∈F1++(F2++(L++[r])),W.heap.size≤k∧k<V.heap.size) (fun key=>?main) ?key
  case main=>
   rcases hC.o with⟨rfl,rfl,a9⟩|⟨rfl,r,rfl,a9,cl⟩
   ·subst a9;show c5 _ _ _ _ _ (.pick [15] fun _=>.pick [16] fun _=>.stop) _ _
    refine ao ?_;refine eZ ?_;have aw:∀k∈F1++(F2++(L++[])),k<V.heap.size:=fun k aj=>(hC.lo k aj).2;have hD:Ext W (V.alloc (.cells #[.slice none 0 0,.slice none 0 0,.slice none 0 0,.int .i64 0] 30))∧Own (V.alloc (.cells #[.slice none 0 0,.slice none 0 0,.slice none 0 0,.int .i64 0] 30)) 3 1 ce gn c1 (s.globals.map eC) F1∧Own (V.alloc (.cells #[.slice none 0 0,.slice none 0 0,.slice none 0 0,.int .i64 0] 30)) 83 2 A2 tn c2 (s.table.flatMap cz) F2∧Own (V.alloc (.cells #[.slice none 0 0,.slice none 0 0,.slice none 0 0,.int .i64 0] 30)) 52 1 cf hn c3 hx L∧af (V.alloc (.cells #[.slice none 0 0,.slice none 0 0,.slice none 0 0,.int .i64 0] 30)) V.heap.size 30 #[.slice none 0 0,.slice none 0 0,.slice none 0 0,.int .i64 0]∧(F1++(F2++(L++[V.heap.size]))).Nodup∧∀k∈F1++(F2++(L++[V.heap.size])),W.heap.size≤k∧k<(V.alloc (.cells #[.slice none 0 0,.slice none 0 0,.slice none 0 0,.int .i64 0] 30)).heap.size:=by
     refine⟨hC.ext.alloc _,cq.ak (Kn.alloc _),bs.ak (Kn.alloc _),br.ak (Kn.alloc _),Ko,?_,fun k aj=>?_⟩
     ·have:=pJ (F1:=F1++(F2++L)) (F2:=[]) (by simpa using hC.nd) (by simpa using aw);simpa using this
     ·rw[World.kC];have cM:=hC.ext.size;rcases gM.c4.1 aj with aj|aj|aj|aj
      ·have:=hC.lo k (gM.c4.2 (.inl aj));omega
      ·have:=hC.lo k (gM.c4.2 (.inr (.inl aj)));omega
      ·have:=hC.lo k (gM.c4.2 (.inr (.inr (.inl aj))));omega
      ·have:=Kh.1 aj;omega
    generalize V.alloc (.cells #[.slice none 0 0,.slice none 0 0,.slice none 0 0,.int .i64 0] 30)=dn at hD ⊢;generalize V.heap.size=r at hD ⊢;exact key r dn hD
   ·subst a9;show c5 _ _ _ _ _ (.pick [16] fun _=>.stop) _ _
    exact key r V ⟨hC.ext,cq,bs,br,cl,hC.nd,hC.lo⟩
  clear hC cq bs br V b;intro r V ⟨bf,cq,bs,br,bI,aR,N⟩;obtain⟨e0,a5,aZ⟩:=bI.two;have bN:=N r (by simp);clear a0 ap ak;exact g8
 ):p:=h
theorem g7(h:p:=by
 have bH:af W w.heap.size 30 #[.slice GA gn gc,.slice TA tn tc,.slice HA hn hc,.int .i64 s.fault]:=bg▸(Ko).alloc _;exact r0
 ):p:=h
end BR
open BR in
theorem EC(P:Nat→Prop)(s:ah)(t:Int)(fs:List an)(f:an)(q:SV)(w:World)(h:q.Is w P s)(aY:∀b,P b→b<w.heap.size)(ac:Small s)(cZ:0≤t)(bm:s.threads[t.toNat]?=some (fs++[f])) :
  Calls prog 47 #[.agg (q.val s),.int .i64 t] w (Hg P w s t.toNat fs f):=by
 obtain⟨GA,gn,gc,TA,tn,tc,HA,hn,hc⟩:=q;have b9:=h.ok aY;have bN:s.globals.length=gn:=by have ae:=h.at_.g.1;rw[JU] at ae;exact ae
 have aD:s.table.length=tn:=by have ae:=h.at_.t.1;rw[JU] at ae;exact ae
 have bO:s.threads.length=hn:=by have ae:=h.at_.h.1;rw[JU] at ae;exact ae
 have xW:gn≤100000:=by have:=ac.g;omega
 have DL:tn≤100000:=by have:=ac.t;omega
 have Gu:hn≤100000:=by have:=ac.h;omega
 have dp:t<(hn:Int):=by have:=(List.getElem?_eq_some_iff.1 bm).1;omega
 have ch:=(ac.f _ (JT bm)).1;rw[JS] at ch;simp only[J3,J9] at ch;have aM:=(ac.f _ (JT bm)).2 f (by simp);obtain⟨hx,bp,bY⟩:=Sl.src (z:=1) h.at_.h (fun d hd=>by obtain⟨x,_,rfl⟩:=Ke.1 hd;rfl);have bu:=dQ h aY b9 bm bp bY;have bW:=bw bN aD bO aM;clear h aY b9 bm bp bY bN aD bO ac aM;dsimp only[SV.val];go_enter func47,ntmps47;exact g6
theorem mD{α:Type}{enc:α→D}{w:World}{P:Nat→Prop}:∀(l:List α) (xs:List Value),xs.length=l.length→(∀(j:Nat) (x:α),l[j]?=some x→∃u,xs[j]?=some u∧(enc x).rep w P [u])→D.aI w P (l.map enc) xs
 | [],[],_,_=>aJ.2 rfl
 | [],_::_,h,_=>by simp at h
 | _::_,[],h,_=>by simp at h
 | a::l,v::xs,h,hp=>by
  obtain⟨u,hu,aU⟩:=hp 0 a rfl;simp only[List.getElem?_cons_zero,Ki] at hu;subst hu;exact dq.2 ⟨[v],xs,rfl,aU,mD l xs (by simpa using h) fun j x hx=>by simpa using hp (j+1) x (by simpa using hx)⟩
section
variable {P:Nat→Prop} {B:Nat} {w ac:World} {s aV:ah} {k:Nat} {fs:List an} {f bP:an} {r:Nat} {q:SV} {O lb lc:Nat} {hx br:List Value} {IA:Kr} {ic:Nat} {bj:Kr} {y:Nat} {F1 F2 a8:List Nat}
theorem RO.IS(h:RO P B w s k fs f r q O lb lc hx br IA ic bj y F1 F2 a8):q.Is w (fun b=>P b∨(B≤b∧b<w.heap.size∧b≠r)) s:=by
 have N:=h.lo;have aK:∀b∈O::lb::(F1++(F2++a8)),P b∨(B≤b∧b<w.heap.size∧b≠r):=fun b hm=>.inr ⟨(N b (List.mem_cons_of_mem _ hm)).1,(N b (List.mem_cons_of_mem _ hm)).2,fun he=>(List.nodup_cons.1 h.nd).1 (he▸hm)⟩;have a:∀b,P b→P b∨(B≤b∧b<w.heap.size∧b≠r):=fun b O=>.inl O;refine⟨⟨?_,?_,?_⟩,h.g.cap,h.t.cap,h.h.cap⟩
 ·exact h.g.sl (cy _) (by rw[JU];exact h.gl.symm) fun b O=>aK b (by simp[O])
 ·exact h.t.sl (dD _) (by rw[JU];exact h.tl.symm) fun b O=>aK b (by simp[O])
 ·have aW:hx.length=s.threads.length:=by have:=h.h.row.1;rw[Nat.mul_one] at this;rw[this];exact h.hl
  refine h.h.sl (mD _ _ aW fun j x bc=>?_) (by rw[JU];exact h.hl.symm) fun b O=>aK b (by simp[Kh.1 O]);by_cases z:j=k
  ·subst z;have:=h.th.symm.trans bc;injection this with this;subst this;refine⟨_,h.yA,e5.2 ⟨_,_,_,rfl,h.l.cap,h.l.sl ?_ (by simp) fun b O=>aK b (by simp[Kh.1 O])⟩⟩;rw[JX];exact D.cA (D.bK a _ _ h.fr) (D.bj.2 (gO.2 ⟨_,_,_,_,_,_,rfl,h.i.cap,h.FR,h.i.sl (cy _) (by simp) fun b O=>aK b (by simp[O]),h.lk.mono a⟩))
  ·obtain⟨u,hu,aU⟩:=h.qw j x z bc;exact⟨u,hu,D.aF a _ _ aU⟩
theorem RO.is(h:RO P B w s k fs f r q O lb lc hx br IA ic bj y F1 F2 a8):q.Is w (fun b=>P b∨(B≤b∧b<w.heap.size)) s:=h.IS.mono fun b O=>O.imp id fun O=>⟨O.1,O.2.1⟩
theorem RO.H8(h:RO P B w s k fs f r q O lb lc hx br IA ic bj y F1 F2 a8){g:Nat}(aJ:g∈lb::(F1++(F2++a8)))(U:ac.heap.size=w.heap.size)(aj:∀b,b≠g→ac.heap[b]?=w.heap[b]?)
  (d:∀j,j≠k→aV.threads[j]?=s.threads[j]?) (aR:aV.threads[k]?=some (fs++[bP])) (bN:aV.globals.length=s.globals.length) (aD:aV.table.length=s.table.length) (bO:aV.threads.length=s.threads.length) (E:aV.fault=s.fault) (ch:bP.aw=f.aw)
  (hG:Own ac 3 1 q.GA q.gn q.gc (aV.globals.map eC) F1) (hT:Own ac 83 2 q.TA q.tn q.tc (aV.table.flatMap cz) F2)
  (bR:Own ac 100 4 (some ⟨lb,0,none⟩) (fs.length+1) lc (br++[.int .i64 bP.proc,.int .i64 bP.pc,.slice IA bP.ints.length ic,.slice bj bP.aw.length y]) [lb])
  (hI:Own ac 3 1 IA bP.ints.length ic (bP.ints.map eC) a8):RO P B ac aV k fs bP r q O lb lc hx br IA ic bj y F1 F2 a8:=by
 have n1:=List.nodup_cons.1 h.nd;have n2:=List.nodup_cons.1 n1.2;have a:r≠g:=fun he=>n1.1 (by rw[he];exact List.mem_cons_of_mem _ aJ);have c:O≠g:=fun he=>n2.1 (by rw[he];exact aJ);have c7:B≤g:=(h.lo g (by simp only[J6] at aJ ⊢;exact .inr (.inr aJ))).1;have am:∀b,P b→ac.heap[b]?=w.heap[b]?:=fun b O=>aj b (aH (h.pb b O));refine {th:=aR,gl:=h.gl.trans bN.symm,tl:=h.tl.trans aD.symm,hl:=h.hl.trans bO.symm,g:=hG,t:=hT,h:=h.h.aj fun b O=>aj b (by rw[Kh.1 O];exact c),sj:=h.sj,qw:=fun j cX bc cy=>?_,yA:=h.yA,l:=bR,fr:=D.bJ am _ _ h.fr,lk:=by rw[ch];exact h.lk.aj am,FR:=by rw[ch];exact h.FR,i:=hI,o:=?_,nd:=h.nd,lo:=fun b O=>by rw[U];exact h.lo b O,pb:=h.pb}
 ·obtain⟨u,hu,aU⟩:=h.qw j cX bc ((d j bc).symm.trans cy);exact⟨u,hu,D.aN am _ _ aU⟩
 ·have:=(aj r a).trans h.o;unfold SV.val at this ⊢
  rwa [E]
namespace BS
theorem u2(h:p:=by
 obtain⟨g,bk,-,-,-,-,hs⟩:=h.l.block ab;obtain rfl:lb=g:=by simpa using bk
 have aq:=hs (fs.length*4+1) (.int .i64 v) ab;rw[List.set_append_right _ _ ab,a,Nat.add_sub_cancel_left] at aq;exact h.H8 (g:=lb) (by simp) (by simp[World.setCell]) (fun b O=>aL O) (fun j bc=>by simp[Ne.symm bc]) (by simp[aw]) rfl rfl (by simp) rfl rfl
  (h.g.aj fun b O=>aL (hn b (by simp[O]))) (h.t.aj fun b O=>aL (hn b (by simp[O]))) aq (h.i.aj fun b O=>aL (hn b (by simp[O])))
 ):p:=h
end BS
open BS in
theorem RO.pc(h:RO P B w s k fs f r q O lb lc hx br IA ic bj y F1 F2 a8)(v:Int) :
  RO P B (w.setCell ⟨lb,fs.length*4+1,none⟩ (.int .i64 v)) {s with threads:=s.threads.set k (fs++[{f with pc:=v}])} k fs {f with pc:=v} r q O lb lc hx br IA ic bj y F1 F2 a8:=by
 have aw:=(List.getElem?_eq_some_iff.1 h.th).1;have n1:=List.nodup_cons.1 (List.nodup_cons.1 (List.nodup_cons.1 h.nd).2).2;have hn:∀b∈F1++(F2++a8),b≠lb:=fun b O he=>n1.1 (he▸O);exact u1
namespace BU
theorem u2(h:p:=by
 have J:k<q.hn:=by rw[h.hl];exact aw
 obtain⟨g,bk,-,hl,hc,aD,-⟩:=h.l.block ab;obtain rfl:lb=g:=by simpa using bk
 obtain⟨g2,bL,-,am,bJ,ay,-⟩:=h.h.block ab;obtain rfl:O=g2:=by have:=h.sj.symm.trans bL;simpa using this
 refine⟨hl,am,aD,ay,bJ _ _ h.yA,hc _ _ ?_,hc _ _ ?_,hc _ _ ?_,hc _ _ ?_,J⟩<;>rw[←a,List.getElem?_append_right ab]<;>simp
 ):p:=h
end BU
open BU in
theorem RO.top(h:RO P B w s k fs f r q O lb lc hx br IA ic bj y F1 F2 a8):lb<w.heap.size∧O<w.heap.size∧(∀j,w.frozen? ⟨lb,j,none⟩=false)∧(∀j,w.frozen? ⟨O,j,none⟩=false)∧w.cell? ⟨O,k,none⟩=some (.slice (some ⟨lb,0,none⟩) (fs.length+1) lc)∧w.cell? ⟨lb,fs.length*4,none⟩=some (.int .i64 f.proc)∧w.cell? ⟨lb,fs.length*4+1,none⟩=some (.int .i64 f.pc)∧
  w.cell? ⟨lb,fs.length*4+2,none⟩=some (.slice IA f.ints.length ic)∧w.cell? ⟨lb,fs.length*4+3,none⟩=some (.slice bj f.aw.length y)∧k<q.hn:=by
 have aw:=(List.getElem?_eq_some_iff.1 h.th).1;exact u1
theorem RO.ints(h:RO P B w s k fs f r q O lb lc hx br IA ic bj y F1 F2 a8){j:Nat}(bc:j<f.ints.length):∃H,IA=some ⟨H,0,none⟩∧H<w.heap.size∧w.frozen? ⟨H,j,none⟩=false∧(∃u,w.cell? ⟨H,j,none⟩=some u)∧H≠r∧B≤H∧
  ∀v,RO P B (w.setCell ⟨H,j,none⟩ (.int .i64 v)) {s with threads:=s.threads.set k (fs++[{f with ints:=f.ints.set j v}])} k fs {f with ints:=f.ints.set j v} r q O lb lc hx br IA ic bj y F1 F2 a8:=by
 have aw:=(List.getElem?_eq_some_iff.1 h.th).1;obtain⟨H,dr,rfl,aM,hc,aD,hs⟩:=h.i.block ab;have hm:H∈r::O::lb::(F1++(F2++[H])):=by simp
 have n1:=List.nodup_cons.1 h.nd;have hn:∀b∈lb::(F1++F2),b≠H:=by
  have:=ep (A:=lb::(F1++F2)) (B:=[]) (x:=H) (by simpa[J4] using (List.nodup_cons.1 n1.2).2);simpa using this
 refine⟨H,dr,aM,aD j,⟨_,hc j (eC f.ints[j]) (by simp[bc])⟩,fun he=>n1.1 (by rw[he];simp),(h.lo H hm).1,fun v=>?_⟩;have aq:=hs j (.int .i64 v) ab;refine h.H8 (g:=H) (by simp) (by simp[World.setCell]) (fun b O=>aL O) (fun j bc=>by simp[Ne.symm bc]) (by simp[aw]) rfl rfl (by simp) rfl rfl
  (h.g.aj fun b O=>aL (hn b (by simp[O]))) (h.t.aj fun b O=>aL (hn b (by simp[O]))) ?_ ?_
 ·simp only[List.length_set];exact h.l.aj fun b O=>aL (hn b (by simp[Kh.1 O]))
 ·simp only[List.length_set];rw[pE];exact aq
theorem RO.c8(h:RO P B w s k fs f r q O lb lc hx br IA ic bj y F1 F2 a8){j:Nat}(bc:j<q.gn):∃aB,q.GA=some ⟨aB,0,none⟩∧aB<w.heap.size∧w.frozen? ⟨aB,j,none⟩=false∧(∃u,w.cell? ⟨aB,j,none⟩=some u)∧aB≠r∧B≤aB∧
  ∀v,RO P B (w.setCell ⟨aB,j,none⟩ (.int .i64 v)) {s with globals:=s.globals.set j v} k fs f r q O lb lc hx br IA ic bj y F1 F2 a8:=by
 obtain⟨aB,a,rfl,bN,hc,aD,hs⟩:=h.g.block ab;have hm:aB∈r::O::lb::([aB]++(F2++a8)):=by simp
 have n1:=List.nodup_cons.1 h.nd;have hn:∀b∈lb::(F2++a8),b≠aB:=by
  have:=ep (A:=[lb]) (B:=F2++a8) (x:=aB) (by simpa using (List.nodup_cons.1 n1.2).2);simpa using this
 have aT:j<s.globals.length:=by rw[←h.gl];exact bc
 refine⟨aB,a,bN,aD j,⟨_,hc j (eC s.globals[j]) (by simp[aT])⟩,fun he=>n1.1 (by rw[he];simp),(h.lo aB hm).1,fun v=>?_⟩;have aq:=hs j (.int .i64 v) ab;rw[←show (.int .i64 v:Value)=.int .i64 v from rfl] at aq;refine h.H8 (g:=aB) (by simp) (by simp[World.setCell]) (fun b O=>aL O) (fun _ _=>rfl) h.th (by simp) rfl rfl rfl rfl
  ?_ (h.t.aj fun b O=>aL (hn b (by simp[O]))) (h.l.aj fun b O=>aL (hn b (by simp[Kh.1 O]))) (h.i.aj fun b O=>aL (hn b (by simp[O])))
 show Own _ 3 1 q.GA q.gn q.gc ((s.globals.set j v).map eC) [aB]
 rw[pE];exact aq
end
section
variable {P:Nat→Prop} {B:Nat} {w ac X:World} {s aV:ah} {k:Nat} {fs:List an} {f bP:an} {r:Nat} {q:SV} {O lb lc:Nat} {hx br:List Value} {IA:Kr} {ic:Nat} {bj:Kr} {y:Nat} {F1 F2 a8:List Nat}
theorem RO.sep(h:RO P B w s k fs f r q O lb lc hx br IA ic bj y F1 F2 a8):r≠O∧r≠lb∧O≠lb∧(∀b∈F1++(F2++a8),b≠r∧b≠O∧b≠lb)∧∀b,P b→b<w.heap.size∧b≠r∧b≠O∧b≠lb:=by
 have n1:=List.nodup_cons.1 h.nd;have n2:=List.nodup_cons.1 n1.2;have n3:=List.nodup_cons.1 n2.2;refine⟨fun he=>n1.1 (by rw[he];simp),fun he=>n1.1 (by rw[he];simp),fun he=>n2.1 (by rw[he];simp),fun b hm=>⟨fun he=>n1.1 (he▸?_),fun he=>n2.1 (he▸?_),fun he=>n3.1 (he▸hm)⟩,fun b hm=>?_⟩
 ·exact List.mem_cons_of_mem _ (List.mem_cons_of_mem _ hm)
 ·exact List.mem_cons_of_mem _ hm
 ·have ae:=h.pb b hm;have aC:=h.lo r (by simp);have aT:=h.lo O (by simp);have a9:=h.lo lb (by simp);omega
theorem RO.fin(h:RO P B w s k fs f r q O lb lc hx br IA ic bj y F1 F2 a8)(U:w.heap.size≤X.heap.size)(aj:∀b,b<w.heap.size→b≠O→b≠lb→X.heap[b]?=w.heap[b]?){T:List an}{v:Value}
  (vq:Own X 52 1 q.HA q.hn q.hc (hx.set k v) [O]) (bD:(mg T).rep X (fun b=>P b∨(B≤b∧b<X.heap.size)) [v]) :
  q.Is X (fun b=>P b∨(B≤b∧b<X.heap.size)) {s with threads:=s.threads.set k T}∧af X r 30 (q.val s):=by
 obtain⟨d1,d2,d3,n,g⟩:=h.sep;have N:=h.lo;have aK:∀b∈r::O::lb::(F1++(F2++a8)),P b∨(B≤b∧b<X.heap.size):=fun b O=>.inr ⟨(N b O).1,by have:=(N b O).2;omega⟩;have i:∀b∈F1++(F2++a8),X.heap[b]?=w.heap[b]?:=fun b O=>aj b (N b (List.mem_cons_of_mem _ (List.mem_cons_of_mem _ (List.mem_cons_of_mem _ O)))).2 (n b O).2.1 (n b O).2.2;have am:∀b,P b→X.heap[b]?=w.heap[b]?:=fun b O=>aj b (g b O).1 (g b O).2.2.1 (g b O).2.2.2;have a:∀b,P b→P b∨(B≤b∧b<X.heap.size):=fun b O=>.inl O;have aW:hx.length=s.threads.length:=by have:=h.h.row.1;rw[Nat.mul_one] at this;rw[this];exact h.hl
 have aw:=(List.getElem?_eq_some_iff.1 h.th).1;refine⟨⟨⟨?_,?_,?_⟩,h.g.cap,h.t.cap,h.h.cap⟩,(aj r (N r (by simp)).2 d1 d2).trans h.o⟩
 ·exact(h.g.aj fun b O=>i b (by simp[O])).sl (cy _) (by rw[JU];exact h.gl.symm) fun b O=>aK b (by simp[O])
 ·exact(h.t.aj fun b O=>i b (by simp[O])).sl (dD _) (by rw[JU];exact h.tl.symm) fun b O=>aK b (by simp[O])
 ·refine vq.sl (mD _ _ (by simpa using aW) fun j x bc=>?_) (by simp only[JU,List.length_set];exact h.hl.symm) fun b O=>aK b (by simp[Kh.1 O]);by_cases z:j=k
  ·subst z;rw[List.getElem?_set_self aw] at bc;injection bc with bc;subst bc;exact⟨v,List.getElem?_set_self ab,bD⟩
  ·rw[List.getElem?_set_ne (Ne.symm z)] at bc;obtain⟨u,hu,aU⟩:=h.qw j x z bc;exact⟨u,by rw[List.getElem?_set_ne (Ne.symm z)];exact hu,D.aF a _ _ (D.aN am _ _ aU)⟩
theorem RO.vq(h:RO P B w s k fs f r q O lb lc hx br IA ic bj y F1 F2 a8)(v:Value):Own (w.setCell ⟨O,k,none⟩ v) 52 1 q.HA q.hn q.hc (hx.set k v) [O]:=by
 have aw:=(List.getElem?_eq_some_iff.1 h.th).1;have J:k<q.hn:=by rw[h.hl];exact aw
 obtain⟨g2,bL,-,-,-,-,hs⟩:=h.h.block ab;obtain rfl:O=g2:=by have:=h.sj.symm.trans bL;simpa using this
 exact hs k v ab
namespace BV
theorem u2(h:p:=by
 have hc:=h.l.cap;have hl:=(h.l.shorter (m:=fs.length) ab ab).aj (ac:=X) fun b O=>aB b (by rw[Kh.1 O];exact Ne.symm d3);rw[List.take_append_of_le_length ab,JY ab] at hl;refine h.fin ab (fun b _ ae _=>aB b ae) (by rw[←hX];exact h.vq _) (e5.2 ⟨_,fs.length,lc,rfl,ab,hl.sl (D.bK (fun b O=>.inl O) _ _ (D.bJ (fun b O=>aB b (g b O).2.2.1) _ _ h.fr)) (by simp) fun b aW=>.inr ?_⟩);rw[Kh.1 aW,co];exact h.lo lb (by simp)
 ):p:=h
end BV
open BV in
theorem RO.drop(h:RO P B w s k fs f r q O lb lc hx br IA ic bj y F1 F2 a8)(hX:w.setCell ⟨O,k,none⟩ (.slice (some ⟨lb,0,none⟩) fs.length lc)=X) :
  q.Is X (fun b=>P b∨(B≤b∧b<X.heap.size)) {s with threads:=s.threads.set k fs}∧af X r 30 (q.val s):=by
 obtain⟨d1,d2,d3,n,g⟩:=h.sep;have co:X.heap.size=w.heap.size:=by rw[←hX];simp[World.setCell]
 have aB:∀b,b≠O→X.heap[b]?=w.heap[b]?:=fun b O=>by rw[←hX];exact aL O
 exact u1
theorem RO.push(h:RO P B w s k fs f r q O lb lc hx br IA ic bj y F1 F2 a8){cs:List Value}(bh:(hh Y).rep w t cs)(c:∀b,t b→B≤b∧b<w.heap.size∧b≠O∧b≠lb)
  {I:Kr} {az:Nat} {aO:World} (aU:Own aO 100 4 I (fs.length+2) az (br++[.int .i64 f.proc,.int .i64 f.pc,.slice IA f.ints.length ic,.slice bj f.aw.length y]++cs) (bt I (fs.length+2) az))
  (H:Fr (fun b=>b=lb) w aO) (T:∀b∈bt I (fs.length+2) az,b=lb∨(w.heap.size≤b∧b<aO.heap.size)) (hX:aO.setCell ⟨O,k,none⟩ (.slice I (fs.length+2) az)=X) :
  q.Is X (fun b=>P b∨(B≤b∧b<X.heap.size)) {s with threads:=s.threads.set k (fs++[f]++[Y])}∧af X r 30 (q.val s):=by
 obtain⟨d1,d2,d3,n,g⟩:=h.sep;have bz:=H.size;have co:X.heap.size=aO.heap.size:=by rw[←hX];simp[World.setCell]
 have aB:∀b,b<w.heap.size→b≠O→b≠lb→X.heap[b]?=w.heap[b]?:=fun b hl ae aC=>by rw[←hX];exact(aL ae).trans (H.block b hl aC)
 have aX:=(h.lo O (by simp)).2;have d:∀b∈bt I (fs.length+2) az,b≠O:=fun b aW=>by
  rcases T b aW with ae|ae
  ·rw[ae];exact Ne.symm d3
  ·omega
 have e:=aU.aj (ac:=X) fun b aW=>by rw[←hX];exact aL (d b aW)
 have am:∀b,P b→X.heap[b]?=w.heap[b]?:=fun b O=>aB b (g b O).1 (g b O).2.2.1 (g b O).2.2.2;have a:∀b,P b→P b∨(B≤b∧b<X.heap.size):=fun b O=>.inl O;have aK:∀b∈r::O::lb::(F1++(F2++a8)),P b∨(B≤b∧b<X.heap.size):=fun b O=>.inr ⟨(h.lo b O).1,by have:=(h.lo b O).2;omega⟩;have al:=h.i.aj (ac:=X) fun b O=>aB b (h.lo b (by simp[O])).2 (n b (by simp[O])).2.1 (n b (by simp[O])).2.2;have vq:Own X 52 1 q.HA q.hn q.hc (hx.set k (.slice I (fs.length+2) az)) [O]:=by
  have ae:Own aO 52 1 q.HA q.hn q.hc hx [O]:=h.h.aj fun b aW=>H.block b (by rw[Kh.1 aW];exact aX) (by rw[Kh.1 aW];exact d3);have aw:=(List.getElem?_eq_some_iff.1 h.th).1;have J:k<q.hn:=by rw[h.hl];exact aw
  obtain⟨g2,bL,-,-,-,-,hs⟩:=ae.block ab;obtain rfl:O=g2:=by have:=h.sj.symm.trans bL;simpa using this
  rw[←hX];exact hs k _ ab
 refine h.fin ab aB vq (e5.2 ⟨_,_,_,rfl,e.cap,e.sl ?_ (by simp) fun b aW=>?_⟩)
 ·rw[JX,JX];refine D.cA (D.cA (D.bK a _ _ (D.bJ am _ _ h.fr)) (D.bj.2 (gO.2 ⟨_,_,_,_,_,_,rfl,h.i.cap,h.FR,al.sl (cy _) (by simp) fun b O=>aK b (by simp[O]),(h.lk.aj am).mono a⟩))) (D.bj.2 ?_);exact D.aF (fun b O=>.inr (⟨(c b O).1,by have:=(c b O).2.1;omega⟩:B≤b∧b<X.heap.size)) _ _ (D.aN (fun b O=>aB b (c b O).2.1 (c b O).2.2.1 (c b O).2.2.2) _ _ bh)
 ·rcases T b aW with ae|ae
  ·rw[ae];exact aK lb (by simp)
  ·have:=(h.lo O (by simp));exact .inr ⟨ab,ab⟩
end
section
variable {P:Nat→Prop} {B:Nat} {w ac X:World} {s aV:ah} {k:Nat} {fs:List an} {f bP:an} {r:Nat} {q:SV} {O lb lc:Nat} {hx br:List Value} {IA:Kr} {ic:Nat} {bj:Kr} {y:Nat} {F1 F2 a8:List Nat}
theorem RO.HT(h:RO P B w s k fs f r q O lb lc hx br IA ic bj y F1 F2 a8){PT:Nat→Prop}{I:Kr}{aZ az:Nat}{T:List db}(hT:Sl w PT I aZ (T.map me))(hn:aZ≤az)(a:∀b,PT b→P b∨(B≤b∧b<w.heap.size∧b≠r))(hX:w.setCell ⟨r,1,none⟩ (.slice I aZ az)=X):
  let aq:SV:=⟨q.GA,q.gn,q.gc,I,aZ,az,q.HA,q.hn,q.hc⟩
  let aV:ah:={s with table:=T}
  aq.Is X (fun b=>P b∨(B≤b∧b<X.heap.size)) aV∧af X r 30 (aq.val aV):=by
 intro aq aV;have co:X.heap.size=w.heap.size:=by rw[←hX];simp[World.setCell]
 have aj:∀b,(P b∨(B≤b∧b<w.heap.size∧b≠r))→X.heap[b]?=w.heap[b]?:=fun b hm=>by
  rw[←hX];refine aL ?_;rcases hm with hm|hm
  ·exact(h.sep.2.2.2.2 b hm).2.1
  ·exact hm.2.2
 have al:=h.IS.aj aj;have hm:∀b,(P b∨(B≤b∧b<w.heap.size∧b≠r))→P b∨(B≤b∧b<X.heap.size):=fun b O=>O.imp id fun O=>⟨O.1,by rw[co];exact O.2.1⟩
 refine⟨⟨⟨al.at_.g.mono hm,(hT.aj fun b O=>aj b (a b O)).mono fun b O=>hm b (a b O),al.at_.h.mono hm⟩,al.gc,hn,al.hc⟩,?_⟩;rw[←hX];exact h.o.aC 1 _
namespace BW
theorem z1(h:p:=by
 have cV:=h.lo r (by simp);have cY:=h.lo O (by simp);have bo:=h.lo lb (by simp);have aB:∀b,b<aN.heap.size→b≠r→b≠O→X.heap[b]?=aN.heap[b]?:=fun b aw a1 aT=>by
  rw[←hX];exact(aL a1).trans (aD.block b aw aT)
 have m:∀b,b<w.heap.size→b≠r→b≠O→X.heap[b]?=w.heap[b]?:=fun b aw a1 aT=>(aB b ab a1 aT).trans (aG.block b aw fun h=>h);have am:∀b,P b→X.heap[b]?=w.heap[b]?:=fun b hm=>m b (g b hm).1 (g b hm).2.1 (g b hm).2.2.1;have i:∀b∈F1++(F2++a8),X.heap[b]?=w.heap[b]?:=fun b hm=>m b (h.lo b (List.mem_cons_of_mem _ (List.mem_cons_of_mem _ (List.mem_cons_of_mem _ hm)))).2 (n b hm).1 (n b hm).2.1;have a:∀b,P b→P b∨(B≤b∧b<X.heap.size):=fun b hm=>.inl hm;have aK:∀b∈r::O::lb::(F1++(F2++a8)),P b∨(B≤b∧b<X.heap.size):=fun b hm=>.inr ⟨(h.lo b hm).1,by have:=(h.lo b hm).2;omega⟩;have o:af X w.heap.size 100 #[c0,c1,c2,c3]:=(aB _ ab ab ab).trans A;have ch:(hh Y).rep X (fun b=>P b∨(B≤b∧b<X.heap.size)) [c0,c1,c2,c3]:=D.aF (fun b hm=>.inr (⟨(c b hm).1,by have:=(c b hm).2.1;omega⟩:B≤b∧b<X.heap.size)) _ _ (D.aN (fun b hm=>m b (c b hm).2.1 (c b hm).2.2.2 (c b hm).2.2.1) _ _ bh);have bT:Sl X (fun b=>P b∨(B≤b∧b<X.heap.size)) (some ⟨w.heap.size,0,none⟩) 1 ([Y].map hh):=⟨rfl,fun _=>⟨w.heap.size,0,[c0,c1,c2,c3],rfl,.inr ⟨ab,ab⟩,by simp only[JW,Kd];exact D.bj.2 ch,fun j u hu=>by
  rw[J8,o.cell];simpa using hu⟩⟩
 have d:∀b∈bt I (q.hn+1) az,b≠r:=fun b hm=>by
  rcases T b hm with ae|ae
  ·rw[ae];exact Ne.symm d1
  ·omega
 have e:=aU.aj (ac:=X) fun b hm=>by rw[←hX];exact aL (d b hm)
 have hl:=h.l.aj (ac:=X) fun b hm=>by rw[Kh.1 hm];exact m lb bo.2 (Ne.symm d2) (Ne.symm d3)
 have al:=h.i.aj (ac:=X) fun b hm=>i b (by simp[hm]);have aW:hx.length=s.threads.length:=by have:=h.h.row.1;rw[Nat.mul_one] at this;rw[this];exact h.hl
 refine⟨⟨⟨?_,?_,?_⟩,h.g.cap,h.t.cap,e.cap⟩,?_⟩
 ·exact(h.g.aj fun b hm=>i b (by simp[hm])).sl (cy _) (by rw[JU];exact h.gl.symm) fun b hm=>aK b (by simp[hm])
 ·exact(h.t.aj fun b hm=>i b (by simp[hm])).sl (dD _) (by rw[JU];exact h.tl.symm) fun b hm=>aK b (by simp[hm])
 ·refine e.sl (l:=(s.threads++[[Y]]).map mg) ?_ (by simp[h.hl]) fun b hm=>?_
  ·rw[JX];refine D.cA (mD _ _ aW fun j x bc=>?_) (D.bj.2 (e5.2 ⟨_,1,1,rfl,JQ _,bT⟩));by_cases z:j=k
   ·subst z;have:=h.th.symm.trans bc;injection this with this;subst this;refine⟨_,h.yA,e5.2 ⟨_,_,_,rfl,h.l.cap,hl.sl ?_ (by simp) fun b hm=>aK b (by simp[Kh.1 hm])⟩⟩;rw[JX];exact D.cA (D.bK a _ _ (D.bJ am _ _ h.fr)) (D.bj.2 (gO.2 ⟨_,_,_,_,_,_,rfl,h.i.cap,h.FR,al.sl (cy _) (by simp) fun b hm=>aK b (by simp[hm]),(h.lk.aj am).mono a⟩))
   ·obtain⟨u,hu,aU⟩:=h.qw j x z bc;exact⟨u,hu,D.aF a _ _ (D.aN am _ _ aU)⟩
  ·rcases T b hm with ae|ae
   ·rw[ae];exact aK O (by simp)
   ·exact .inr ⟨ab,ab⟩
 ·have:=(h.o.ak aG).on aD d1;rw[←hX];exact this.aC 2 _
 ):p:=h
end BW
open BW in
theorem RO.start(h:RO P B w s k fs f r q O lb lc hx br IA ic bj y F1 F2 a8){c0 c1 c2 c3:Value}(bh:(hh Y).rep w t [c0,c1,c2,c3])(c:∀b,t b→B≤b∧b<w.heap.size∧b≠O∧b≠r)
  {aN aO:World} (aX:w.alloc (.cells #[c0,c1,c2,c3] 100)=aN) {I:Kr} {az:Nat}
  (aU:Own aO 52 1 I (q.hn+1) az (hx++[.slice (some ⟨w.heap.size,0,none⟩) 1 1]) (bt I (q.hn+1) az)) (aD:Fr (fun b=>b=O) aN aO) (T:∀b∈bt I (q.hn+1) az,b=O∨(aN.heap.size≤b∧b<aO.heap.size))
  (hX:aO.setCell ⟨r,2,none⟩ (.slice I (q.hn+1) az)=X) :
  let aq:SV:=⟨q.GA,q.gn,q.gc,q.TA,q.tn,q.tc,I,q.hn+1,az⟩
  let aV:ah:={s with threads:=s.threads++[[Y]]}
  aq.Is X (fun b=>P b∨(B≤b∧b<X.heap.size)) aV∧af X r 30 (aq.val aV):=by
 intro aq aV;obtain⟨d1,d2,d3,n,g⟩:=h.sep;exact z0
end
end Go.Proofs.YtbkhhfajcgkpgaaGreat

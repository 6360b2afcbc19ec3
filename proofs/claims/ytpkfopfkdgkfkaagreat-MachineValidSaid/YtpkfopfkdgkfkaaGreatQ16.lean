/- Part 16 of the proof. No condition of its own. -/
import Derived.Test.YtpkfopfkdgkfkaaGreatQ15
namespace Go.Proofs.YtpkfopfkdgkfkaaGreat
open Go.RowKit Go.Proofs.Tryz
set_option maxRecDepth 1000000
set_option maxHeartbeats 25600000
set_option linter.unusedVariables false
variable{b:Bool}{y:Nat->Prop}{p:Prop}{Z:World}{R:al}
structure RO(P:Nat->Prop)(B:Nat)(w:World)(s:ak)(k:Nat)(fs:List al)(f:al)(N:Nat)(q:SV)(O lb lc:Nat)(hx b0:List Value)(IA:Mt)(ic:Nat)(bw:Mt)(aH:Nat)(F1 F2 a4:List Nat):Prop where
 th:s.threads[k]?=some (fs++[f])
 gl:q.gn=s.globals.length
 tl:q.tn=s.table.length
 hl:q.hn=s.threads.length
 g:Own w 3 1 q.GA q.gn q.gc (s.globals.map cW) F1
 t:Own w 79 2 q.TA q.tn q.tc (s.table.flatMap bO) F2
 h:Own w 46 1 q.HA q.hn q.hc hx [O]
 lH:q.HA=some ⟨O,0,none⟩
 oE:∀j cM,j≠k->s.threads[j]?=some cM->∃u,hx[j]?=some u/\(fI cM).rep w P [u]
 zq:hx[k]?=some (.slice (some ⟨lb,0,none⟩) (fs.length+1) lc)
 l:Own w 50 4 (some ⟨lb,0,none⟩) (fs.length+1) lc (b0++[.int .i64 f.proc,.int .i64 f.pc,.slice IA f.ints.length ic,.slice bw f.an.length aH]) [lb]
 fr:D.aM w P (fs.map dh) b0
 lk:Sl w P bw f.an.length (f.an.map D.i)
 HO:f.an.length<=aH
 i:Own w 3 1 IA f.ints.length ic (f.ints.map cW) a4
 o:au w N 26 (q.val s)
 nd:(N::O::lb::(F1++(F2++a4))).Nodup
 lo:∀b∈N::O::lb::(F1++(F2++a4)),B<=b/\b<w.heap.size
 pb:∀b,P b->b<B
def Jh(P:Nat->Prop)(w:World)(s:ak)(k:Nat)(fs:List al)(f:al)(e:Ending)(ab:World):Prop:=∃q O lb lc hx b0 IA ic bw aH F1 F2 a4,e=.returned (.agg (q.val s))/\Ext w ab/\
 ∀V N,Ext ab V->au V N 26 (q.val s)->ab.heap.size<=N->RO P w.heap.size V s k fs f N q O lb lc hx b0 IA ic bw aH F1 F2 a4
namespace DB
theorem fy(h:p:=by
 refine ch ?_;generalize hX:World.setCell _ _ _=X;obtain⟨bN,b4⟩:=jG 0 [.slice cR gn c1,.slice A2 tn c2,.slice cC hn c3,.int .i64 s.fault] c5 hX;have bp:au X N 26 #[.slice cR gn c1,.slice A2 tn c2,.slice cC hn c3,.int .i64 s.fault]:=bN;have bi:∀k∈F1++(F2++bL),k≠N:=by
  have:=eQ (A:=F1++(F2++bL)) (B:=[]) (x:=N) (by simpa using aW);simpa using this
 have cn:∀k,k∈F1++(F2++bL)->k∈F1++(F2++(bL++[N])):=λk aj=>by
  simp only[LU] at aj ⊢;rcases aj with aj|aj|aj
  .exact .inl aj
  .exact .inr (.inl aj)
  .exact .inr (.inr (.inl aj))
 have ao:∀k∈F1++(F2++bL),X.heap[k]?=V.heap[k]?:=λk aj=>b4.block k (bv k (cn k aj)).2 (bi k aj);have bu:Ext W X:=Fr.low (M:=λb=>b=N) (Fr.trans (Fr.mono bo λ_ h=>h.elim) b4) λb O=>by rw[O];exact cl.1
 have aN:=gr (b3.ai λk aj=>ao k (by simp[aj])) (aM.ai λk aj=>ao k (by simp[aj])) (aK.ai λk aj=>ao k (by simp[aj])) bp aW (λk aj=>(⟨(bv k aj).1,by have:=(bv k aj).2;have:=b4.size;omega⟩:W.heap.size<=k/\k<X.heap.size)) bu;obtain⟨a0,ai,af⟩:=(ah.2.1.aj bu).two;have aG:Ext w X:=ah.1.trans bu;have n:∀b,P b->X.heap[b]?=w.heap[b]?:=λb O=>aG.block b (bt.2.1 b O) λh=>h;obtain⟨dA,d3,cY,FA,m,fc,b5,T,r,dj,aC,bJ⟩:=bt.1.at_.h.m4 (k:=t.toNat) (by show t.toNat<hn;omega);simp only at b5;subst b5;have dB:cY=fs++[f]:=by have:=bt.2.2.2.1;rw[r] at this;injection this
 subst dB;obtain rfl:m=fs.length+1:=by have:=bJ.1;simpa using this.symm
 have dJ:=(aG.cell (j:=d3+t.toNat) (bt.2.1 _ T) λh=>h).trans dj;have dt:=bJ.ai n;have cj:dA<X:=by have:=bt.2.1 _ T;have:=aG.size;omega
 have cp:∀d∈(fs++[f]).map dh,d.sz=4:=λd hd=>by obtain⟨x,_,rfl⟩:=Mf.1 hd;rfl
 obtain⟨dR,bV,aA⟩:=Sl.src (z:=4) dt cp;rw[LR] at bV;obtain⟨bb,cP,rfl,bG,aL⟩:=D.kd bV;obtain⟨IA,ii,ic,bw,dO,aH,rfl,cH,cx,dy,cf⟩:=c7.1 (D.bg.1 aL);have du:bb.length=fs.length*4:=by rw[D.hy _ _ bG,D.g7 (z:=4) (λd hd=>by obtain⟨x,_,rfl⟩:=Mf.1 hd;rfl),LO]
 obtain rfl:ii=f.ints.length:=by have:=dy.1;simpa using this.symm
 obtain rfl:dO=f.an.length:=by have:=cf.1;simpa using this.symm
 have e6:=bX.2.2.2;have bx:FA=none->fs.length+1=0:=λh=>by subst h;exact dt.none_
 have hIn:IA=none->f.ints.length=0:=λh=>by subst h;exact dy.none_
 have cD:cw (EF cO) 1 X X IA f.ints.length f.ints:=(dy.mono (de:=aq X) λb O=>by have:=bt.2.1 b O;have:=aG.size;show b<X.heap.size;omega).ints;have bC:=dm bG cf cx cD aG du;have bf:=az aA bx hIn;obtain⟨aE,cL,a2,dF,b7,cc,cg⟩:=aN.2.2.1.block ad;subst cL;have cX:=bF a2 b7 cc cg;clear e0 be a6 hX bN b4 bp bi cn ao b3 aM aK c5 aW bv bo r T dj bJ n cp bV aL bG cf dy cH cx cD aA bx hIn aG bu a2 b7 cc cg dt aC;go_upto_region 3 with(at_builtin;refine db _ tN (by rfl) (.tmp 22) (.tmp 28) (by rfl) (by rfl) _ _ _ _ (by rfl) bf.1 ad ad bf.2.1 ?_;intro dG bW aS aO b0;have H1:=ag aO b0;clear aO b0);have cq:=H1.2.size;obtain⟨lb,dp,dn,bP,ct,dq,cu⟩:=g1 H1.1 ad;subst dp;have d2:aS.cell? ⟨lb,fs.length*4+2,none⟩=some (.slice IA f.ints.length ic):=ct _ _ (by rw[<-bC.2.2.2.2.2,List.getElem?_append_right ad,Nat.add_sub_cancel_left];rfl);have bT:Src aS 1 IA f.ints.length (f.ints.map cW):=by
  have:=Src.jL (bC.2.2.2.1.cZ H1.2 H1.2.size) (gA _) (iO _) ad
  rwa [n9] at this
 have b6:=az bT dn cu;have cy:=dq;clear bT cu ct;go_upto_region 4 with(at_builtin;refine db _ cF (by rfl) (.tmp 34) (.tmp 41) (by rfl) (by rfl) _ _ _ _ (by rfl) b6.1 ad ad bf.2.2 ?_;intro cE cT aT S bj;have bc:=ag S bj;obtain⟨f0,dN,dQ⟩:aT.cell? ⟨lb,fs.length*4+2,none⟩=some (.slice IA f.ints.length ic)/\(∀j,aT.frozen? ⟨lb,j,none⟩=false)/\lb<aT:=⟨((Fr.of (M:=λ_=>False) bj).cell bP λh=>h).trans d2,λj=>((Fr.of (M:=λ_=>False) bj).frozen bP λh=>h).trans (cy j),LL bP bj.size⟩;clear S bj);generalize co:World.setCell _ _ _=Y;obtain⟨dC,bQ,-,-,-,-,bS⟩:=g1 (b2 H1.1 bc.2) ad;obtain rfl:lb=dC:=by simpa using bQ
 have df:Y.ownsRow X 50 4 (.slice (some ⟨lb,0,none⟩) (fs.length+1) bW) (fs.length+1) ((bb++[Value.int .i64 f.proc,.int .i64 f.pc,.slice IA f.ints.length ic,.slice bw f.an.length aH]).set (fs.length*4+2) (.slice cE f.ints.length cT)):=by
  rw[<-co];exact bS _ _ ad
 have ar:Fr (λb=>b=lb) aT Y:=co▸(Fr.refl (λb=>b=lb) _).setCell (.inl rfl) _;have cZ:Ext X Y:=Fr.low (M:=λb=>b=lb) (Fr.trans (Fr.trans (Fr.of H1.2) (Fr.of (Below.mono bc.2 (LK _)))) ar) λb O=>by rw[O];exact b6.2.1
 have bE:∀b∈br cE f.ints.length cT,aS.heap.size<=b/\b<aT.heap.size:=λb O=>bc.1.lt b (by simpa using O);have c6:Own Y 3 1 cE f.ints.length cT (f.ints.map cW) (br cE f.ints.length cT):=Own.ai (w:=aT) ⟨hr bc.1 (Md _),rfl⟩ λb O=>ar.block b (bE b O).2 (ay (bE b O));have ci:∀b∈br cE f.ints.length cT,aS.heap.size<=b/\b<Y.heap.size:=λb O=>⟨(bE b O).1,LL (bE b O).2 ar.size⟩
 have cQ:=aN.2.2.1.aj cZ;have bh:=aN.2.2.2.1.aj cZ;obtain⟨e0,be,a6⟩:=bh.two;have aY:hx.length=hn:=by
  rw[D.hy _ _ bt.2.2.2.2.1,D.g7 (z:=1) (λd hd=>by obtain⟨x,_,rfl⟩:=Mf.1 hd;rfl),LO,Nat.mul_one];exact bX.2.2.1
 obtain⟨aJ,am,-,dz,bH,b9,bI⟩:=cQ.block ad;obtain rfl:aE=aJ:=by simpa using am
 obtain⟨dP,dr⟩:∃u,hx[t.toNat]?=some u:=⟨_,List.getElem?_eq_getElem ad⟩
 have dd:=bH t.toNat dP dr;have dM:lb<Y:=LL dQ ar.size;have dI:=cZ.size;have dL:=b6.2.1;have aI:=px df cZ c6 ci cQ bh aY bI;clear dr co bQ bS df ar cZ bE c6 ci cQ bh am bH bI f0 dN d2 cy aY;go_upto_region 5 with(fail);generalize cG:World.setCell _ _ _=Z;have aW:=aN.2.2.2.2.1;have ab:=aN.2.2.2.2.2.1;rw[cX.1] at aW ab;have bi:∀b∈F1++F2++[N],b≠aE:=eQ (A:=F1++F2) (B:=[N]) (x:=aE) (by simpa using aW);have c0:Own Z 46 1 (some ⟨aE,0,none⟩) hn c3 (hx.set t.toNat (.slice (some ⟨lb,0,none⟩) (fs.length+1) bW)) bL:=cG▸aI.2.2.2.2.2.2.2 t.toNat _ ad;have aQ:Fr (λb=>b=aE) Y Z:=cG▸(Fr.refl (λb=>b=aE) _).setCell (.inl rfl) _;have cU:∀b,b<X.heap.size->b≠aE->Z.heap[b]?=X.heap[b]?:=λb O hn=>(aQ.block b (LL O aI.2.1.size) hn).trans (aI.2.1.block b O λh=>h);have bn:=aN.1.ai λb O=>cU b (ab b (by simp[O])).2 (bi b (by simp[O]));have di:=aN.2.1.ai λb O=>cU b (ab b (by simp[O])).2 (bi b (by simp[O]));have L:(bb++[Value.int .i64 f.proc,.int .i64 f.pc,.slice IA f.ints.length ic,.slice bw f.an.length aH]).set (fs.length*4+2) (.slice cE f.ints.length cT)=bb++[Value.int .i64 f.proc,.int .i64 f.pc,.slice cE f.ints.length cT,.slice bw f.an.length aH]:=by
  have:=bC.2.2.2.2.2;rw[List.set_append_right _ _ ad,this,Nat.add_sub_cancel_left];rfl
 have dg:Own Z 50 4 (some ⟨lb,0,none⟩) (fs.length+1) bW (bb++[Value.int .i64 f.proc,.int .i64 f.pc,.slice cE f.ints.length cT,.slice bw f.an.length aH]) [lb]:=by
  rw[<-L];exact Own.ai (w:=Y) ⟨hr aI.1 (Md _),rfl⟩ λb O=>aQ.block b (ay (Mi.1 O)) (ay (Mi.1 O))
 have ci:=aI.2.2.2.1;have da:=aI.2.2.1.ai λb O=>aQ.block b (ci b O).2 (ay (ci b O));have bs:=aI.2.2.2.2.2.1.on aQ (bi N (by simp));have bm:Ext W Z:=Fr.low (M:=λb=>b=aE) (Fr.trans (Fr.mono (aN.2.2.2.2.2.2.trans aI.2.1) λ_ h=>h.elim) aQ) λb O=>by rw[O];exact(ab aE (by simp)).1
 have bZ:=ah.2.2.1.aj bm;have a9:Ext w Z:=ah.1.trans bm;have y:∀b∈aE::lb::(F1++(F2++br cE f.ints.length cT)),W<=b/\b<Z:=by
  have ac:=aN.2.2.2.2.2.2.size;have ap:=aQ.size;intro b O;rcases L5.1 O with O|O
  .have:=ab aE (by simp);omega
  rcases L5.1 O with O|O
  .omega
  rcases LU.1 O with O|O
  .have:=ab b (by simp[O]);omega
  rcases LU.1 O with O|O
  .have:=ab b (by simp[O]);omega
  .have:=ci b O;omega
 have aX:(aE::lb::(F1++(F2++br cE f.ints.length cT))).Nodup:=by
  have dE:(F1++F2).Nodup:=by have:=aW;rw[<-List.append_assoc] at this;exact(List.nodup_append.1 this).1
  have cJ:(F1++F2++br cE f.ints.length cT).Nodup:=List.nodup_append.2 ⟨dE,ff _ _ _,λa aZ b O h=>by
   have aV:=ci b O;have bz:a<X:=(ab a (by rcases LU.1 aZ with h|h<;>simp[h])).2;omega⟩
  rw[L3] at cJ;refine List.nodup_cons.2 ⟨λh=>?_,List.nodup_cons.2 ⟨λh=>?_,cJ⟩⟩
  .rcases L5.1 h with O|O
   .omega
   rcases LU.1 O with O|O
   .exact bi aE (by simp[O]) rfl
   rcases LU.1 O with O|O
   .exact bi aE (by simp[O]) rfl
   .have:=ci aE O;omega
  .rcases LU.1 h with O|O
   .have:=ab lb (by simp[O]);omega
   rcases LU.1 O with O|O
   .have:=ab lb (by simp[O]);omega
   .have:=ci lb O;omega
 have aY:=aI.2.2.2.2.2.2.1;obtain⟨e0,be,a6⟩:=bs.two;obtain⟨bl,aD,aP⟩:=bZ.two;have bk:=z9 bn di c0 dg da bZ a9 y aX aY;clear cG aW ab bi c0 aQ cU bn di L dg ci da bs bm bZ a9 y aX aY dd b9;go_wp2_with(fail);generalize hU:World.setCell _ _ _=U;obtain⟨c8,cr,bq⟩:=bA (w:=w) [.slice cR gn c1,.slice A2 tn c2,.slice (some ⟨aE,0,none⟩) hn c3,.int .i64 s.fault] (by rfl) bk.2.2.2.2.2.1 bk.2.2.2.2.2.2.1 ad hU;have cB:=ag cr bq;clear hU cr bq e0 be a6 bl aD aP;obtain⟨bl,aD,aP⟩:=c8.two;refine Mn (v:=.agg #[.slice cR gn c1,.slice A2 tn c2,.slice (some ⟨aE,0,none⟩) hn c3,.int .i64 s.fault]) (by simp[results,Tryz.results77,go_sem,bl]) rfl ?_;obtain⟨hG,hT,hH,bD,hI,-,-,y,aX,aY⟩:=bk.o;refine⟨⟨cR,gn,c1,A2,tn,c2,some ⟨aE,0,none⟩,hn,c3⟩,aE,lb,bW,hx.set t.toNat (.slice (some ⟨lb,0,none⟩) (fs.length+1) bW),bb,cE,cT,bw,aH,F1,F2,br cE f.ints.length cT,rfl,cB.1,λV dH bo b8 dK=>?_⟩;have bq:=cB.2;have cV:=bq.size;have ds:=bo.size;have dv:∀b,W.heap.size<=b->b<Z.heap.size->V.heap[b]?=Z.heap[b]?:=λb ac ap=>(bo.block b ad λh=>h).trans (bq.block b ap ad);have c4:∀b,P b->V.heap[b]?=w.heap[b]?:=λb O=>(cB.1.trans bo).block b (bt.2.1 b O) λh=>h;have cK:∀b,P b->V.heap[b]?=X.heap[b]?:=λb O=>(c4 b O).trans (bC.2.2.2.2.1.block b (bt.2.1 b O) λh=>h).symm;have aR:∀b∈aE::lb::(F1++(F2++br cE f.ints.length cT)),V.heap[b]?=Z.heap[b]?:=λb O=>dv b (y b O).1 (y b O).2;have a2:=cX.1;have dw:t.toNat<hx.length:=ad
 refine {th:=bt.2.2.2.1,gl:=bX.1.symm,tl:=bX.2.1.symm,hl:=bX.2.2.1.symm,g:=hG.ai λb O=>aR b (by simp[O]),t:=hT.ai λb O=>aR b (by simp[O]),h:=?_,lH:=rfl,oE:=λj cM bd bU=>?_,zq:=by simp[dw],l:=bD.ai λb O=>aR b (by simp[Mi.1 O]),fr:=D.bG cK _ _ bC.1,lk:=bC.2.1.ai cK,HO:=bC.2.2.1,i:=hI.ai λb O=>aR b (by simp[O]),o:=b8,nd:=?_,lo:=λb O=>?_,pb:=bt.2.1}
 .rw[<-a2];exact hH.ai λb O=>aR b (by rw[a2] at O;simp[Mi.1 O])
 .obtain⟨cs,a5,cz,cb⟩:=D.mX (z:=1) bt.2.2.2.2.1 (λd hd=>by obtain⟨x,_,rfl⟩:=Mf.1 hd;rfl) (k:=j) (d:=fI cM) (by rw[List.getElem?_map,bU];rfl);obtain⟨u,rfl⟩:=List.length_eq_one_iff.1 cz;have h0:=cb 0 u rfl;simp only[Nat.mul_one,LW] at h0;exact⟨u,by rw[List.getElem?_set_ne (λh=>bd h.symm)];exact h0,D.aS c4 _ _ a5⟩
 .exact List.nodup_cons.2 ⟨λh=>by have:=y dH h;omega,aX⟩
 .rcases L5.1 O with O|O
  .subst O;exact⟨ad,b8.lt⟩
  .have:=y b O;omega
 ):p:=h
end DB
open DB in
theorem GH(P:Nat->Prop)(s:ak)(t:Int)(fs:List al)(f:al)(q:SV)(w:World)(h:q.Is w P s)(bg:∀b,P b->b<w.heap.size)(b1:Small s)(dl:0<=t)(bK:s.threads[t.toNat]?=some (fs++[f])) :
  Calls prog 77 #[.agg (q.val s),t] w (Jh P w s t.toNat fs f):=by
 obtain⟨GA,gn,gc,TA,tn,tc,HA,hn,hc⟩:=q;have ca:=h.ok bg;have cl:s.globals.length=gn:=by have ac:=h.at_.g.1;rw[LO] at ac;exact ac
 have cA:s.table.length=tn:=by have ac:=h.at_.t.1;rw[LO] at ac;exact ac
 have bB:s.threads.length=hn:=by have ac:=h.at_.h.1;rw[LO] at ac;exact ac
 have sZ:gn<=100000:=by have:=b1.g;omega
 have ud:tn<=100000:=by have:=b1.t;omega
 have nv:hn<=100000:=by have:=b1.h;omega
 have dD:t<(hn:Int):=by have:=(List.getElem?_eq_some_iff.1 bK).1;omega
 have ce:=(b1.f _ (LN bK)).1;rw[LM] at ce;simp only[LZ,Ma] at ce;have c9:=(b1.f _ (LN bK)).2 f (by simp);obtain⟨hx,cm,ck⟩:=Sl.src (z:=1) h.at_.h (λd hd=>by obtain⟨x,_,rfl⟩:=Mf.1 hd;rfl);have bt:=dm h bg ca bK cm ck;have bX:=bF cl cA bB c9;clear h bg ca bK cm ck cl cA bB b1 c9;dsimp only[SV.val];go_enter func77,ntmps77;go_upto_region 1 with(fail);generalize ba:World.alloc _ _=W;have aw:=h9 ba;have bM:=gb ba;have cv:=fG ba;have ah:=bF aw bM cv (bt.2.2.1.on aw);have cN:=aw.size;have dx:=cv.lt;obtain⟨a0,ai,af⟩:=bM.two;obtain⟨ws,od⟩:∃ws,ws=W.heap.size:=⟨_,rfl⟩
 have bY:w<ws:=ad;have aU:=ae od;clear ba aw bM cv od;refine r0 (λb=>¬b<ws) [16] (.free 1 (.held 2 (.free 5 (.held 6 (.free 9 (.held 10 (.free 12 (.held 13 (jn 8 0 0 0 false))))))))) ?_;refine tf ?_;refine oI ?_;refine tf ?_;refine oI ?_;refine tf ?_;refine oI ?_;refine tf ?_;refine oI ?_;refine F6 (W:=W) (s:=s) (gn:=gn) (tn:=tn) (hn:=hn) (gc:=gc) (tc:=tc) (hc:=hc) (GA:=GA) (TA:=TA) (HA:=HA) (hx:=hx) (ws:=ws) (p0:=?Lg) (a0:=?KY) (p3:=?Lo) (a3:=?K6) (p4:=?LB) (a4:=?Lv) (p7:=?Lp) (a7:=?K7) (p8:=?Lq) (a8:=?K8) (p11:=?Lh) (a11:=?KZ) (p15:=?Li) (a15:=?K0) (t15:=?Lr) (aa:=(λa1 dc v10 v11 ax aF aB=>⟨#[.agg #[.slice GA gn gc,.slice TA tn tc,.slice HA hn hc,.int .i64 s.fault],t,.pointer (some ⟨w,0,none⟩),undef,.pointer (some ⟨w.heap.size+1,0,none⟩),a1,undef,dc,.pointer (some ⟨w,0,none⟩),.slice GA gn gc,v10,v11,.pointer (some ⟨w,1,none⟩),.slice TA tn tc,ax,aF,.pointer (some ⟨w,2,none⟩),.slice HA hn hc,aB,.pointer (some ⟨w,3,none⟩),.int .i64 s.fault,undef,undef,undef,undef,undef,undef,undef,undef,undef,undef,undef,undef,undef,undef,undef,undef,undef,undef,undef,undef,undef,undef,undef,undef,undef,undef,undef,undef,undef,undef,undef],[]⟩)) ?hG ?hT ?hH ?Kg ?sZ ?ud ?nv ?od ?o0 ?o3 ?o4 ?o7 ?o8 ?Kj ?Kk ?q5 ?q7 ?FM ?JO ?Ku ?Kv ?Kw ?e7 ?e9 ?J8 ?J9 ?Ka ?Kb ?kz 8 0 0 0 false ?n1 ?n2 ?n3 ?n4 ?n5 ?n6 undef undef undef undef undef undef undef [] [] [] [] W.drew ?start
 case hG=>exact ah.2.2.2.at_.g
 case hT=>exact ah.2.2.2.at_.t
 case hH=>exact bt.2.2.2.2.2.on (Fr.ext ah.1)
 case Kg=>exact λh=>by subst h;exact ah.2.2.2.at_.h.none_
 case sZ=>exact sZ
 case ud=>exact ud
 case nv=>exact nv
 case od=>have:=aU.o;omega
 case o0=>rfl
 case o3=>rfl
 case o4=>rfl
 case o7=>rfl
 case o8=>rfl
 case Kj=>rfl
 case Kk=>rfl
 case q5=>intro _ _ _ _ _ _ _ _;rfl
 case q7=>intro _ _ _ _ _ _ _ _;rfl
 case FM=>intro _ _ _ _ _ _ _ _;rfl
 case JO=>intro _ _ _ _ _ _ _ _;rfl
 case Ku=>intro _ _ _ _ _ _ _ _;rfl
 case Kv=>intro _ _ _ _ _ _ _ _;rfl
 case Kw=>intro _ _ _ _ _ _ _ _;rfl
 case e7=>intro _ _ _ _ _ _ _;rfl
 case e9=>intro _ _ _ _ _ _ _;rfl
 case J8=>intro _ _ _ _ _ _ _;rfl
 case J9=>intro _ _ _ _ _ _ _;rfl
 case Ka=>intro _ _ _ _ _ _ _;rfl
 case Kb=>intro _ _ _ _ _ _ _;rfl
 case n1=>omega
 case n2=>omega
 case n3=>omega
 case n4=>omega
 case n5=>omega
 case n6=>simp
 case start=>exact⟨Mo.drew,.inl ⟨rfl,rfl,rfl,rfl⟩,.inl ⟨rfl,rfl,rfl,rfl⟩,.inl ⟨rfl,rfl,rfl,rfl⟩,.inl ⟨rfl,rfl,rfl⟩,by simp,λk aj=>by simp at aj⟩
 case kz=>
  intro b a1 dc v10 v11 ax aF aB F1 F2 bL cd V hC;obtain⟨cR,c1,rfl,b3⟩:∃A c,v10=.slice A gn c/\Own V 3 1 A gn c (s.globals.map cW) F1:=by
   rcases hC.g with⟨h,_⟩|⟨h,_⟩|⟨_,h⟩
   .cases h
   .cases h
   .exact h
  obtain⟨A2,c2,rfl,aM⟩:∃A c,ax=.slice A tn c/\Own V 79 2 A tn c (s.table.flatMap bO) F2:=by
   rcases hC.t with⟨h,_⟩|⟨h,_⟩|⟨_,h⟩
   .cases h
   .cases h
   .exact h
  obtain⟨cC,c3,rfl,aK⟩:∃A c,aB=.slice A hn c/\Own V 46 1 A hn c hx bL:=by
   rcases hC.h with⟨h,_⟩|⟨h,_⟩|⟨_,h⟩
   .cases h
   .cases h
   .exact h
  refine tf ?_;refine xq (P:=?P1) (ops:=?LA) (Q:=?LF) (R:=?LH) (tails:=?LJ) (rest:=.pick [16] (λ_=>.stop)) (aa:=?Lx) (C:=λ(N:Nat) V=>Ext W V/\Own V 3 1 cR gn c1 (s.globals.map cW) F1/\Own V 79 2 A2 tn c2 (s.table.flatMap bO) F2/\Own V 46 1 cC hn c3 hx bL/\au V N 26 #[(),(),(),(0:Int)]/\(F1++(F2++(bL++[N]))).Nodup/\∀k∈F1++(F2++(bL++[N])),W<=k/\k<V.heap.size) (λkey=>?main) ?key
  case main=>
   rcases hC.o with⟨rfl,rfl,bz⟩|⟨rfl,N,rfl,bz,cI⟩
   .subst bz;show cS _ _ _ _ _ (.pick [15] λ_=>.pick [16] λ_=>.stop) _ _
    refine av ?_;refine eu ?_;have an:∀k∈F1++(F2++(bL++[])),k<V.heap.size:=λk aj=>(hC.lo k aj).2;have hD:Ext W (V.alloc (.cells #[(),(),(),(0:Int)] 26))/\Own (V.alloc (.cells #[(),(),(),(0:Int)] 26)) 3 1 cR gn c1 (s.globals.map cW) F1/\Own (V.alloc (.cells #[(),(),(),(0:Int)] 26)) 79 2 A2 tn c2 (s.table.flatMap bO) F2/\Own (V.alloc (.cells #[(),(),(),(0:Int)] 26)) 46 1 cC hn c3 hx bL/\au (V.alloc (.cells #[(),(),(),(0:Int)] 26)) V 26 #[(),(),(),(0:Int)]/\(F1++(F2++(bL++[V.heap.size]))).Nodup/\∀k∈F1++(F2++(bL++[V.heap.size])),W.heap.size<=k/\k<(V.alloc (.cells #[(),(),(),(0:Int)] 26)).heap.size:=by
     refine⟨hC.ext.alloc _,b3.aj (Mo.alloc _),aM.aj (Mo.alloc _),aK.aj (Mo.alloc _),Mp,?_,λk aj=>?_⟩
     .have:=qj (F1:=F1++(F2++bL)) (F2:=[]) (by simpa using hC.nd) (by simpa using an);simpa using this
     .rw[World.kV];have ds:=hC.ext.size;rcases hj.dw.1 aj with aj|aj|aj|aj
      .have:=hC.lo k (hj.dw.2 (.inl aj));omega
      .have:=hC.lo k (hj.dw.2 (.inr (.inl aj)));omega
      .have:=hC.lo k (hj.dw.2 (.inr (.inr (.inl aj))));omega
      .have:=Mi.1 aj;omega
    generalize V.alloc (.cells #[(),(),(),(0:Int)] 26)=dk at hD ⊢;generalize V.heap.size=N at hD ⊢;exact key N dk hD
   .subst bz;show cS _ _ _ _ _ (.pick [16] λ_=>.stop) _ _
    exact key N V ⟨hC.ext,b3,aM,aK,cI,hC.nd,hC.lo⟩
  clear hC b3 aM aK V b;intro N V ⟨bo,b3,aM,aK,c5,aW,bv⟩;obtain⟨e0,be,a6⟩:=c5.two;have cl:=bv N (by simp);clear a0 ai af;exact fQ
theorem mZ{α:Type}{enc:α->D}{w:World}{P:Nat->Prop}:∀(l:List α) (xs:List Value),xs.length=l.length->(∀(j:Nat) (x:α),l[j]?=some x->∃u,xs[j]?=some u/\(enc x).rep w P [u])->D.aM w P (l.map enc) xs
 | [],[],_,_=>aR.2 rfl
 | [],_::_,h,_=>by simp at h
 | _::_,[],h,_=>by simp at h
 | a::l,v::xs,h,hp=>by
  obtain⟨u,hu,a5⟩:=hp 0 a rfl;simp only[List.getElem?_cons_zero,Mj] at hu;subst hu;exact dL.2 ⟨[v],xs,rfl,a5,mZ l xs (by simpa using h) λj x hx=>by simpa using hp (j+1) x (by simpa using hx)⟩
section
variable {P:Nat->Prop} {B:Nat} {w ab:World} {s Q:ak} {k:Nat} {fs:List al} {f S:al} {N:Nat} {q:SV} {O lb lc:Nat} {hx b0:List Value} {IA:Mt} {ic:Nat} {bw:Mt} {aH:Nat} {F1 F2 a4:List Nat}
theorem RO.KO(h:RO P B w s k fs f N q O lb lc hx b0 IA ic bw aH F1 F2 a4):q.Is w (λb=>P b\/(B<=b/\b<w.heap.size/\b≠N)) s:=by
 have bv:=h.lo;have a6:∀b∈O::lb::(F1++(F2++a4)),P b\/(B<=b/\b<w.heap.size/\b≠N):=λb hm=>.inr ⟨(bv b (List.mem_cons_of_mem _ hm)).1,(bv b (List.mem_cons_of_mem _ hm)).2,λhe=>(List.nodup_cons.1 h.nd).1 (he▸hm)⟩;have a:∀b,P b->P b\/(B<=b/\b<w.heap.size/\b≠N):=λb O=>.inl O;refine⟨⟨?_,?_,?_⟩,h.g.cap,h.t.cap,h.h.cap⟩
 .exact h.g.sl (bX _) (by rw[LO];exact h.gl.symm) λb O=>a6 b (by simp[O])
 .exact h.t.sl (dH _) (by rw[LO];exact h.tl.symm) λb O=>a6 b (by simp[O])
 .have aY:hx.length=s.threads.length:=by have:=h.h.row.1;rw[Nat.mul_one] at this;rw[this];exact h.hl
  refine h.h.sl (mZ _ _ aY λj x bd=>?_) (by rw[LO];exact h.hl.symm) λb O=>a6 b (by simp[Mi.1 O]);by_cases ag:j=k
  .subst ag;have:=h.th.symm.trans bd;injection this with this;subst this;refine⟨_,h.zq,dn.2 ⟨_,_,_,rfl,h.l.cap,h.l.sl ?_ (by simp) λb O=>a6 b (by simp[Mi.1 O])⟩⟩;rw[LR];exact D.cA (D.bK a _ _ h.fr) (D.bg.2 (c7.2 ⟨_,_,_,_,_,_,rfl,h.i.cap,h.HO,h.i.sl (bX _) (by simp) λb O=>a6 b (by simp[O]),h.lk.mono a⟩))
  .obtain⟨u,hu,a5⟩:=h.oE j x ag bd;exact⟨u,hu,D.aK a _ _ a5⟩
theorem RO.is(h:RO P B w s k fs f N q O lb lc hx b0 IA ic bw aH F1 F2 a4):q.Is w (λb=>P b\/(B<=b/\b<w.heap.size)) s:=h.KO.mono λb O=>O.imp id λO=>⟨O.1,O.2.1⟩
theorem RO.J7(h:RO P B w s k fs f N q O lb lc hx b0 IA ic bw aH F1 F2 a4){g:Nat}(aR:g∈lb::(F1++(F2++a4)))(U:ab.heap.size=w.heap.size)(aj:∀b,b≠g->ab.heap[b]?=w.heap[b]?)
  (c:∀j,j≠k->Q.threads[j]?=s.threads[j]?) (aM:Q.threads[k]?=some (fs++[S])) (cl:Q.globals.length=s.globals.length) (cA:Q.table.length=s.table.length) (bB:Q.threads.length=s.threads.length) (E:Q.fault=s.fault) (ce:S.an=f.an)
  (hG:Own ab 3 1 q.GA q.gn q.gc (Q.globals.map cW) F1) (hT:Own ab 79 2 q.TA q.tn q.tc (Q.table.flatMap bO) F2)
  (bD:Own ab 50 4 (some ⟨lb,0,none⟩) (fs.length+1) lc (b0++[.int .i64 S.proc,.int .i64 S.pc,.slice IA S.ints.length ic,.slice bw S.an.length aH]) [lb])
  (hI:Own ab 3 1 IA S.ints.length ic (S.ints.map cW) a4):RO P B ab Q k fs S N q O lb lc hx b0 IA ic bw aH F1 F2 a4:=by
 have n1:=List.nodup_cons.1 h.nd;have n2:=List.nodup_cons.1 n1.2;have am:N≠g:=λhe=>n1.1 (by rw[he];exact List.mem_cons_of_mem _ aR);have a:O≠g:=λhe=>n2.1 (by rw[he];exact aR);have dg:B<=g:=(h.lo g (by simp only[L5] at aR ⊢;exact .inr (.inr aR))).1;have n:∀b,P b->ab.heap[b]?=w.heap[b]?:=λb O=>aj b (ay (h.pb b O));refine {th:=aM,gl:=h.gl.trans cl.symm,tl:=h.tl.trans cA.symm,hl:=h.hl.trans bB.symm,g:=hG,t:=hT,h:=h.h.ai λb O=>aj b (by rw[Mi.1 O];exact a),lH:=h.lH,oE:=λj cM bd bU=>?_,zq:=h.zq,l:=bD,fr:=D.bG n _ _ h.fr,lk:=by rw[ce];exact h.lk.ai n,HO:=by rw[ce];exact h.HO,i:=hI,o:=?_,nd:=h.nd,lo:=λb O=>by rw[U];exact h.lo b O,pb:=h.pb}
 .obtain⟨u,hu,a5⟩:=h.oE j cM bd ((c j bd).symm.trans bU);exact⟨u,hu,D.aS n _ _ a5⟩
 .have:=(aj N am).trans h.o;unfold SV.val at this ⊢
  rwa [E]
namespace DC
theorem vM(h:p:=by
 obtain⟨g,bG,-,-,-,-,hs⟩:=h.l.block ad;obtain rfl:lb=g:=by simpa using bG
 have L:=hs (fs.length*4+1) v ad;rw[List.set_append_right _ _ ad,a3,Nat.add_sub_cancel_left] at L;exact h.J7 (g:=lb) (by simp) (by simp[World.setCell]) (λb O=>aQ O) (λj bd=>by simp[Ne.symm bd]) (by simp[an]) rfl rfl (by simp) rfl rfl
  (h.g.ai λb O=>aQ (hn b (by simp[O]))) (h.t.ai λb O=>aQ (hn b (by simp[O]))) L (h.i.ai λb O=>aQ (hn b (by simp[O])))
 ):p:=h
end DC
open DC in
theorem RO.pc(h:RO P B w s k fs f N q O lb lc hx b0 IA ic bw aH F1 F2 a4)(v:Int) :
  RO P B (w.setCell ⟨lb,fs.length*4+1,none⟩ v) {s with threads:=s.threads.set k (fs++[{f with pc:=v}])} k fs {f with pc:=v} N q O lb lc hx b0 IA ic bw aH F1 F2 a4:=by
 have an:=(List.getElem?_eq_some_iff.1 h.th).1;have n1:=List.nodup_cons.1 (List.nodup_cons.1 (List.nodup_cons.1 h.nd).2).2;have hn:∀b∈F1++(F2++a4),b≠lb:=λb O he=>n1.1 (he▸O);exact vL
namespace DD
theorem vM(h:p:=by
 have a8:k<q.hn:=by rw[h.hl];exact an
 obtain⟨g,bG,-,hl,hc,J,-⟩:=h.l.block ad;obtain rfl:lb=g:=by simpa using bG
 obtain⟨g2,Z,-,bc,cb,aC,-⟩:=h.h.block ad;obtain rfl:O=g2:=by have:=h.lH.symm.trans Z;simpa using this
 refine⟨hl,bc,J,aC,cb _ _ h.zq,hc _ _ ?_,hc _ _ ?_,hc _ _ ?_,hc _ _ ?_,a8⟩<;>rw[<-a3,List.getElem?_append_right ad]<;>simp
 ):p:=h
end DD
open DD in
theorem RO.top(h:RO P B w s k fs f N q O lb lc hx b0 IA ic bw aH F1 F2 a4):lb<w.heap.size/\O<w/\(∀j,w.frozen? ⟨lb,j,none⟩=false)/\(∀j,w.frozen? ⟨O,j,none⟩=false)/\w.cell? ⟨O,k,none⟩=some (.slice (some ⟨lb,0,none⟩) (fs.length+1) lc)/\w.cell? ⟨lb,fs.length*4,none⟩=some (.int .i64 f.proc)/\w.cell? ⟨lb,fs.length*4+1,none⟩=some (.int .i64 f.pc)/\
  w.cell? ⟨lb,fs.length*4+2,none⟩=some (.slice IA f.ints.length ic)/\w.cell? ⟨lb,fs.length*4+3,none⟩=some (.slice bw f.an.length aH)/\k<q.hn:=by
 have an:=(List.getElem?_eq_some_iff.1 h.th).1;exact vL
theorem RO.ints(h:RO P B w s k fs f N q O lb lc hx b0 IA ic bw aH F1 F2 a4){j:Nat}(bd:j<f.ints.length):∃T,IA=some ⟨T,0,none⟩/\T<w.heap.size/\w.frozen? ⟨T,j,none⟩=false/\(∃u,w.cell? ⟨T,j,none⟩=some u)/\T≠N/\B<=T/\
  ∀v,RO P B (w.setCell ⟨T,j,none⟩ (.int .i64 v)) {s with threads:=s.threads.set k (fs++[{f with ints:=f.ints.set j v}])} k fs {f with ints:=f.ints.set j v} N q O lb lc hx b0 IA ic bw aH F1 F2 a4:=by
 have an:=(List.getElem?_eq_some_iff.1 h.th).1;obtain⟨T,dk,rfl,c9,hc,J,hs⟩:=h.i.block ad;have hm:T∈N::O::lb::(F1++(F2++[T])):=by simp
 have n1:=List.nodup_cons.1 h.nd;have hn:∀b∈lb::(F1++F2),b≠T:=by
  have:=eQ (A:=lb::(F1++F2)) (B:=[]) (x:=T) (by simpa[L3] using (List.nodup_cons.1 n1.2).2);simpa using this
 refine⟨T,dk,c9,J j,⟨_,hc j (cW f.ints[j]) (by simp[bd])⟩,λhe=>n1.1 (by rw[he];simp),(h.lo T hm).1,λv=>?_⟩;have L:=hs j (.int .i64 v) ad;refine h.J7 (g:=T) (by simp) (by simp[World.setCell]) (λb O=>aQ O) (λj bd=>by simp[Ne.symm bd]) (by simp[an]) rfl rfl (by simp) rfl rfl
  (h.g.ai λb O=>aQ (hn b (by simp[O]))) (h.t.ai λb O=>aQ (hn b (by simp[O]))) ?_ ?_
 .simp only[List.length_set];exact h.l.ai λb O=>aQ (hn b (by simp[Mi.1 O]))
 .simp only[List.length_set];rw[qd];exact L
theorem RO.dv(h:RO P B w s k fs f N q O lb lc hx b0 IA ic bw aH F1 F2 a4){j:Nat}(bd:j<q.gn):∃ct,q.GA=some ⟨ct,0,none⟩/\ct<w.heap.size/\w.frozen? ⟨ct,j,none⟩=false/\(∃u,w.cell? ⟨ct,j,none⟩=some u)/\ct≠N/\B<=ct/\
  ∀v,RO P B (w.setCell ⟨ct,j,none⟩ (.int .i64 v)) {s with globals:=s.globals.set j v} k fs f N q O lb lc hx b0 IA ic bw aH F1 F2 a4:=by
 obtain⟨ct,y,rfl,cl,hc,J,hs⟩:=h.g.block ad;have hm:ct∈N::O::lb::([ct]++(F2++a4)):=by simp
 have n1:=List.nodup_cons.1 h.nd;have hn:∀b∈lb::(F2++a4),b≠ct:=by
  have:=eQ (A:=[lb]) (B:=F2++a4) (x:=ct) (by simpa using (List.nodup_cons.1 n1.2).2);simpa using this
 have bt:j<s.globals.length:=by rw[<-h.gl];exact bd
 refine⟨ct,y,cl,J j,⟨_,hc j (cW s.globals[j]) (by simp[bt])⟩,λhe=>n1.1 (by rw[he];simp),(h.lo ct hm).1,λv=>?_⟩;have L:=hs j (.int .i64 v) ad;rw[<-show (.int .i64 v:Value)=.int .i64 v from rfl] at L;refine h.J7 (g:=ct) (by simp) (by simp[World.setCell]) (λb O=>aQ O) (λ_ _=>rfl) h.th (by simp) rfl rfl rfl rfl
  ?_ (h.t.ai λb O=>aQ (hn b (by simp[O]))) (h.l.ai λb O=>aQ (hn b (by simp[Mi.1 O]))) (h.i.ai λb O=>aQ (hn b (by simp[O])))
 show Own _ 3 1 q.GA q.gn q.gc ((s.globals.set j v).map cW) [ct]
 rw[qd];exact L
end
section
variable {P:Nat->Prop} {B:Nat} {w ab X:World} {s Q:ak} {k:Nat} {fs:List al} {f S:al} {N:Nat} {q:SV} {O lb lc:Nat} {hx b0:List Value} {IA:Mt} {ic:Nat} {bw:Mt} {aH:Nat} {F1 F2 a4:List Nat}
theorem RO.sep(h:RO P B w s k fs f N q O lb lc hx b0 IA ic bw aH F1 F2 a4):N≠O/\N≠lb/\O≠lb/\(∀b∈F1++(F2++a4),b≠N/\b≠O/\b≠lb)/\∀b,P b->b<w.heap.size/\b≠N/\b≠O/\b≠lb:=by
 have n1:=List.nodup_cons.1 h.nd;have n2:=List.nodup_cons.1 n1.2;have n3:=List.nodup_cons.1 n2.2;refine⟨λhe=>n1.1 (by rw[he];simp),λhe=>n1.1 (by rw[he];simp),λhe=>n2.1 (by rw[he];simp),λb hm=>⟨λhe=>n1.1 (he▸?_),λhe=>n2.1 (he▸?_),λhe=>n3.1 (he▸hm)⟩,λb hm=>?_⟩
 .exact List.mem_cons_of_mem _ (List.mem_cons_of_mem _ hm)
 .exact List.mem_cons_of_mem _ hm
 .have ac:=h.pb b hm;have ap:=h.lo N (by simp);have aV:=h.lo O (by simp);have bz:=h.lo lb (by simp);omega
theorem RO.fin(h:RO P B w s k fs f N q O lb lc hx b0 IA ic bw aH F1 F2 a4)(U:w.heap.size<=X.heap.size)(aj:∀b,b<w.heap.size->b≠O->b≠lb->X.heap[b]?=w.heap[b]?){T:List al}{v:Value}
  (wq:Own X 46 1 q.HA q.hn q.hc (hx.set k v) [O]) (bE:(fI T).rep X (λb=>P b\/(B<=b/\b<X.heap.size)) [v]) :
  q.Is X (λb=>P b\/(B<=b/\b<X.heap.size)) {s with threads:=s.threads.set k T}/\au X N 26 (q.val s):=by
 obtain⟨d1,d2,d3,o,g⟩:=h.sep;have bv:=h.lo;have a6:∀b∈N::O::lb::(F1++(F2++a4)),P b\/(B<=b/\b<X.heap.size):=λb O=>.inr ⟨(bv b O).1,by have:=(bv b O).2;omega⟩;have i:∀b∈F1++(F2++a4),X.heap[b]?=w.heap[b]?:=λb O=>aj b (bv b (List.mem_cons_of_mem _ (List.mem_cons_of_mem _ (List.mem_cons_of_mem _ O)))).2 (o b O).2.1 (o b O).2.2;have n:∀b,P b->X.heap[b]?=w.heap[b]?:=λb O=>aj b (g b O).1 (g b O).2.2.1 (g b O).2.2.2;have a:∀b,P b->P b\/(B<=b/\b<X.heap.size):=λb O=>.inl O;have aY:hx.length=s.threads.length:=by have:=h.h.row.1;rw[Nat.mul_one] at this;rw[this];exact h.hl
 have an:=(List.getElem?_eq_some_iff.1 h.th).1;refine⟨⟨⟨?_,?_,?_⟩,h.g.cap,h.t.cap,h.h.cap⟩,(aj N (bv N (by simp)).2 d1 d2).trans h.o⟩
 .exact(h.g.ai λb O=>i b (by simp[O])).sl (bX _) (by rw[LO];exact h.gl.symm) λb O=>a6 b (by simp[O])
 .exact(h.t.ai λb O=>i b (by simp[O])).sl (dH _) (by rw[LO];exact h.tl.symm) λb O=>a6 b (by simp[O])
 .refine wq.sl (mZ _ _ (by simpa using aY) λj x bd=>?_) (by simp only[LO,List.length_set];exact h.hl.symm) λb O=>a6 b (by simp[Mi.1 O]);by_cases ag:j=k
  .subst ag;rw[List.getElem?_set_self an] at bd;injection bd with bd;subst bd;exact⟨v,List.getElem?_set_self ad,bE⟩
  .rw[List.getElem?_set_ne (Ne.symm ag)] at bd;obtain⟨u,hu,a5⟩:=h.oE j x ag bd;exact⟨u,by rw[List.getElem?_set_ne (Ne.symm ag)];exact hu,D.aK a _ _ (D.aS n _ _ a5)⟩
theorem RO.wq(h:RO P B w s k fs f N q O lb lc hx b0 IA ic bw aH F1 F2 a4)(v:Value):Own (w.setCell ⟨O,k,none⟩ v) 46 1 q.HA q.hn q.hc (hx.set k v) [O]:=by
 have an:=(List.getElem?_eq_some_iff.1 h.th).1;have a8:k<q.hn:=by rw[h.hl];exact an
 obtain⟨g2,Z,-,-,-,-,hs⟩:=h.h.block ad;obtain rfl:O=g2:=by have:=h.lH.symm.trans Z;simpa using this
 exact hs k v ad
namespace DF
theorem vM(h:p:=by
 have hc:=h.l.cap;have hl:=(h.l.shorter (m:=fs.length) ad ad).ai (ab:=X) λb O=>ao b (by rw[Mi.1 O];exact Ne.symm d3);rw[List.take_append_of_le_length ad,LS ad] at hl;refine h.fin ad (λb _ ac _=>ao b ac) (by rw[<-hX];exact h.wq _) (dn.2 ⟨_,fs.length,lc,rfl,ad,hl.sl (D.bK (λb O=>.inl O) _ _ (D.bG (λb O=>ao b (g b O).2.2.1) _ _ h.fr)) (by simp) λb a1=>.inr ?_⟩);rw[Mi.1 a1,cr];exact h.lo lb (by simp)
 ):p:=h
end DF
open DF in
theorem RO.drop(h:RO P B w s k fs f N q O lb lc hx b0 IA ic bw aH F1 F2 a4)(hX:w.setCell ⟨O,k,none⟩ (.slice (some ⟨lb,0,none⟩) fs.length lc)=X) :
  q.Is X (λb=>P b\/(B<=b/\b<X.heap.size)) {s with threads:=s.threads.set k fs}/\au X N 26 (q.val s):=by
 obtain⟨d1,d2,d3,o,g⟩:=h.sep;have cr:X=w.heap.size:=by rw[<-hX];simp[World.setCell]
 have ao:∀b,b≠O->X.heap[b]?=w.heap[b]?:=λb O=>by rw[<-hX];exact aQ O
 exact vL
theorem RO.push(h:RO P B w s k fs f N q O lb lc hx b0 IA ic bw aH F1 F2 a4){cs:List Value}(cY:(dh R).rep w y cs)(c:∀b,y b->B<=b/\b<w.heap.size/\b≠O/\b≠lb)
  {I:Mt} {aE:Nat} {aT:World} (a5:Own aT 50 4 I (fs.length+2) aE (b0++[.int .i64 f.proc,.int .i64 f.pc,.slice IA f.ints.length ic,.slice bw f.an.length aH]++cs) (br I (fs.length+2) aE))
  (cg:Fr (λb=>b=lb) w aT) (r:∀b∈br I (fs.length+2) aE,b=lb\/(w.heap.size<=b/\b<aT.heap.size)) (hX:aT.setCell ⟨O,k,none⟩ (.slice I (fs.length+2) aE)=X) :
  q.Is X (λb=>P b\/(B<=b/\b<X.heap.size)) {s with threads:=s.threads.set k (fs++[f]++[R])}/\au X N 26 (q.val s):=by
 obtain⟨d1,d2,d3,o,g⟩:=h.sep;have bS:=cg.size;have cr:X=aT.heap.size:=by rw[<-hX];simp[World.setCell]
 have ao:∀b,b<w.heap.size->b≠O->b≠lb->X.heap[b]?=w.heap[b]?:=λb hl ac ap=>by rw[<-hX];exact(aQ ac).trans (cg.block b hl ap)
 have T:=(h.lo O (by simp)).2;have d:∀b∈br I (fs.length+2) aE,b≠O:=λb a1=>by
  rcases r b a1 with ac|ac
  .rw[ac];exact Ne.symm d3
  .omega
 have e:=a5.ai (ab:=X) λb a1=>by rw[<-hX];exact aQ (d b a1)
 have n:∀b,P b->X.heap[b]?=w.heap[b]?:=λb O=>ao b (g b O).1 (g b O).2.2.1 (g b O).2.2.2;have a:∀b,P b->P b\/(B<=b/\b<X.heap.size):=λb O=>.inl O;have a6:∀b∈N::O::lb::(F1++(F2++a4)),P b\/(B<=b/\b<X.heap.size):=λb O=>.inr ⟨(h.lo b O).1,by have:=(h.lo b O).2;omega⟩;have aX:=h.i.ai (ab:=X) λb O=>ao b (h.lo b (by simp[O])).2 (o b (by simp[O])).2.1 (o b (by simp[O])).2.2;have wq:Own X 46 1 q.HA q.hn q.hc (hx.set k (.slice I (fs.length+2) aE)) [O]:=by
  have ac:Own aT 46 1 q.HA q.hn q.hc hx [O]:=h.h.ai λb a1=>cg.block b (by rw[Mi.1 a1];exact T) (by rw[Mi.1 a1];exact d3);have an:=(List.getElem?_eq_some_iff.1 h.th).1;have a8:k<q.hn:=by rw[h.hl];exact an
  obtain⟨g2,Z,-,-,-,-,hs⟩:=ac.block ad;obtain rfl:O=g2:=by have:=h.lH.symm.trans Z;simpa using this
  rw[<-hX];exact hs k _ ad
 refine h.fin ad ao wq (dn.2 ⟨_,_,_,rfl,e.cap,e.sl ?_ (by simp) λb a1=>?_⟩)
 .rw[LR,LR];refine D.cA (D.cA (D.bK a _ _ (D.bG n _ _ h.fr)) (D.bg.2 (c7.2 ⟨_,_,_,_,_,_,rfl,h.i.cap,h.HO,aX.sl (bX _) (by simp) λb O=>a6 b (by simp[O]),(h.lk.ai n).mono a⟩))) (D.bg.2 ?_);exact D.aK (λb O=>.inr (⟨(c b O).1,by have:=(c b O).2.1;omega⟩:B<=b/\b<X.heap.size)) _ _ (D.aS (λb O=>ao b (c b O).2.1 (c b O).2.2.1 (c b O).2.2.2) _ _ cY)
 .rcases r b a1 with ac|ac
  .rw[ac];exact a6 lb (by simp)
  .have:=(h.lo O (by simp));exact .inr ⟨ad,ad⟩
end
section
variable {P:Nat->Prop} {B:Nat} {w ab X:World} {s Q:ak} {k:Nat} {fs:List al} {f S:al} {N:Nat} {q:SV} {O lb lc:Nat} {hx b0:List Value} {IA:Mt} {ic:Nat} {bw:Mt} {aH:Nat} {F1 F2 a4:List Nat}
theorem RO.I8(h:RO P B w s k fs f N q O lb lc hx b0 IA ic bw aH F1 F2 a4){PT:Nat->Prop}{I:Mt}{a6 aE:Nat}{T:List cx}(hT:Sl w PT I a6 (T.map ky))(hn:a6<=aE)(a:∀b,PT b->P b\/(B<=b/\b<w.heap.size/\b≠N))(hX:w.setCell ⟨N,1,none⟩ (.slice I a6 aE)=X):
  let z:SV:=⟨q.GA,q.gn,q.gc,I,a6,aE,q.HA,q.hn,q.hc⟩
  let Q:ak:={s with table:=T}
  z.Is X (λb=>P b\/(B<=b/\b<X.heap.size)) Q/\au X N 26 (z.val Q):=by
 intro z Q;have cr:X=w.heap.size:=by rw[<-hX];simp[World.setCell]
 have aj:∀b,(P b\/(B<=b/\b<w.heap.size/\b≠N))->X.heap[b]?=w.heap[b]?:=λb hm=>by
  rw[<-hX];refine aQ ?_;rcases hm with hm|hm
  .exact(h.sep.2.2.2.2 b hm).2.1
  .exact hm.2.2
 have aX:=h.KO.ai aj;have hm:∀b,(P b\/(B<=b/\b<w.heap.size/\b≠N))->P b\/(B<=b/\b<X.heap.size):=λb O=>O.imp id λO=>⟨O.1,by rw[cr];exact O.2.1⟩
 refine⟨⟨⟨aX.at_.g.mono hm,(hT.ai λb O=>aj b (a b O)).mono λb O=>hm b (a b O),aX.at_.h.mono hm⟩,aX.gc,hn,aX.hc⟩,?_⟩;rw[<-hX];exact h.o.aN 1 _
theorem RO.start(h:RO P B w s k fs f N q O lb lc hx b0 IA ic bw aH F1 F2 a4){c0 c1 c2 c3:Value}(cY:(dh R).rep w y [c0,c1,c2,c3])(c:∀b,y b->B<=b/\b<w.heap.size/\b≠O/\b≠N)
  {aS aT:World} (av:w.alloc (.cells #[c0,c1,c2,c3] 50)=aS) {I:Mt} {aE:Nat}
  (a5:Own aT 46 1 I (q.hn+1) aE (hx++[.slice (some ⟨w,0,none⟩) 1 1]) (br I (q.hn+1) aE)) (J:Fr (λb=>b=O) aS aT) (r:∀b∈br I (q.hn+1) aE,b=O\/(aS.heap.size<=b/\b<aT.heap.size))
  (hX:aT.setCell ⟨N,2,none⟩ (.slice I (q.hn+1) aE)=X) :
  let z:SV:=⟨q.GA,q.gn,q.gc,q.TA,q.tn,q.tc,I,q.hn+1,aE⟩
  let Q:ak:={s with threads:=s.threads++[[R]]}
  z.Is X (λb=>P b\/(B<=b/\b<X.heap.size)) Q/\au X N 26 (z.val Q):=by
 intro z Q;obtain⟨d1,d2,d3,o,g⟩:=h.sep;have dG:aS=w.heap.size+1:=by rw[<-av];simp
 have aO:=aU av;have v:=aI av;have bS:=J.size;have cr:X=aT.heap.size:=by rw[<-hX];simp[World.setCell]
 have cG:=h.lo N (by simp);have dw:=h.lo O (by simp);have cq:=h.lo lb (by simp);have ao:∀b,b<aS.heap.size->b≠N->b≠O->X.heap[b]?=aS.heap[b]?:=λb an bi aV=>by
  rw[<-hX];exact(aQ bi).trans (J.block b an aV)
 have m:∀b,b<w.heap.size->b≠N->b≠O->X.heap[b]?=w.heap[b]?:=λb an bi aV=>(ao b ad bi aV).trans (aO.block b an λh=>h);have n:∀b,P b->X.heap[b]?=w.heap[b]?:=λb hm=>m b (g b hm).1 (g b hm).2.1 (g b hm).2.2.1;have i:∀b∈F1++(F2++a4),X.heap[b]?=w.heap[b]?:=λb hm=>m b (h.lo b (List.mem_cons_of_mem _ (List.mem_cons_of_mem _ (List.mem_cons_of_mem _ hm)))).2 (o b hm).1 (o b hm).2.1;have a:∀b,P b->P b\/(B<=b/\b<X.heap.size):=λb hm=>.inl hm;have a6:∀b∈N::O::lb::(F1++(F2++a4)),P b\/(B<=b/\b<X.heap.size):=λb hm=>.inr ⟨(h.lo b hm).1,by have:=(h.lo b hm).2;omega⟩;have c8:au X w 50 #[c0,c1,c2,c3]:=(ao _ ad ad ad).trans v;have ce:(dh R).rep X (λb=>P b\/(B<=b/\b<X.heap.size)) [c0,c1,c2,c3]:=D.aK (λb hm=>.inr (⟨(c b hm).1,by have:=(c b hm).2.1;omega⟩:B<=b/\b<X.heap.size)) _ _ (D.aS (λb hm=>m b (c b hm).2.1 (c b hm).2.2.2 (c b hm).2.2.1) _ _ cY);have cf:Sl X (λb=>P b\/(B<=b/\b<X.heap.size)) (some ⟨w,0,none⟩) 1 ([R].map dh):=⟨rfl,λ_=>⟨w,0,[c0,c1,c2,c3],rfl,.inr ⟨ad,ad⟩,by simp only[LQ,Me];exact D.bg.2 ce,λj u hu=>by
  rw[L8,c8.cell];simpa using hu⟩⟩
 have d:∀b∈br I (q.hn+1) aE,b≠N:=λb hm=>by
  rcases r b hm with ac|ac
  .rw[ac];exact Ne.symm d1
  .omega
 have e:=a5.ai (ab:=X) λb hm=>by rw[<-hX];exact aQ (d b hm)
 have hl:=h.l.ai (ab:=X) λb hm=>by rw[Mi.1 hm];exact m lb cq.2 (Ne.symm d2) (Ne.symm d3)
 have aX:=h.i.ai (ab:=X) λb hm=>i b (by simp[hm]);have aY:hx.length=s.threads.length:=by have:=h.h.row.1;rw[Nat.mul_one] at this;rw[this];exact h.hl
 refine⟨⟨⟨?_,?_,?_⟩,h.g.cap,h.t.cap,e.cap⟩,?_⟩
 .exact(h.g.ai λb hm=>i b (by simp[hm])).sl (bX _) (by rw[LO];exact h.gl.symm) λb hm=>a6 b (by simp[hm])
 .exact(h.t.ai λb hm=>i b (by simp[hm])).sl (dH _) (by rw[LO];exact h.tl.symm) λb hm=>a6 b (by simp[hm])
 .refine e.sl (l:=(s.threads++[[R]]).map fI) ?_ (by simp[h.hl]) λb hm=>?_
  .rw[LR];refine D.cA (mZ _ _ aY λj x bd=>?_) (D.bg.2 (dn.2 ⟨_,1,1,rfl,LK _,cf⟩));by_cases ag:j=k
   .subst ag;have:=h.th.symm.trans bd;injection this with this;subst this;refine⟨_,h.zq,dn.2 ⟨_,_,_,rfl,h.l.cap,hl.sl ?_ (by simp) λb hm=>a6 b (by simp[Mi.1 hm])⟩⟩;rw[LR];exact D.cA (D.bK a _ _ (D.bG n _ _ h.fr)) (D.bg.2 (c7.2 ⟨_,_,_,_,_,_,rfl,h.i.cap,h.HO,aX.sl (bX _) (by simp) λb hm=>a6 b (by simp[hm]),(h.lk.ai n).mono a⟩))
   .obtain⟨u,hu,a5⟩:=h.oE j x ag bd;exact⟨u,hu,D.aK a _ _ (D.aS n _ _ a5)⟩
  .rcases r b hm with ac|ac
   .rw[ac];exact a6 O (by simp)
   .exact .inr ⟨ad,ad⟩
 .have:=(h.o.aj aO).on J d1;rw[<-hX];exact this.aN 2 _
end
theorem fu{P:Nat->Prop}{w Y:World}{B:Nat}{s Q:ak}{q:SV}{M:Nat->Prop}(h:q.Is Y (λk=>P k\/(B<=k/\k<Y.heap.size)) s)(J:Fr M Y Z)(hM:∀k,M k->¬P k/\k<B)(bg:∀k,P k->k<Y.heap.size)(aQ:w.heap.size<=B)(aw:Ext w Z)(hs:s=Q):cX P w Q b (.returned (.tuple #[.agg (q.val Q),b])) Z:=by
 subst hs;exact⟨q,rfl,(h.ai λk aj=>J.block k (aj.elim (bg k) λh=>h.2) λhm=>aj.elim (hM k hm).1 λh=>by have:=(hM k hm).2;omega).mono λk aj=>aj.imp id λaj=>⟨ad,by have:=J.size;omega⟩,aw⟩
theorem SV.Is.HN{P:Nat->Prop}{w V:World}{s:ak}{q:SV}(h:q.Is w P s)(bg:∀b,P b->b<w.heap.size)(aw:Ext w V):q.Is V P s:=h.ai λb O=>aw.block b (bg b O) λh=>h
theorem xc{P:Nat->Prop}{w:World}{s:ak}{q:SV}(h:q.Is w P s)(bg:∀b,P b->b<w.heap.size)(aw:Ext w Z):cX P w s b (.returned (.tuple #[.agg (q.val s),.bool b])) Z:=
 ⟨q,rfl,(h.HN bg aw).mono λ_ O=>.inl O,aw⟩
theorem RO.Jy{P:Nat->Prop}{B:Nat}{w:World}{s:ak}{k:Nat}{fs:List al}{f:al}{N:Nat}{q:SV}{O lb lc:Nat}{hx b0:List Value}{IA:Mt}{ic:Nat}{bw:Mt}{aH:Nat}{F1 F2 a4:List Nat}(h:RO P B w s k fs f N q O lb lc hx b0 IA ic bw aH F1 F2 a4):Sl w (aq w) IA f.ints.length (f.ints.map .i):=
 h.i.sl (bX _) (by simp) λb O=>(h.lo b (by simp[O])).2
namespace DG
theorem BA(h:p:=by
 exact Ac
 ):p:=h
theorem gS(h:p:=by
 have cc:=az hu (dp.ok bg) dp;obtain⟨G,R⟩:=aJ bg ht;clear hu dp bg ht;dsimp only[UV.val,SV.val];go_enter func40,ntmps40;go_upto_region 1 with(fail);generalize ba:World.alloc _ _=W;have aw:=lD ba;have bI:=jx ba;have bZ:=h6 ba;have cv:=jy ba;have ah:=dm aw bI bZ cv (cc.1.on aw) (cc.2.1.on aw);have cN:=aw.size;have dx:=cv.lt;obtain⟨a0,ai,af⟩:=bI.two;obtain⟨bq,am,aG⟩:=bZ.two;clear ba aw bI bZ cv;go_wp2_with(fail);refine(uL u s t W ⟨GA,gn,gc,MA,mn,mc,PA,pn,pc⟩ ⟨bV,bW,bD,TA,tn,tc,HA,hn,hc⟩ ah.2.2.2.2.2 R.o).mono ?_;rintro e aS ⟨rfl,aO⟩;have bB:=ae aO;clear a0 ai af bq am aG;go_upto_region 2 with(fail);generalize hV:World.alloc _ _=V;have bo:Ext W V:=hV▸aO.alloc _;have ds:=bo.size;have bL:=ah.2.2.2.1.aj bo;obtain⟨bq,am,aG⟩:=(ah.2.2.1.aj bo).two;obtain⟨bl,aD,aP⟩:=bL.two;have bS:=ag bo bL;clear hV bo aO bL;go_wp2_with(fail);generalize hX:World.setCell _ _ _=Z;obtain⟨bs,a9,bf⟩:=bA (w:=w) [.slice bV bW bD,.slice TA tn tc,.slice HA hn hc,.int .i64 s.fault] (by rfl) bS.2 (ah.1.trans bS.1) ad hX;exact Bz
 ):p:=h
end DG
open DG in
theorem w7(u:aA)(s:ak)(t:Int)(P:Nat->Prop)(w:World)(p:UV)(q:SV)(hu:p.Ok w u)(dp:q.Is w P s)(bg:∀b,P b->b<w.heap.size)(ht:ey s t=none) :
  Calls prog 40 #[.agg (p.val u),.agg (q.val s),t] w (cX P w s false):=by
 exact gR
end Go.Proofs.YtpkfopfkdgkfkaaGreat

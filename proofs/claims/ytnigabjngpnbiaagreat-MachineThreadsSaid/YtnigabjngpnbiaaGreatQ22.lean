/- Part 22 of the proof. No condition of its own. -/
import Derived.Test.YtnigabjngpnbiaaGreatQ21
namespace Go.Proofs.YtnigabjngpnbiaaGreat
open Go.RowKit Go.Proofs.Tryz
set_option maxRecDepth 1000000
set_option maxHeartbeats 25600000
set_option linter.unusedVariables false
variable{t:Int}{l:List Int}{B N i n:Nat}{M:Nat->Prop}{p:Prop}{q:SV}{e:VE}{W Z w:World}{s:ah}{f:ai}{x:ax}{u:ay}
structure je(u:ay)(s:ah)(t:Int)(f:ai)(cc:cG)(x:ax)(N:Nat):Prop where
 hU:xX u
 hS:aV u N s
 sm:Small s
 ht:dJ s t=some f
 hF:bX u f
 hp:u.procs[f.proc.toNat]?=some cc
 hx:cc.code[f.pc.toNat]?=some x
 ok:∃len:Nat,cc.code.length=len+1/\g5 (bp u) cc.locals cc.aq len x
 nx:x.op≠8->f.pc+1<cc.code.length
 pc:0<=f.pc/\f.pc<=201
 il:x.ints.length<=200
 kl:x.places.length<=200
theorem je.of(hU:xX u)(hS:aV u N s)(bo:N<=100000)(ht:dJ s t=some f):∃cc x,je u s t f cc x N/\dD u s t=some x:=by
 obtain⟨hF,_,_⟩:=hS.top ht;obtain⟨cc,x,hp,hx,ac,ap,aD,bt,cl,Q,g,cU,aE⟩:=hU.Hr hF;have hc:=aE.code;obtain⟨c,b4,ck,_⟩:=hc;have hl:cc.code.length=c.length+1:=by rw[b4];simp
 exact⟨cc,x,⟨hU,hS,hS.small hU.ok bo,ht,hF,hp,hx,cl,cU,⟨bt,ad⟩,Q,g⟩,sq ht hp hx⟩
theorem je.El{cc:cG}(h:je u s t f cc x N)(he:fC (bp u) cc.locals e){GA IA:Kj}{gn:Nat}{c0 c1 c2 c3:Value}
  (aS:Sl w (ao w) GA gn (s.globals.map .i)) (I:Sl w (ao w) IA i (f.ints.map .i)) (aZ:(bB e).rep w (ao w) [c0,c1,c2,c3]):kQ w GA IA gn i s.globals f.ints e [c0,c1,c2,c3]/\mI s.globals f.ints e:=by
 obtain⟨bb,n,_⟩:=v5 h.hS h.hF h.hp he;have ac:=aS.1;have ap:=I.1;rw[JM] at ac ap;exact⟨⟨aS.ints,I.ints,by rw[<-ac,<-ap];exact bb,jZ e _ aZ⟩,n⟩
structure I1(u:ay)(s:ah)(t:Int)(f:ai)(x:ax)(r:Int×Int):Prop where
 bad:r.2≠0->bU u s t f x=({s with fault:=r.2},true)
 bz:r.2=0->x.op=6->r.1=0->bU u s t f x=(bg s t {f with pc:=x.target},true)
 bn:r.2=0->x.op=6->r.1≠0->bU u s t f x=(bg s t (next f),true)
 gl:r.2=0->x.op=1->x.c5=true->bU u s t f x=({bg s t (next f) with globals:=s.globals.set x.target.toNat r.1},true)
 lo:r.2=0->x.op=1->x.c5=false->bU u s t f x=(bg s t {next f with ints:=f.ints.set x.target.toNat r.1},true)
theorem IN(he:x.expr=some e)(cf:x.op=1\/x.op=6):I1 u s t f x (ev s.globals f.ints e):=by
 have h0:bU u s t f x=(if (ev s.globals f.ints e).2≠0 then ({s with fault:=(ev s.globals f.ints e).2},true)
  else if x.op=6 then (bg s t (if (ev s.globals f.ints e).1=0 then {f with pc:=x.target} else next f),true)
  else if x.c5 then ({bg s t (next f) with globals:=s.globals.set x.target.toNat (ev s.globals f.ints e).1},true)
  else (bg s t {next f with ints:=f.ints.set x.target.toNat (ev s.globals f.ints e).1},true)):=by
  unfold bU;rw[if_pos cf,he];rfl
 generalize ev s.globals f.ints e=r at *;refine⟨λh=>?_,λh Q bi=>?_,λh Q bi=>?_,λh ac aS=>?_,λh ac aS=>?_⟩
 .rw[h0,if_pos h]
 .rw[h0,if_neg ad,if_pos Q,if_pos bi]
 .rw[h0,if_neg ad,if_pos Q,if_neg bi]
 .rw[h0,if_neg ad,if_neg ad,if_pos aS]
 .rw[h0,if_neg ad,if_neg ad,if_neg (by simp[aS])]
theorem je.th{cc:cG}(h:je u s t f cc x N):s.fault=0/\0<=t/\t<s.threads.length/\∃fs,s.threads[t.toNat]?=some (fs++[f])/\fs.length<=1000000:=by
 obtain⟨h0,ac,fs,bx⟩:=jb h.ht;have:=(List.getElem?_eq_some_iff.1 bx).1;exact⟨h0,ac,ad,fs,bx,by have:=(h.sm.f _ (JL bx)).1;simp at this;omega⟩
theorem gi{aB:ah}{xs:List Value}{F1 F2 bj bI:List Nat}(h:df B W s N q xs F1 F2 bj bI)(aA:Fr M W Z)(hM:∀b,M b->b<B)(aK:w.heap.size<=B)(ar:Ext w Z)(hs:s=aB):cH lO w aB true (.returned (.tuple #[.agg (q.val aB),.bool true])) Z:=by
 subst hs;exact⟨q,rfl,(h.eQ aA hM).ok.mono λb O=>.inr ⟨ad,O.2⟩,ar⟩
theorem dS{aV bV:World}{aB:ah}{b:Bool}(h:q.Is bV (λk=>lO k\/(aV.heap.size<=k/\k<bV.heap.size)) aB)(aA:Fr M bV Z)(hM:∀b,M b->b<aV.heap.size)(aK:w.heap.size<=aV.heap.size)(ar:Ext w Z):cH lO w aB b (.returned (.tuple #[.agg (q.val aB),.bool b])) Z:=
 ⟨q,rfl,(h.al λk aj=>aA.block k (aj.resolve_left λh=>h).2 λhm=>by have:=hM k hm;have:=(aj.resolve_left λh=>h).1;omega).mono λk aj=>.inr ⟨by have:=(aj.resolve_left λh=>h).1;omega,by have:=(aj.resolve_left λh=>h).2;have:=aA.size;omega⟩,ar⟩
namespace BF
theorem eI(h:p:=by
 go_upto_region 13 with(fail);generalize hX:World.setCell _ _ _=Y;have c5:df aV.heap.size Y {s with threads:=(s.threads.set t.toNat (fs++[next f])).set t.toNat (fs++[{next f with ints:=(next f).ints.set x.target.toNat r}])} bV.heap.size ⟨aN,cg,a3,S,tn,aX,bG,hn,aO⟩ xs F1 F2 bj bI:=hX▸cO.o;have L:=da hX;have bW:=cw;have ce:Ext w Y:=Fr.low (M:=λb=>b=T) (Fr.trans (Fr.mono (ab.1.trans aj.2.1) λ_ h=>h.elim) L) λb O=>by have:=ab.1.size;omega
 have k:=aj.2.2.on L (aC ab.2.2.2.1.lt);have bw:=av c5 k ce;clear e0 bl bm bh an aM;obtain⟨e0,bl,bm⟩:=c5.o.two;obtain⟨bh,an,aM⟩:=k.two;clear hX c5 L ce k;go_wp2_with(fail);generalize hX:World.setCell _ _ _=Z;obtain⟨bq,a5,a4⟩:=bk (w:=w) [.slice aN cg a3,.slice S tn aX,.slice bG hn aO,.int .i64 s.fault] (by rfl) bw.2.1 bw.2.2 ad hX;have bn:=ak a5 a4;clear hX a5 a4 bh an aM e0 bl bm;obtain⟨bh,an,aM⟩:=bq.two;refine Ke (v:=.tuple #[.agg #[.slice aN cg a3,.slice S tn aX,.slice bG hn aO,.int .i64 s.fault],.bool true]) (by simp[results,Tryz.results26,go_sem,bh]) rfl ?_;rw[b6.o];show cH lO w (bg s t {next f with ints:=f.ints.set x.target.toNat r}) true _ _
 exact gi (aB:=bg s t {next f with ints:=f.ints.set x.target.toNat r}) (q:=⟨aN,cg,a3,S,tn,aX,bG,hn,aO⟩) bw.1 bn.2.drew (λb O=>by have:=ab.2.2.2.1.lt;omega) (aC ab.1.size) bn.1.drew (by rw[dG br.2.2.1,List.set_set];rfl)
 ):p:=h
theorem zO(h:p:=by
 have bY:=IN (u:=u) (s:=s) (t:=t) (f:=f) hex cf;have bF:cg=s.globals.length:=by have:=hs.at_.g.1;simpa using this.symm
 have bC:=h.hS.c5;have c4:=h.pc;have H:=h.nx;have aJ:=dT h bd hex cC aa;have br:=dq cr c9 bx b3 bF bC;have aW:=ae bY;have y:=b9 c4 H hlen dz;have bR:=av hs bD hT;clear cr bx bF bC hlen c4 H I hex bd cC aa b3 cn dz c9 h bY hs bD hT;dsimp only[SV.val,IV.val];go_enter func26,ntmps26;go_upto_region 1 with(fail);generalize ba:World.alloc _ _=W;have ar:=l6 ba;have bH:=jV ba;have b7:=iF ba;have cq:=jD ba;have ab:=dq ar bH b7 cq (bR.1.on ar) (bR.2.1.on ar);have b1:=ae (bR.2.2.on ar);obtain⟨a0,al,af⟩:=bH.two;obtain⟨b0,am,aw⟩:=b7.two;clear ba ar bH b7 cq bR;refine fj (λ_=>False) [(0,3),(1,0),(2,3),(3,0),(4,0),(5,3),(6,1),(7,3),(8,3),(9,0),(10,2),(11,3),(12,3),(13,3),(14,3),(15,3)] ?_;refine pf ?_;refine ph ?_;refine pf ?_
 iterate 2 refine ph ?_
 refine pf ?_;refine aP rfl (λK hK=>?_);go_simp;refine(ks (b1.on (Fr.refl _ W).drew) _ _ _).mono ?_;rintro e aL ⟨rfl,ag⟩;have J:=ae (b1.on (Fr.aL ag));have bs:=ae (Fr.aL ag);have cy:=J.lf;have c2:=J.c2;refine gu hK (ag) ?_;clear hK K;clear ag
 iterate 2 refine pf ?_
 refine Ji ?_;refine az rfl (λK hK=>?_);go_simp;have cm:(bB ex).rep aL (ao aL) [.int .i64 eo,.int .i64 en,.string es,.slice EA em ec]:=by
  have:=(ab.2.2.2.2.2.on bs.o).expr;rw[aJ.2.2.1] at this;exact this
 refine(nI ex aL bP IA cg i bQ ic s.globals f.ints _ _ _ _ (aJ.1.El aJ.2.1 (ab.2.2.2.2.1.on bs.o).at_.g J.ints cm).1).mono ?_;rintro e aV ⟨rfl,bv⟩;have aT:=ae (bs.trans (Fr.of bv));generalize ev s.globals f.ints ex=R at *;obtain⟨r,z⟩:=R;clear cm bv a0 al af b0 am aw c2 cy;obtain⟨a0,al,af⟩:=(ab.2.1.aj aT.o).two;have ck:=aT.size;refine eC hK ?_;clear hK K
 iterate 5 refine pf ?_
 refine aG ?_;by_cases bi:z=0
 case neg=>
  have q5:(z != 0)=true:=by simpa using bi
  have b6:=ae (aW.bad bi);clear bi aW b1 J;go_wp2_with(fail);refine(kq s ⟨bP,cg,bQ,TA,tn,tc,some ⟨O,bb,none⟩,hn,hc⟩ z aV (ab.2.2.2.2.1.on aT.o) aJ.1.sm).mono ?_;rintro e bV ⟨⟨aN,aU,a3,S,m,aX,bG,cd,aO⟩,rfl,b2,a7⟩;have cY:=ae b2;have bL:=(ab.2.2.2.1.aj aT.o).aj a7;have a2:=ak bL ((ab.1.trans aT.o).trans a7);obtain⟨bh,an,aM⟩:=bL.two;clear b2 a7 bL a0 al af;go_wp2_with(fail);generalize hX:World.setCell _ _ _=Z;obtain⟨bq,a5,a4⟩:=bk (w:=w) [.slice aN aU a3,.slice S m aX,.slice bG cd aO,.int .i64 z] (by rfl) a2.1 a2.2 ad hX;have bn:=ak a5 a4;clear hX a5 a4 bh an aM;obtain⟨bh,an,aM⟩:=bq.two;refine Ke (v:=.tuple #[.agg #[.slice aN aU a3,.slice S m aX,.slice bG cd aO,.int .i64 z],.bool true]) (by simp[results,Tryz.results26,go_sem,bh]) rfl ?_;rw[b6.o];show cH lO w {s with fault:=z} true _ _
  exact dS (aB:={s with fault:=z}) (q:=⟨aN,aU,a3,S,m,aX,bG,cd,aO⟩) cY.o bn.2 (λb O=>by have:=ab.2.2.2.1.lt;omega) (aC ab.1.size) bn.1
 have q5:(z != 0)=false:=by simpa using bi
 have bS:=ae bi;clear bi b1 J;go_wp2_with(fail);refine(fa s bP TA (some ⟨O,bb,none⟩) cg bQ tn tc hn hc aV (ab.2.2.2.2.1.on aT.o).at_ aJ.1.sm).mono ?_;rintro e bV ⟨aN,a3,S,aX,bG,aO,xs,F1,F2,bj,bI,rfl,ch,bc,a7⟩;have cb:=av ch bc a7;clear ch bc a7 a0 al af;go_upto_region 5 with(fail);generalize hV:World.alloc _ _=V;have a9:=aY hV;have b8:=aF hV;have er:=cb.2.2.size;have hOut:df aV.heap.size V s bV.heap.size ⟨aN,cg,a3,S,tn,aX,bG,hn,aO⟩ xs F1 F2 bj bI:=
  ⟨cb.1.al λb O=>a9.block b (cb.2.1 b O).2 λh=>h,b8,λO=>by have:=(cb.2.1 _ O).2;omega,λb O=>⟨(cb.2.1 b O).1,by have:=(cb.2.1 b O).2;have:=a9.size;omega⟩,er⟩
 have G:Ext W V:=(aT.trans cb.2.2).trans a9;obtain⟨c1,dx,i2,cN,dd,dp,di,c0,bZ,be,P⟩:=hOut.top br.2.2.1 br.2.1 br.1 br.2.2.2.1;have bR:=dT hOut be P G c0;obtain⟨e0,bl,bm⟩:=hOut.o.two;clear hV a9 b8 hOut G be P c0 bZ;go_wp2_with(fail);refine(bR.2.1 V Kf).mono ?_;rintro e cE ⟨rfl,aA⟩;have aK:=ae (bR.2.2.1 cE aA);have b4:=ae (bR.2.2.2.1.trans aA);clear e0 bl bm aA;have bX:=aK.c1;have g2:=aK.fz;have cv:=aK.lt;have cR:=y.1;go_upto_region 8 with(fail);generalize hX:World.setCell _ _ _=X;have cK:qK aV.heap.size X {s with threads:=s.threads.set t.toNat (fs++[next f])} bV.heap.size ⟨aN,cg,a3,S,tn,aX,bG,hn,aO⟩ xs F1 F2 bj bI t fs (next f) c1 dx i2 cN dd dp di:=hX▸aK.H2 br.2.2.1 (f.pc+1);have bM:=da hX;have dD:=aK.ge;have bf:Ext W X:=Fr.low (M:=λb=>b=c1) (Fr.trans (Fr.mono b4.o λ_ h=>h.elim) bM) λb O=>ad;have a6:=ab.2.2.1.aj bf;have cW:=ab.2.2.2.1.aj bf;have aj:=av cK bf cW;obtain⟨b0,am,aw⟩:=a6.two;obtain⟨e0,bl,bm⟩:=cK.oz.o.two;obtain⟨bh,an,aM⟩:=cW.two;have cp:=cK.c1;have bE:=cK.c2;have cB:=cK.fz;have aI:=cK.lt;have c7:=cK.ne;clear hX cK bM bf a6 cW bX g2 cv aK;by_cases Q:x.op=6
 .have dl:(x.op == 6)=true:=by simpa using Q
  by_cases aZ:r=0
  .have q7:(r == 0)=true:=by simpa using aZ
   have b6:=ae (aW.bz bS.o Q aZ);clear Q aZ aW;go_upto_region 13 with(fail);generalize hX:World.setCell _ _ _=Y;have c5:df aV.heap.size Y {s with threads:=(s.threads.set t.toNat (fs++[next f])).set t.toNat (fs++[{next f with pc:=x.target}])} bV.heap.size ⟨aN,cg,a3,S,tn,aX,bG,hn,aO⟩ xs F1 F2 bj bI:=hX▸aj.1.pc x.target;have L:=da hX;have ce:Ext w Y:=Fr.low (M:=λb=>b=c1) (Fr.trans (Fr.mono (ab.1.trans aj.2.1) λ_ h=>h.elim) L) λb O=>by have:=ab.1.size;omega
   have k:=aj.2.2.on L (aC ab.2.2.2.1.lt);have bw:=av c5 k ce;clear e0 bl bm bh an aM;obtain⟨e0,bl,bm⟩:=c5.o.two;obtain⟨bh,an,aM⟩:=k.two;clear hX c5 L ce k;go_wp2_with(fail);generalize hX:World.setCell _ _ _=Z;obtain⟨bq,a5,a4⟩:=bk (w:=w) [.slice aN cg a3,.slice S tn aX,.slice bG hn aO,.int .i64 s.fault] (by rfl) bw.2.1 bw.2.2 ad hX;have bn:=ak a5 a4;clear hX a5 a4 bh an aM e0 bl bm;obtain⟨bh,an,aM⟩:=bq.two;refine Ke (v:=.tuple #[.agg #[.slice aN cg a3,.slice S tn aX,.slice bG hn aO,.int .i64 s.fault],.bool true]) (by simp[results,Tryz.results26,go_sem,bh]) rfl ?_;rw[b6.o];show cH lO w (bg s t {f with pc:=x.target}) true _ _
   exact gi (aB:=bg s t {f with pc:=x.target}) (q:=⟨aN,cg,a3,S,tn,aX,bG,hn,aO⟩) bw.1 bn.2 (λb O=>by have:=ab.2.2.2.1.lt;omega) (aC ab.1.size) bn.1 (by rw[dG br.2.2.1,List.set_set];rfl)
  .have q7:(r == 0)=false:=by simpa using aZ
   have b6:=ae (aW.bn bS.o Q aZ);clear Q aZ aW;have bw:=av aj.1.oz aj.2.2 (ab.1.trans aj.2.1);go_wp2_with(fail);generalize hX:World.setCell _ _ _=Z;obtain⟨bq,a5,a4⟩:=bk (w:=w) [.slice aN cg a3,.slice S tn aX,.slice bG hn aO,.int .i64 s.fault] (by rfl) bw.2.1 bw.2.2 ad hX;have bn:=ak a5 a4;clear hX a5 a4 bh an aM e0 bl bm;obtain⟨bh,an,aM⟩:=bq.two;refine Ke (v:=.tuple #[.agg #[.slice aN cg a3,.slice S tn aX,.slice bG hn aO,.int .i64 s.fault],.bool true]) (by simp[results,Tryz.results26,go_sem,bh]) rfl ?_;rw[b6.o];show cH lO w (bg s t (next f)) true _ _
   exact gi (aB:=bg s t (next f)) (q:=⟨aN,cg,a3,S,tn,aX,bG,hn,aO⟩) bw.1 bn.2 (λb O=>by have:=ab.2.2.2.1.lt;omega) (aC ab.1.size) bn.1 (by rw[dG br.2.2.1])
 .have ac:x.op=1:=ad;have dl:(x.op == 6)=false:=by simpa using Q
  cases aS:x.c5 with
  | true=>
   have b6:=ae (aW.gl bS.o ac aS);rw[aS] at b0;have cA:=aJ.2.2.2.1 ac aS;have U:=br.2.2.2.2.1;have cj:=br.2.2.2.2.2;have cD:x.target<(cg:Int):=ad;have a8:=y.2.2.2;obtain⟨a1,aQ,cQ,cz,⟨bu,bA⟩,cJ,cw,aE⟩:=aj.1.oz.c5 (j:=x.target.toNat) (by show x.target.toNat<cg;omega);simp only at aQ;subst aQ;have cO:=ae (aE r);clear Q ac aW cA U cj aE;go_upto_region 13 with(fail);generalize hX:World.setCell _ _ _=Y;have c5:df aV.heap.size Y {s with threads:=s.threads.set t.toNat (fs++[next f]),globals:=s.globals.set x.target.toNat r} bV.heap.size ⟨some ⟨a1,0,none⟩,cg,a3,S,tn,aX,bG,hn,aO⟩ xs F1 F2 bj bI:=hX▸cO.o;have L:=da hX;have bz:=cw;have ce:Ext w Y:=Fr.low (M:=λb=>b=a1) (Fr.trans (Fr.mono (ab.1.trans aj.2.1) λ_ h=>h.elim) L) λb O=>by have:=ab.1.size;omega
   have k:=aj.2.2.on L (aC ab.2.2.2.1.lt);have bw:=av c5 k ce;clear e0 bl bm bh an aM;obtain⟨e0,bl,bm⟩:=c5.o.two;obtain⟨bh,an,aM⟩:=k.two;clear hX c5 L ce k;go_wp2_with(fail);generalize hX:World.setCell _ _ _=Z;obtain⟨bq,a5,a4⟩:=bk (w:=w) [.slice (some ⟨a1,0,none⟩) cg a3,.slice S tn aX,.slice bG hn aO,.int .i64 s.fault] (by rfl) bw.2.1 bw.2.2 ad hX;have bn:=ak a5 a4;clear hX a5 a4 bh an aM e0 bl bm;obtain⟨bh,an,aM⟩:=bq.two;refine Ke (v:=.tuple #[.agg #[.slice (some ⟨a1,0,none⟩) cg a3,.slice S tn aX,.slice bG hn aO,.int .i64 s.fault],.bool true]) (by simp[results,Tryz.results26,go_sem,bh]) rfl ?_;rw[b6.o];show cH lO w ({bg s t (next f) with globals:=s.globals.set x.target.toNat r}) true _ _
   exact gi (aB:={bg s t (next f) with globals:=s.globals.set x.target.toNat r}) (q:=⟨some ⟨a1,0,none⟩,cg,a3,S,tn,aX,bG,hn,aO⟩) bw.1 bn.2 (λb O=>by have:=ab.2.2.2.1.lt;omega) (aC ab.1.size) bn.1 (by rw[dG br.2.2.1])
  | false=>
   have b6:=ae (aW.lo bS.o ac aS);rw[aS] at b0;have aq:=aJ.2.2.2.2 ac aS;have c0:=bR.2.2.2.2;have cD:x.target<(i2:Int):=ad;have a8:=y.2.2.2;obtain⟨T,aR,cQ,cz,⟨bu,bA⟩,cJ,cw,hints⟩:=aj.1.ints x.target.toNat r ad;subst aR;have cO:=ae hints;clear Q ac aW aq c0 hints;go_upto_region 7 with(fail);exact As
 ):p:=h
end BF
open BF in
theorem uy(u:ay)(s:ah)(t:Int)(f:ai)(cc:cG)(x:ax)(N:Nat)(w:World)(q:SV)(v:IV)(h:je u s t f cc x N)(cf:x.op=1\/x.op=6)(hs:q.Ok w s)(bD:v.Ok w x) :
  Calls prog 26 #[.agg (q.val s),.int .i64 t,.agg (v.val x)] w (cH lO w (bU u s t f x).1 (bU u s t f x).2):=by
 obtain⟨cr,c9,cn,fs,bx,b3⟩:=h.th;obtain⟨bP,cg,bQ,TA,tn,tc,HA,hn,hc⟩:=q;obtain⟨eo,en,es,EA,em,ec,QA,qm,qc,dg,j,dh,KA,de,kc⟩:=v;obtain⟨O,bb,bT,cT,n,fc,IA,i,ic,bo,l,lc,e,hT⟩:=hs.at_.top h.sm h.ht;simp only at e;subst e;exact zN
section
variable {P:Program} {ops:Array Oper} {Q:Exit->Act->World->Prop} {R:World->World->Prop} {tails:List Nat}
theorem vq{rest:PT}{aa:Nat->Nat->Nat->Act}{C:Nat->Nat->Nat->World->Prop}{G:Prop}(h:(∀x y z V,C x y z V->cW P ops Q R tails rest (aa x y z) V)->G)(key:∀x y z V,C x y z V->cW P ops Q R tails rest (aa x y z) V):G:=h key
end
section
variable {P:Program} {ops:Array Oper} {Q:Exit->Act->World->Prop} {R:World->World->Prop} {tails:List Nat}
theorem GW{j k:Nat}{f:Nat->PT}{a:Act}(h:qG P ops Q R tails i (f i) a w)(ap:qG P ops Q R tails j (f j) a w)(aD:qG P ops Q R tails k (f k) a w):cW P ops Q R tails (.pick [i,j,k] f) a w:=λm hm=>by
 simp only[JY,List.not_mem_nil,or_false] at hm;rcases hm with rfl|rfl|rfl
 .exact h
 .exact ap
 .exact aD
end
theorem Hw(n:Nat):madeCells #[.int .i64 0] (n*1)=(List.replicate n (Value.int .i64 0)).toArray:=by
 apply Array.toList_inj.1
 rw[qk (f:=dr) (x:=0) (sz:=1) rfl rfl ad n,si,List.map_replicate]
theorem sY(is:List Int)(n:Nat):splice (List.replicate n (Value.int .i64 0)) 0 (is.map cX)=(is++List.replicate (n - is.length) 0).map cX:=by
 unfold splice;simp[List.map_replicate]
theorem au.sl{g:Nat}(h:au w g 3 (l.map cX).toArray)(hn:l.length=n){P:Nat->Prop}(S:P g):Sl w P (some ⟨g,0,none⟩) n (l.map D.i):=by
 refine⟨by simpa using hn,λ_=>⟨g,0,l.map cX,rfl,S,ck l,λj u hu=>?_⟩⟩;rw[J0,h.cell];simpa using hu
structure Gc(W:World)(L l:Nat)(a b c:Nat)(V:World):Prop where
 ext:Ext W V
 ba:au V a 3 (List.replicate L (Value.int .i64 0)).toArray
 bb:au V b 3 (List.replicate l (Value.int .i64 0)).toArray
 bc:au V c 59 #[.int .i64 0,.int .i64 0,.slice none 0 0,.slice none 0 0]
 ab:a≠b
 ac:a≠c
 IL:b≠c
 lo:W.heap.size<=a/\W.heap.size<=b/\W.heap.size<=c
theorem gV(n:Nat):madeCells #[.int .i64 0] n=(List.replicate n (Value.int .i64 0)).toArray:=by have:=Hw n;rwa [Nat.mul_one] at this
theorem hr{V:World}{b ty e:TypeId}{d c a:Array Value}(hV:(((W.alloc (.cells d b)).alloc (.cells c ty)).alloc (.cells a e)).drew=V):Ext W V/\au V W.heap.size b d/\au V (W.heap.size+1) ty c/\au V (W.heap.size+1+1) e a:=by
 subst hV;exact⟨(((Kf.alloc _).alloc _).alloc _).drew,((Kg).alloc _).alloc _,(au.k5 _ _ _ (by simp)).alloc _,au.k5 _ _ _ (by simp)⟩
theorem qv{P:Program}(e f ty elem:TypeId)(hu:P.underlying e=some (.slice elem))(bH:(P.info? elem).map (·.size)=some 1)
  {dp sp:Kj} {c dCap d sCap:Nat} {g:Nat} {cur:List Value} {t:TypeId} (aS:au w g t cur.toArray) (cs:List Value) (hn:cs.length=Nat.min d c)
  (aa:0<cs.length->dp=some ⟨g,0,none⟩/\∃a,sp=some a/\∀j v,cs[j]?=some v->w.cell? (a.add j)=some v)
  (i:cs.length<=cur.length) (ac:∀v∈cs,v.oneCell'=true) :
  ∃J,(Builtin.copy_ #[e,f] ty #[.slice dp c dCap,.slice sp d sCap]).run P w=.ok (goInt cs.length) J/\au J g t (splice cur 0 cs).toArray/\Fr (λb=>b=g) w J:=by
 by_cases h0:cs.length=0
 .obtain rfl:cs=[]:=List.eq_nil_of_length_eq_zero h0;exact⟨w,run_copy_none w e f ty elem dp sp c dCap d sCap hu bH (by simpa using hn.symm),by simpa[splice] using aS,Kf⟩
 .obtain⟨rfl,a,rfl,ay⟩:=aa ad;exact⟨_,_root_.Go.run_copy_row (P:=P) w e f ty elem g 0 c dCap a d sCap cur.toArray t cs hu bH aS hn ay (by simpa using i) ac,(show _=_ by simpa[splice] using setRow_heap w g _ _ t _ aS),⟨rfl,rfl,rfl,by simp[World.setRow],λk aj aH=>setRow_other w g k _ aH⟩⟩
theorem cB.FU{A:Kj}(h:cB (EF dr) 1 w B A n l):0<(l.map cX).length->∃a,A=some a/\∀j v,(l.map cX)[j]?=some v->w.cell? (a.add j)=some v:=λh0=>by
 have hl:=h.1;rw[JM] at h0;obtain⟨b,o,bu,_,hc⟩:=h.2 ad;refine⟨_,bu,λj v be=>?_⟩;rw[List.getElem?_map] at be
 cases hx:l[j]? with
 | none=>rw[hx] at be;cases be
 | some x=>
  rw[hx] at be;injection be with be;subst be;obtain⟨cs,rfl,_,Z⟩:=hc j x hx;have:=Z 0 _ rfl;rw[Nat.mul_one,JS] at this;rw[show (⟨b,o,none⟩:Addr).add j=⟨b,o+j,none⟩ by unfold Addr.add;split<;>simp_all];exact this
def Ha(w:World)(f:ai)(e:Ending)(J:World):Prop:=∃IA i ic bo l lc,e=.returned (.agg #[.int .i64 f.proc,.int .i64 f.pc,.slice IA i ic,.slice bo l lc])/\(dP f).rep J (fresh w J) [.int .i64 f.proc,.int .i64 f.pc,.slice IA i ic,.slice bo l lc]/\Ext w J
namespace BH
theorem gO(h:p:=by
 refine tf ?_;generalize hV:World.drew (World.alloc _ _)=V;obtain⟨h0,ac,ap,aD⟩:=hr hV;have hC:Gc W L l (W.heap.size+1+1) (W.heap.size) (W.heap.size+1) V:=⟨h0,by rw[<-gV];exact aD,by rw[<-gV];exact ac,ap,ad,ad,ad,ad⟩
 clear hV h0 ac ap aD;generalize W.heap.size+1+1=cv at hC ⊢;generalize W.heap.size+1=g2 at hC ⊢;generalize W.heap.size=bX at hC ⊢;exact key cv bX g2 _ hC
 ):p:=h
end BH
open BH in
theorem mframe(u:ay)(k:Int)(cc:cG)(is ls:List Int)(IA bo:Kj)(i ic l lc:Nat)(w:World)(p:UV)(hu:p.Ok w u)(h0:0<=k)(hp:u.procs[k.toNat]?=some cc)(hl:(is.length:Int)<=cc.locals)(bc:cc.locals<=200)(bZ:ls.length<=1000)
  (I:Sl w (ao w) IA i (is.map D.i)) (bP:Sl w (ao w) bo l (ls.map D.i)) :
  Calls prog 21 #[.agg (p.val u),.int .i64 k,.slice IA i ic,.slice bo l lc] w (Ha w (cU u k is ls)):=by
 obtain⟨GA,gn,gc,MA,mn,mc,PA,pn,pc⟩:=p;have bB:=hu.at_.p.1;rw[JM] at bB;have bI:=(List.getElem?_eq_some_iff.1 hp).1;obtain⟨pb,db,cZ,S,cN,bx,e,ch,aH,cD,b5,b3,bA,cO,_,_⟩:=hu.at_.proc (k:=k.toNat) ad;simp only at e bB;subst e;rw[hp] at aH;injection aH with aH;subst aH;obtain⟨L,bd⟩:=JN (a:=cc.locals) ad;rw[bd] at bA;have cC:is.length=i:=by have:=I.1;simpa using this
 have aW:ls.length=l:=by have:=bP.1;simpa using this
 have hlen:i<=L:=ad;have c5:L<=200:=ad;have a8:l<=1000:=ad;have b4:k<(pn:Int):=ad;have aI:eu u k=L:=by unfold eu;rw[hp];simp[bd]
 have bW:=av cC aW aI;have bF:=ak I bP;have U:=λW=>run_mk eK .i64 .i64 L ad ad W;have Y:=λW=>run_mk eK .i64 .i64 l ad ad W;have a3:pb<w.heap.size:=ch;clear hu bB bI ch hp cD b5 b3 cO bd cC aW aI I bP hl bc bZ;dsimp only[UV.val];go_enter func21,ntmps21;go_upto_region 1 with(fail);generalize ba:World.alloc _ _=W;have ar:=jN ba;have aK:=fQ ba;have cq:=fR ba;have dH:=(ar.cell (j:=db+k.toNat*5+3) a3 λh=>h).trans bA;have aq:pb<W.heap.size:=JJ a3 ar.size;have aw:=cq.lt;have ab:=ak ar cq;obtain⟨a0,al,af⟩:=aK.two;clear ba ar aK cq bA a3;refine uU (λ_=>False) [7,13] (.free 0 (.free 1 (.held 2 (.free 3 (.free 4 (.free 5 (.held 6 (.free 8 (.free 9 (.pick [7,10,12] (λi=>bif i == 7 then .pick [10,12] (λi=>bif i == 10 then .free 11 (.pick [12] (λ_=>.pick [13] (λ_=>.stop))) else .pick [10] (λ_=>.free 11 (.pick [13] (λ_=>.stop)))) else bif i == 10 then .pick [7,12] (λi=>bif i == 7 then .free 11 (.pick [12] (λ_=>.pick [13] (λ_=>.stop))) else .pick [7] (λ_=>.free 11 (.pick [13] (λ_=>.stop)))) else .pick [7,10] (λi=>bif i == 7 then .pick [10] (λ_=>.free 11 (.pick [13] (λ_=>.stop))) else .pick [7] (λ_=>.free 11 (.pick [13] (λ_=>.stop))))))))))))))) ?_
 iterate 2 refine tf ?_
 refine th ?_
 iterate 3 refine tf ?_
 refine th ?_
 iterate 2 refine tf ?_
 refine vq (P:=?P1) (ops:=?o1) (Q:=?q1) (R:=?r1) (tails:=?t1) (rest:=.pick [13] (λ_=>.stop)) (aa:=?aa) (C:=Gc W L l) (λkey=>?main) ?key
 case main=>
  refine GW ?_ ?_ ?_
  ·
   refine ca rfl (λK hK=>?_) rfl;go_simp;refine eC hK ?_;clear hK K;refine b1 ?_ ?_
   ·
    refine gX ?_;refine tf ?_;refine aB ?_;refine gX ?_;generalize hV:World.drew (World.alloc _ _)=V;obtain⟨h0,ac,ap,aD⟩:=hr hV;have hC:Gc W L l (W.heap.size) (W.heap.size+1) (W.heap.size+1+1) V:=⟨h0,by rw[<-gV];exact ac,by rw[<-gV];exact ap,aD,ad,ad,ad,ad⟩
    clear hV h0 ac ap aD;generalize W.heap.size+1+1=cv at hC ⊢;generalize W.heap.size+1=g2 at hC ⊢;generalize W.heap.size=bX at hC ⊢;exact key bX g2 cv _ hC
   ·
    refine gX ?_;refine aB ?_;refine gX ?_;refine tf ?_;generalize hV:World.drew (World.alloc _ _)=V;obtain⟨h0,ac,ap,aD⟩:=hr hV;have hC:Gc W L l (W.heap.size) (W.heap.size+1+1) (W.heap.size+1) V:=⟨h0,by rw[<-gV];exact ac,by rw[<-gV];exact aD,ap,ad,ad,ad,ad⟩
    clear hV h0 ac ap aD;generalize W.heap.size+1+1=cv at hC ⊢;generalize W.heap.size+1=g2 at hC ⊢;generalize W.heap.size=bX at hC ⊢;exact key bX cv g2 _ hC
  ·
   refine gX ?_;refine b1 ?_ ?_
   ·
    refine ca rfl (λK hK=>?_) rfl;go_simp;refine eC hK ?_;clear hK K;refine tf ?_;refine aB ?_;refine gX ?_;generalize hV:World.drew (World.alloc _ _)=V;obtain⟨h0,ac,ap,aD⟩:=hr hV;have hC:Gc W L l (W.heap.size+1) (W.heap.size) (W.heap.size+1+1) V:=⟨h0,by rw[<-gV];exact ap,by rw[<-gV];exact ac,aD,ad,ad,ad,ad⟩
    clear hV h0 ac ap aD;generalize W.heap.size+1+1=cv at hC ⊢;generalize W.heap.size+1=g2 at hC ⊢;generalize W.heap.size=bX at hC ⊢;exact key g2 bX cv _ hC
   ·
    refine gX ?_;exact gN
  ·
   refine gX ?_;refine b1 ?_ ?_
   ·
    refine ca rfl (λK hK=>?_) rfl;go_simp;refine eC hK ?_;clear hK K;refine aB ?_;refine gX ?_;refine tf ?_;generalize hV:World.drew (World.alloc _ _)=V;obtain⟨h0,ac,ap,aD⟩:=hr hV;have hC:Gc W L l (W.heap.size+1) (W.heap.size+1+1) (W.heap.size) V:=⟨h0,by rw[<-gV];exact ap,by rw[<-gV];exact aD,ac,ad,ad,ad,ad⟩
    clear hV h0 ac ap aD;generalize W.heap.size+1+1=cv at hC ⊢;generalize W.heap.size+1=g2 at hC ⊢;generalize W.heap.size=bX at hC ⊢;exact key g2 cv bX _ hC
   ·
    refine gX ?_;refine aB ?_;refine ca rfl (λK hK=>?_) rfl;go_simp;refine eC hK ?_;clear hK K;refine tf ?_;generalize hV:World.drew (World.alloc _ _)=V;obtain⟨h0,ac,ap,aD⟩:=hr hV;have hC:Gc W L l (W.heap.size+1+1) (W.heap.size+1) (W.heap.size) V:=⟨h0,by rw[<-gV];exact aD,by rw[<-gV];exact ap,ac,ad,ad,ad,ad⟩
    clear hV h0 ac ap aD;generalize W.heap.size+1+1=cv at hC ⊢;generalize W.heap.size+1=g2 at hC ⊢;generalize W.heap.size=bX at hC ⊢;exact key cv g2 bX _ hC
 intro o a1 gc V hC;have bK:=ae hC;obtain⟨c0,bT,bw⟩:=hC.bc.two;clear hC a0 al af U Y dH;refine aB ?_;refine ca rfl (λK hK=>?_) rfl;go_simp;refine eC hK ?_;clear hK K;refine cY ?_;generalize hX:World.setCell _ _ _=X;obtain⟨a6,bM⟩:=ej 0 [.int .i64 k,.int .i64 0,.slice (some ⟨o,0,none⟩) L L,.slice (some ⟨a1,0,none⟩) l l] bK.bc hX;have aK:au X gc 59 #[.int .i64 k,.int .i64 0,.slice (some ⟨o,0,none⟩) L L,.slice (some ⟨a1,0,none⟩) l l]:=by simpa[ij] using a6
 have bu:=bK.ba.on bM bK.ac;have bp:=bK.bb.on bM bK.IL;have bf:Ext W X:=Fr.low (M:=λb=>b=gc) (Fr.trans (Fr.mono bK.ext λ_ h=>h.elim) bM) λb O=>by have:=bK.lo;omega
 have aJ:=b9 bf bu bp aK;obtain⟨d0,aQ,aR⟩:=aK.two;clear hX a6 bM aK bu bp bf c0 bT bw;have aA:Ext w X:=ab.1.trans aJ.1;have cW:=ab.2.aj aJ.1;have ag:=(bF.1.on (Fr.ext aA)).ints;have m:=bW.1;have s:=bW.2.1;have a7:(is.map cX).length=Nat.min i L:=by rw[JM];simp only[Nat.min_def];split<;>omega
 have y:=ag.FU;have H:(is.map cX).length<=(List.replicate L (Value.int .i64 0)).length:=by simp;omega
 have g:=dT aJ.2.1 aJ.2.2.1 aJ.2.2.2 aA cW;have f:=dT a7 y H m s;clear aA cW ag a7 y H m s;obtain⟨aV,F,bv,ax⟩:=qv (P:=prog) 22 22 3 3 Tryz.underlying22 (by kernel_rfl) (dp:=some ⟨o,0,none⟩) (dCap:=L) (sp:=IA) (sCap:=ic) g.1 (is.map cX) f.1 (λh=>⟨rfl,f.2.1 h⟩) f.2.2.1 (by simp[Value.oneCell']);have r:=g.2.2.1.on ax (Ne.symm bK.ac);have bO:=av bv ax r;clear bv ax;obtain⟨e0,bl,bm⟩:=r.two;clear r;have bb:Ext w aV:=Fr.low (M:=λb=>b=o) (Fr.trans (Fr.mono g.2.2.2.1 λ_ h=>h.elim) bO.2.1) λb O=>by have:=bK.lo;have:=ab.1.size;omega
 have b0:=(bF.2.on (Fr.ext bb)).ints;have z:=b0.FU;have N:(ls.map cX).length=Nat.min l l:=by rw[JM];have:=f.2.2.2.2;simp only[Nat.min_def];split<;>omega
 have J:(ls.map cX).length<=(List.replicate l (Value.int .i64 0)).length:=by have:=f.2.2.2.2;simp;omega
 have bH:=g.2.1.on bO.2.1 (Ne.symm bK.ab);have dn:=dT N z J bH bb;clear bb b0 z N J bH;obtain⟨bV,G,bv,ax⟩:=qv (P:=prog) 22 22 3 3 Tryz.underlying22 (by kernel_rfl) (dp:=some ⟨a1,0,none⟩) (dCap:=l) (sp:=bo) (sCap:=lc) dn.2.2.2.1 (ls.map cX) dn.1 (λh=>⟨rfl,dn.2.1 h⟩) dn.2.2.1 (by simp[Value.oneCell']);have r:=bO.2.2.on ax (Ne.symm bK.IL);have cb:=av bv ax r;clear bv ax;obtain⟨f0,cQ,cV⟩:=r.two;clear r;have bL:=(g.2.2.2.2.on bO.2.1 (aC bK.lo)).on cb.2.1 (aC bK.lo);have dw:Ext w bV:=Fr.low (M:=λb=>b=a1) (Fr.trans (Fr.mono dn.2.2.2.2 λ_ h=>h.elim) cb.2.1) λb O=>by have:=bK.lo;have:=ab.1.size;omega
 have a2:=ak bL dw;obtain⟨bh,an,aM⟩:=bL.two;clear bL dw;go_wp2_with(fail);generalize hX:World.setCell _ _ _=Z;obtain⟨bq,a5,a4⟩:=bk (w:=w) [.int .i64 k,.int .i64 0,.slice (some ⟨o,0,none⟩) L L,.slice (some ⟨a1,0,none⟩) l l] (by rfl) a2.1 a2.2 ad hX;have bn:=ak a5 a4;clear hX a5 a4 bh an aM d0 aQ aR e0 bl bm f0 cQ cV F G;obtain⟨bh,an,aM⟩:=bq.two;refine Ke (v:=.agg #[.int .i64 k,.int .i64 0,.slice (some ⟨o,0,none⟩) L L,.slice (some ⟨a1,0,none⟩) l l]) (by simp[results,Tryz.results21,go_sem,bh]) rfl ?_;have bc:=bK.lo;have ai:=ab.2.lt;have aj:=(bO.1.on cb.2.1 bK.ab).on bn.2 ad;have am:=cb.1.on bn.2 ad;rw[sY] at aj am;have ah:=bW.2.2;have aF:=aj.lt;have a8:=am.lt;have T:cU u k is ls=⟨k,0,is++List.replicate (L - is.length) 0,ls⟩:=by unfold cU;rw[ah]
 rw[T];refine⟨some ⟨o,0,none⟩,L,L,some ⟨a1,0,none⟩,l,l,rfl,fy.2 ⟨_,_,_,_,_,_,rfl,JI _,JI _,aj.sl (by have:=bW.1;simp;omega) ⟨ad,aF⟩,?_⟩,bn.1⟩;have:=am.sl (n:=l) (P:=fresh w Z) (by have:=bW.2.1;simp;omega) ⟨ad,a8⟩
 rwa [show l - ls.length=0 by have:=bW.2.1;omega,List.replicate_zero,J7] at this
def Ga(w:World)(a b:List Int×Int)(e:Ending)(J:World):Prop:=
 (a.2≠0->e=.returned (.tuple #[.slice none 0 0,.slice none 0 0,.int .i64 a.2])/\Ext w J)/\
 (a.2=0->b.2≠0->e=.returned (.tuple #[.slice none 0 0,.slice none 0 0,.int .i64 b.2])/\Ext w J)/\
 (a.2=0->b.2=0->∃A n c a1 aQ aW,e=.returned (.tuple #[.slice A n c,.slice a1 aQ aW,.int .i64 0])/\n<=c/\aQ<=aW/\Sl J (fresh w J) A n (a.1.map D.i)/\Sl J (fresh w J) a1 aQ (b.1.map D.i)/\Ext w J)
def uk(g l:List Int)(es:List VE)(k:Nat):Prop:=∀e∈es.take k,(ev g l e).2=0
theorem ml{g l:List Int}:∀{es:List VE},(∀e∈es,(ev g l e).2=0)->cz g l es=(es.map λe=>(ev g l e).1,0)
 | [],_=>rfl
 | e::es,h=>by
  have ac:=h e (by simp);have ap:=ml (es:=es) λx hx=>h x (by simp[hx]);unfold cz;rw[if_neg ad,ap,if_neg (by simp)];rfl
theorem mj{g l:List Int}:∀{es:List VE} {k:Nat} {e:VE},uk g l es k->es[k]?=some e->(ev g l e).2≠0->cz g l es=([],(ev g l e).2)
 | [],k,e,_,h,_=>by simp at h
 | x::es,0,e,_,h,O=>by
  simp at h;subst h;unfold cz
  rw[if_pos O]
 | x::es,k+1,e,hu,h,O=>by
  have ac:(ev g l x).2=0:=hu x (by simp);have ap:=mj (es:=es) (k:=k) (e:=e) (λy aa=>hu y (by simp[aa])) (by simpa using h) O;unfold cz;rw[if_neg ad,ap,if_pos O]
theorem k3{u:ay}{s:ah}{f:ai}:∀{ps:List bN},(∀p∈ps,(bu u s f p).2=0)->bS u s f ps=(ps.map λp=>(bu u s f p).1,0)
 | [],_=>rfl
 | p::ps,h=>by
  have ac:=h p (by simp);have ap:=k3 (ps:=ps) λx hx=>h x (by simp[hx]);unfold bS;rw[if_neg ad,ap,if_neg (by simp)];rfl
theorem k2{u:ay}{s:ah}{f:ai}:∀{ps:List bN} {k:Nat} {p:bN},(∀x∈ps.take k,(bu u s f x).2=0)->ps[k]?=some p->(bu u s f p).2≠0->bS u s f ps=([],(bu u s f p).2)
 | [],k,p,_,h,_=>by simp at h
 | x::ps,0,p,_,h,O=>by
  simp at h;subst h;unfold bS
  rw[if_pos O]
 | x::ps,k+1,p,hu,h,O=>by
  have ac:(bu u s f x).2=0:=hu x (by simp);have ap:=k2 (ps:=ps) (k:=k) (p:=p) (λy aa=>hu y (by simp[aa])) (by simpa using h) O;unfold bS;rw[if_neg ad,ap,if_pos O]
theorem je.args{cc:cG}(h:je u s t f cc x N)(cf:x.op=2\/x.op=3):(∀e∈x.ints,fC (bp u) cc.locals e)/\(∀p∈x.places,cQ (bp u) cc.locals cc.aq p)/\
  0<=x.target/\∃pc,u.procs[x.target.toNat]?=some pc/\(x.ints.length:Int)=pc.ints/\(x.places.length:Int)=pc.aq/\oP (bp u) pc:=by
 obtain⟨len,_,I⟩:=h.ok;rcases I with⟨ac,_⟩|⟨_,_,sg,ap,aD,bt,cl,Q,g⟩|⟨ac,_⟩|⟨ac,_⟩|⟨ac,_⟩|⟨ac,_⟩
 .omega
 .refine⟨Q,g,ap,?_⟩;simp only[bp,List.getElem?_map] at aD
  cases bx:u.procs[x.target.toNat]? with
  | none=>rw[bx] at aD;cases aD
  | some r=>
   rw[bx] at aD;simp only[Option.map_some,Ka] at aD;subst aD;exact⟨r,rfl,bt,cl,h.hU.ok.procs r (JL bx)⟩
 .omega
 .omega
 .omega
 .omega
namespace BI
theorem q3(h:p:=by
 have bw:=ak aa P;clear aa P bY Z a8 O ar hG aZ T;go_upto_region 6 with(fail);generalize hU:World.alloc _ _=U;have ci:=aY hU;have cK:=aF hU;have bO:=a2.2.2.2.trans ci;have cx:=av ci bO (D.on bw.2 (Fr.ext ci));have y:=(ab.2.2.2.2.2.2.2.on bO)
 have cy:=y.lf;have f2:=y.c2;obtain⟨d0,aQ,aR⟩:=cK.two;obtain⟨b0,am,aw⟩:=(ab.2.2.1.aj bO).two;have J:=ae y;clear hU ci cK bO y c0 c1 c2 c3 aN;refine fj (λ_=>False) [(0,0),(1,3),(2,0),(3,3),(4,3),(5,3),(6,0),(7,2),(8,3),(9,3),(10,3),(11,3),(12,3)] ?_;refine ph ?_;refine pf ?_;refine ph ?_
 iterate 3 refine pf ?_
 refine ph ?_;refine az rfl (λK hK=>?_);go_simp;have be:Ext U U.drew:=(Fr.refl _ U).drew;refine(nI ex U.drew bP IA cg i bQ ic s.globals f.ints _ _ _ _ (aJ.1.El (aJ.2.1 ex (JL bw.1)) ((ab.2.2.2.2.2.1.on cx.2.1).on be).at_.g (J.on be).ints (D.on cx.2.2 (Fr.ext be))).1).mono ?_;rintro e aV ⟨rfl,bv⟩;have aT:=ae (show Ext U aV from Fr.aL (Fr.of bv));have aA:=λbi=>mj (k:=k) a2.2.2.1 bw.1 bi;generalize a3:ev s.globals f.ints ex=R at *;obtain⟨r,z⟩:=R;have bL:=ak aA a3;clear aA a3 bv be d0 aQ aR b0 am aw f2 cy J;refine eC hK ?_;clear hK K
 iterate 5 refine pf ?_
 refine aG ?_;by_cases bi:z=0
 .have q5:(z != 0)=false:=by simpa using bi
  have bt:=(a2.2.1.aj cx.1).aj aT.o;have bz:=cx.1.size;have cu:=aT.size;obtain⟨aB,bn⟩:=aI bt bi;clear bi bt;go_wp2_with(at_builtin;refine cn eK rfl (.tmp 46) (.tmp 48) rfl aB.o (d:=D.i r) (cs:=#[.int .i64 r]) (by simp only[D.rep]) rfl rfl rfl ad ad ad ?_;intro bU c3 bV bX g2 cv cR;have bN:=ak bX g2;clear bX g2 cv cR);have bc:∀b,(Value.slice A k c).ownBlock=some b->aL.heap.size<=b:=λb O=>(aB.lt O).1;have a7:Ext aL bV:=Fr.low (M:=λb=>(Value.slice A k c).ownBlock=some b) (Fr.trans (Fr.mono ((a2.1.trans cx.1).trans aT.o) λ_ h=>h.elim) bN.2) λb O=>bc b O;have a4:=ae a7;clear bc a7;go_roundw
  case rel=>
   refine⟨k+1,bU,c3,rfl,by go_num,ad,a4.o,?_,λe he=>?_⟩
   .rw[aX bw.1,JP,JP];have ac:=bN.1;exact qM
   .rw[aX bw.1] at he;rcases JR.1 he with he|he
    .exact a2.2.2.1 e he
    .rw[J9.1 he,bL.2];exact bn.o
  case measure=>exact aU
 .have q5:(z != 0)=true:=by simpa using bi
  have b6:=ae (bL.1 bi);have bn:=ae bi;clear bi;go_wp2_with(fail)
  go_ret3
  have I:Ext w aV:=((ab.1.trans a2.2.2.2).trans cx.1).trans aT.o;refine⟨λh=>⟨?_,I⟩,λh=>absurd h ?_,λh=>absurd h ?_⟩
  .rw[b6.o];rfl
  .rw[b6.o];exact bn.o
  .rw[b6.o];exact bn.o
 ):p:=h
theorem gL(h:p:=by
 obtain⟨eo,en,es,EA,em,ec,QA,qm,qc,dg,j,dh,KA,de,kc⟩:=v;obtain⟨bq,bb,bT,cT,n,fc,IA,i,ic,bo,l,lc,e,hT⟩:=hs.at_.top h.sm h.ht;simp only at e;subst e;obtain⟨ca,cM,_⟩:=h.args cf;have bF:x.ints.length=j:=by have:=bD.ints.1;simpa using this
 have bM:x.places.length=de:=by have:=bD.places.1;simpa using this
 have cY:j<=200:=by have:=h.il;omega
 have c9:de<=200:=by have:=h.kl;omega
 have aJ:=dT h ca cM bF bM;have bR:=b9 hu hs bD hT;clear h ca cM bF bM hu hs bD hT;dsimp only[UV.val,SV.val,IV.val];go_enter func64,ntmps64;go_upto_region 1 with(fail);generalize ba:World.alloc _ _=W;have ar:=l6 ba;have bJ:=jV ba;have b7:=iF ba;have cL:=jD ba;have ab:=vG ar bJ b7 cL (bR.1.on ar) (bR.2.1.on ar) (bR.2.2.1.on ar) (bR.2.2.2.on ar);obtain⟨b0,am,aw⟩:=b7.two;clear ba ar bJ b7 cL bR;go_wp2_with(fail);refine(ks ab.2.2.2.2.2.2.2 _ _ _).mono ?_;rintro e aL ⟨rfl,ag⟩;have bs:=ae ag;clear b0 am aw;obtain⟨d0,aQ,aR⟩:=(ab.2.2.2.1.aj ag).two;clear ag;have l4:=bs.size;have cP:=ab.1.size;go_wp2_with(fail);clear d0 aQ aR;go_loopw [11,28] (λsv cr wr=>∃(k:Nat) (A:Kj) (c:Nat),sv=.slice A k c/\cr=.int .i64 k/\k<=j/\Ext aL wr/\Gr (λ_=>False) aL.heap.size 3 1 wr A k c (((x.ints.take k).map λe=>(ev s.globals f.ints e).1).map D.i)/\uk s.globals f.ints x.ints k) (λ_ cr _=>j - (intOf cr).toNat)
 case atStart=>exact⟨0,none,0,rfl,rfl,ad,Kf,Gr.nil _ _ _ _ _,λe he=>by simp at he⟩
 case round=>
  obtain⟨k,A,c,rfl,rfl,aj,ar,hG,aZ⟩:=hrel;have T:=bs.trans ar;have a2:=b9 ar hG aZ T;have cS:=ar.size;by_cases aq:k<j
  .obtain⟨b,o,ex,cs,rfl,O,aa,P,a8,Z⟩:=(ab.2.2.2.2.2.2.1.ints.on (Fr.ext T)).iG c4 aq;exact q2
  .obtain rfl:k=j:=ad;have aP:cz s.globals f.ints x.ints=(x.ints.map λe=>(ev s.globals f.ints e).1,0):=ml λe he=>aZ e (by rw[JQ (aC aJ.2.2.2.1)];exact he);have cj:Sl wr (λb=>aL.heap.size<=b/\b<wr.heap.size) A k ((cz s.globals f.ints x.ints).1.map D.i):=by
    have aS:=hG;rw[JQ (aC aJ.2.2.2.1)] at aS;rw[aP];exact aS.sl (λb _ h=>h.elim) λb aq O=>⟨O,aq⟩
   have cA:=hG.cap.1;obtain⟨cq,rfl⟩:∃cq,cq=wr:=⟨wr,rfl⟩
   have HA:=av cj cA aP;obtain⟨d0,aQ,aR⟩:=(ab.2.2.2.1.aj T).two;clear ar hG aZ T aP cj cA;go_wp2_with(fail);clear d0 aQ aR;go_loopw [12,54] (λsv cr wr=>∃(m:Nat) (B:Kj) (aW:Nat),sv=.slice B m aW/\cr=.int .i64 m/\m<=de/\Ext cq wr/\Gr (λ_=>False) cq.heap.size 3 1 wr B m aW (((x.places.take m).map λp=>(bu u s f p).1).map D.i)/\∀p∈x.places.take m,(bu u s f p).2=0) (λ_ cr _=>de - (intOf cr).toNat)
   case atStart=>exact⟨0,none,0,rfl,rfl,ad,Kf,Gr.nil _ _ _ _ _,λe he=>by simp at he⟩
   case round=>
    obtain⟨m,B,aW,rfl,rfl,hm,ar,hG,aZ⟩:=hrel;have T:=a2.2.2.2.trans ar;have br:=b9 ar hG aZ T;have a1:=ar.size;by_cases cl:m<de
    .obtain⟨b,o,pl,cI,cJ,zc,rfl,O,aa,cD,b5,b3,bC,cF⟩:=(ab.2.2.2.2.2.2.1.places.on (Fr.ext T)).rD cl;have aN:b<wr.heap.size:=O;have bw:=av aa bC cF;clear aa bC cF O ar hG aZ T;go_upto_region 14 with(fail);generalize hU:World.alloc _ _=U;have ci:=aY hU;have cK:=aF hU;have bO:=br.2.2.2.trans ci;have cx:=av ci bO (dB.2 ⟨cI,cJ,zc,rfl,bw.2.1,bw.2.2.on (Fr.ext ci)⟩:(c8 pl).rep U (ao U) [.bool pl.param,.int .i64 pl.index,.slice cI cJ zc]);obtain⟨d0,aQ,aR⟩:=cK.two;obtain⟨b0,am,aw⟩:=(ab.2.2.1.aj bO).two;obtain⟨a0,al,af⟩:=(ab.2.1.aj bO).two;clear hU ci cK bO cD b5 b3 aN;go_wp2_with(fail);refine(oB u s t f pl N U ⟨GA,gn,gc,MA,mn,mc,PA,pn,pc⟩ ⟨bP,cg,bQ,TA,tn,tc,some ⟨bq,bb,none⟩,hn,hc⟩ cI cJ zc ⟨aJ.1.hU.ok,aJ.1.hS,aJ.1.sm,aJ.1.ht,⟨cc,aJ.1.hp,aJ.2.2.1 pl (JL bw.1)⟩,ab.2.2.2.2.1.on cx.2.1,ab.2.2.2.2.2.1.on cx.2.1,cx.2.2⟩).mono ?_;rintro e aV ⟨rfl,bv⟩;rw[hE aJ.1.ht];have aT:=ae (show Ext U aV from Fr.of bv);have aA:=λbi=>k2 (k:=m) br.2.2.1 bw.1 bi;generalize a3:bu u s f pl=R at *;obtain⟨r,z⟩:=R;have bL:=ak aA a3;clear aA a3 bv d0 aQ aR b0 am aw a0 al af;by_cases bi:z=0
     .have q5:(z != 0)=false:=by simpa using bi
      have bt:=(br.2.1.aj cx.1).aj aT.o;have bz:=cx.1.size;have cu:=aT.size;obtain⟨aB,bn⟩:=aI bt bi;clear bi bt;go_wp2_with(at_builtin;refine cn eK rfl (.tmp 69) (.tmp 71) rfl aB.o (d:=D.i r) (cs:=#[.int .i64 r]) (by simp only[D.rep]) rfl rfl rfl ad ad ad ?_;intro bU c3 bV bX g2 cv cR;have bN:=ak bX g2;clear bX g2 cv cR);have bc:∀b,(Value.slice B m aW).ownBlock=some b->cq.heap.size<=b:=λb O=>(aB.lt O).1;have a7:Ext cq bV:=Fr.low (M:=λb=>(Value.slice B m aW).ownBlock=some b) (Fr.trans (Fr.mono ((br.1.trans cx.1).trans aT.o) λ_ h=>h.elim) bN.2) λb O=>bc b O;have a4:=ae a7;clear bc a7;go_roundw
      case rel=>
       refine⟨m+1,bU,c3,rfl,by go_num,ad,a4.o,?_,λe he=>?_⟩
       .rw[aX bw.1,JP,JP];have ac:=bN.1;exact qM
       .rw[aX bw.1] at he;rcases JR.1 he with he|he
        .exact br.2.2.1 e he
        .rw[J9.1 he,bL.2];exact bn.o
      case measure=>exact aU
     .have q5:(z != 0)=true:=by simpa using bi
      have b6:=ae (bL.1 bi);have bn:=ae bi;clear bi;go_wp2_with(fail)
      go_ret3
      have I:Ext w aV:=((ab.1.trans br.2.2.2).trans cx.1).trans aT.o;refine⟨λh=>absurd ?_ h,λ_ h=>⟨?_,I⟩,λ_ h=>absurd h ?_⟩
      .rw[HA.2.2]
      .rw[b6.o];rfl
      .rw[b6.o];exact bn.o
    .obtain rfl:m=de:=ad;have aP:bS u s f x.places=(x.places.map λp=>(bu u s f p).1,0):=k3 λe he=>aZ e (by rw[JQ (aC aJ.2.2.2.2)];exact he);have cj:Sl wr (fresh w wr) B m ((bS u s f x.places).1.map D.i):=by
      have aS:=hG;rw[JQ (aC aJ.2.2.2.2)] at aS;rw[aP];exact aS.sl (λb _ h=>h.elim) λb aq O=>⟨ad,aq⟩
     have cA:=hG.cap.1;have bW:=av cj cA aP;clear ar hG aZ T aP cj cA;go_wp2_with(fail)
     go_ret3
     refine⟨λh=>absurd ?_ h,λ_ h=>absurd ?_ h,λ_ _=>⟨A,k,c,B,m,aW,rfl,HA.2.1,bW.2.1,(HA.1.al λb O=>br.1.block b O.2 λh=>h).mono λb O=>⟨by have:=O.1;omega,by have:=O.2;omega⟩,bW.1,ab.1.trans br.2.2.2⟩⟩
     .rw[HA.2.2]
     .rw[bW.2.2]
 ):p:=h
end BI
open BI in
theorem ux(u:ay)(s:ah)(t:Int)(f:ai)(cc:cG)(x:ax)(N:Nat)(w:World)(p:UV)(q:SV)(v:IV)(h:je u s t f cc x N)(cf:x.op=2\/x.op=3)(hu:p.Ok w u)(hs:q.Ok w s)(bD:v.Ok w x) :
  Calls prog 64 #[.agg (p.val u),.agg (q.val s),.int .i64 t,.agg (v.val x)] w (Ga w (cz s.globals f.ints x.ints) (bS u s f x.places)):=by
 exact gK
end Go.Proofs.YtnigabjngpnbiaaGreat

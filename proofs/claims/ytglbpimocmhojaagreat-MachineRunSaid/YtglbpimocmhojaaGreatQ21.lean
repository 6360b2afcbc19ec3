/- Part 21 of the proof. No condition of its own. -/
import Derived.Test.YtglbpimocmhojaaGreatQ20
namespace Go.Proofs.YtglbpimocmhojaaGreat
open Go.RowKit Go.Proofs.Tryz
set_option maxRecDepth 1000000
set_option maxHeartbeats 25600000
set_option linter.unusedVariables false
variable{t:Int}{l:List Int}{B N i n:Nat}{M:Nat->Prop}{p:Prop}{q:SV}{e:VE}{W Z w:World}{s:aj}{f:al}{u:ay}{x:az}
structure jO(u:ay)(s:aj)(t:Int)(f:al)(cq:cH)(x:az)(N:Nat):Prop where
 hU:tq u
 hS:aV u N s
 sm:Small s
 ht:eg s t=some f
 hF:cc u f
 hp:u.procs[f.proc.toNat]?=some cq
 hx:cq.code[f.pc.toNat]?=some x
 ok:∃len:Nat,cq.code.length=len+1/\h1 (bx u) cq.locals cq.au len x
 nx:x.op≠8->f.pc+1<cq.code.length
 pc:0<=f.pc/\f.pc<=201
 il:x.ints.length<=200
 kl:x.places.length<=200
theorem jO.of(hU:tq u)(hS:aV u N s)(hN:N<=100000)(ht:eg s t=some f):∃cq x,jO u s t f cq x N/\dW u s t=some x:=by
 obtain⟨hF,_,_⟩:=hS.top ht;obtain⟨cq,x,hp,hx,ac,au,aU,bE,cF,aY,j,cG,bd⟩:=hU.Ih hF;have hc:=bd.code;obtain⟨c,dB,ci,_⟩:=hc;have hl:cq.code.length=c.length+1:=by rw[dB];simp
 exact⟨cq,x,⟨hU,hS,hS.small hU.ok hN,ht,hF,hp,hx,cF,cG,⟨bE,ad⟩,aY,j⟩,tM ht hp hx⟩
theorem jO.E5{cq:cH}(h:jO u s t f cq x N)(he:gf (bx u) cq.locals e){GA IA:Lp}{gn:Nat}{c0 c1 c2 c3:Value}
  (a2:Sl w (av w) GA gn (s.globals.map .i)) (an:Sl w (av w) IA i (f.ints.map .i)) (a5:(bk e).rep w (av w) [c0,c1,c2,c3]):lC w GA IA gn i s.globals f.ints e [c0,c1,c2,c3]/\nK s.globals f.ints e:=by
 obtain⟨bn,n,_⟩:=xu h.hS h.hF h.hp he;have ac:=a2.1;have au:=an.1;rw[KH] at ac au;exact⟨⟨a2.ints,an.ints,by rw[<-ac,<-au];exact bn,kt e _ a5⟩,n⟩
structure JP(u:ay)(s:aj)(t:Int)(f:al)(x:az)(r:Int×Int):Prop where
 bad:r.2≠0->b2 u s t f x=({s with fault:=r.2},true)
 bz:r.2=0->x.op=6->r.1=0->b2 u s t f x=(bs s t {f with pc:=x.target},true)
 bn:r.2=0->x.op=6->r.1≠0->b2 u s t f x=(bs s t (next f),true)
 gl:r.2=0->x.op=1->x.dg=true->b2 u s t f x=({bs s t (next f) with globals:=s.globals.set x.target.toNat r.1},true)
 lo:r.2=0->x.op=1->x.dg=false->b2 u s t f x=(bs s t {next f with ints:=f.ints.set x.target.toNat r.1},true)
theorem JE(he:x.expr=some e)(cx:x.op=1\/x.op=6):JP u s t f x (ev s.globals f.ints e):=by
 have h0:b2 u s t f x=(if (ev s.globals f.ints e).2≠0 then ({s with fault:=(ev s.globals f.ints e).2},true)
  else if x.op=6 then (bs s t (if (ev s.globals f.ints e).1=0 then {f with pc:=x.target} else next f),true)
  else if x.dg then ({bs s t (next f) with globals:=s.globals.set x.target.toNat (ev s.globals f.ints e).1},true)
  else (bs s t {next f with ints:=f.ints.set x.target.toNat (ev s.globals f.ints e).1},true)):=by
  unfold b2;rw[if_pos cx,he];rfl
 generalize ev s.globals f.ints e=r at *;refine⟨λh=>?_,λh aY bt=>?_,λh aY bt=>?_,λh ac a2=>?_,λh ac a2=>?_⟩
 .rw[h0,if_pos h]
 .rw[h0,if_neg ad,if_pos aY,if_pos bt]
 .rw[h0,if_neg ad,if_pos aY,if_neg bt]
 .rw[h0,if_neg ad,if_neg ad,if_pos a2]
 .rw[h0,if_neg ad,if_neg ad,if_neg (by simp[a2])]
theorem jO.th{cq:cH}(h:jO u s t f cq x N):s.fault=0/\0<=t/\t<s.threads.length/\∃fs,s.threads[t.toNat]?=some (fs++[f])/\fs.length<=1000000:=by
 obtain⟨h0,ac,fs,bv⟩:=jI h.ht;have:=(List.getElem?_eq_some_iff.1 bv).1;exact⟨h0,ac,ad,fs,bv,by have:=(h.sm.f _ (KG bv)).1;simp at this;omega⟩
theorem gS{Q:aj}{xs:List Value}{F1 F2 bK bP:List Nat}(h:dy B W s N q xs F1 F2 bK bP)(J:Fr M W Z)(hM:∀b,M b->b<B)(aR:w.heap.size<=B)(aw:Ext w Z)(hs:s=Q):cR mG w Q true (.returned (.tuple #[.agg (q.val Q),.bool true])) Z:=by
 subst hs;exact⟨q,rfl,(h.c8 J hM).ok.mono λb O=>.inr ⟨ad,O.2⟩,aw⟩
theorem ew{aT bX:World}{Q:aj}{b:Bool}(h:q.Is bX (λk=>mG k\/(aT.heap.size<=k/\k<bX.heap.size)) Q)(J:Fr M bX Z)(hM:∀b,M b->b<aT.heap.size)(aR:w.heap.size<=aT.heap.size)(aw:Ext w Z):cR mG w Q b (.returned (.tuple #[.agg (q.val Q),.bool b])) Z:=
 ⟨q,rfl,(h.ak λk ap=>J.block k (ap.resolve_left λh=>h).2 λhm=>by have:=hM k hm;have:=(ap.resolve_left λh=>h).1;omega).mono λk ap=>.inr ⟨by have:=(ap.resolve_left λh=>h).1;omega,by have:=(ap.resolve_left λh=>h).2;have:=J.size;omega⟩,aw⟩
namespace Cf
theorem dB(h:p:=by
 go_upto_region 13 with(fail);generalize hX:World.setCell _ _ _=Y;have bS:dy aT.heap.size Y {s with threads:=(s.threads.set t.toNat (fs++[next f])).set t.toNat (fs++[{next f with ints:=(next f).ints.set x.target.toNat r}])} bX.heap.size ⟨aZ,bV,bc,aV,tn,L,be,hn,a3⟩ xs F1 F2 bK bP:=hX▸cC.o;have ar:=cJ hX;have b6:=b3;have bG:Ext w Y:=Fr.low (M:=λb=>b=I) (Fr.trans (Fr.mono (ag.1.trans aR.2.1) λ_ h=>h.elim) ar) λb O=>by have:=ag.1.size;omega
 have k:=aR.2.2.on ar (aC ag.2.2.2.1.lt);have bB:=aD bS k bG;clear e0 a6 aP bl aA aO;obtain⟨e0,a6,aP⟩:=bS.o.two;obtain⟨bl,aA,aO⟩:=k.two;clear hX bS ar bG k;go_wp2_with(fail);generalize hX:World.setCell _ _ _=Z;obtain⟨bh,a9,bd⟩:=bA (w:=w) [.slice aZ bV bc,.slice aV tn L,.slice be hn a3,.int .i64 s.fault] (by rfl) bB.2.1 bB.2.2 ad hX;have bf:=ah a9 bd;clear hX a9 bd bl aA aO e0 a6 aP;obtain⟨bl,aA,aO⟩:=bh.two;refine Lk (v:=.tuple #[.agg #[.slice aZ bV bc,.slice aV tn L,.slice be hn a3,.int .i64 s.fault],.bool true]) (by simp[results,Tryz.results32,go_sem,bl]) rfl ?_;rw[bT.o];show cR mG w (bs s t {next f with ints:=f.ints.set x.target.toNat r}) true _ _
 exact gS (Q:=bs s t {next f with ints:=f.ints.set x.target.toNat r}) (q:=⟨aZ,bV,bc,aV,tn,L,be,hn,a3⟩) bB.1 bf.2.drew (λb O=>by have:=ag.2.2.2.1.lt;omega) (aC ag.1.size) bf.1.drew (by rw[dZ bU.2.2.1,List.set_set];rfl)
 ):p:=h
theorem Aq(h:p:=by
 have dp:=JE (u:=u) (s:=s) (t:=t) (f:=f) hex cx;have c6:bV=s.globals.length:=by have:=hs.at_.g.1;simpa using this.symm
 have ck:=h.hS.dg;have dc:=h.pc;have ci:=h.nx;have aQ:=cK h aJ hex bH a1;have bU:=cS ao db bv cd c6 ck;have bw:=ae dp;have dA:=bL dc ci hlen dw;have cc:=aD hs bI hT;clear ao bv c6 ck hlen dc ci an hex aJ bH a1 cd cu dw db h dp hs bI hT;dsimp only[SV.val,IV.val];go_enter func32,ntmps32;go_upto_region 1 with(fail);generalize ba:World.alloc _ _=W;have aw:=lF ba;have bD:=jo ba;have ce:=ir ba;have cA:=jq ba;have ag:=cS aw bD ce cA (cc.1.on aw) (cc.2.1.on aw);have aa:=ae (cc.2.2.on aw);obtain⟨a0,ai,af⟩:=bD.two;obtain⟨a8,am,aF⟩:=ce.two;clear ba aw bD ce cA cc;refine eK (λ_=>False) [(0,3),(1,0),(2,3),(3,0),(4,0),(5,3),(6,1),(7,3),(8,3),(9,0),(10,2),(11,3),(12,3),(13,3),(14,3),(15,3)] ?_;refine pf ?_;refine ph ?_;refine pf ?_
 iterate 2 refine ph ?_
 refine pf ?_;refine aI rfl (λK hK=>?_);go_simp;refine(k2 (aa.on (Fr.refl _ W).drew) _ _ _).mono ?_;rintro e aS ⟨rfl,aN⟩;have ab:=ae (aa.on (Fr.aF aN));have bu:=ae (Fr.aF aN);have cw:=ab.lf;have c2:=ab.c2;refine dz hK (aN) ?_;clear hK K;clear aN
 iterate 2 refine pf ?_
 refine J7 ?_;refine ax rfl (λK hK=>?_);go_simp;have b5:(bk ex).rep aS (av aS) [.int .i64 eo,.int .i64 en,.string es,.slice EA em ec]:=by
  have:=(ag.2.2.2.2.2.on bu.o).expr;rw[aQ.2.2.1] at this;exact this
 refine(oW ex aS bR IA bV i bC ic s.globals f.ints _ _ _ _ (aQ.1.E5 aQ.2.1 (ag.2.2.2.2.1.on bu.o).at_.g ab.ints b5).1).mono ?_;rintro e aT ⟨rfl,bg⟩;have a4:=ae (bu.trans (Fr.of bg));generalize ev s.globals f.ints ex=R at *;obtain⟨r,z⟩:=R;clear b5 bg a0 ai af a8 am aF c2 cw;obtain⟨a0,ai,af⟩:=(ag.2.1.ai a4.o).two;have bN:=a4.size;refine dO hK ?_;clear hK K
 iterate 5 refine pf ?_
 refine aE ?_;by_cases bt:z=0
 case neg=>
  have q5:(z != 0)=true:=by simpa using bt
  have bT:=ae (bw.bad bt);clear bt bw aa ab;go_wp2_with(fail);refine(k0 s ⟨bR,bV,bC,TA,tn,tc,some ⟨O,bn,none⟩,hn,hc⟩ z aT (ag.2.2.2.2.1.on a4.o) aQ.1.sm).mono ?_;rintro e bX ⟨⟨aZ,cr,bc,aV,m,L,be,co,a3⟩,rfl,bY,a7⟩;have bM:=ae bY;have cG:=(ag.2.2.2.1.ai a4.o).ai a7;have aW:=ah cG ((ag.1.trans a4.o).trans a7);obtain⟨bl,aA,aO⟩:=cG.two;clear bY a7 cG a0 ai af;go_wp2_with(fail);generalize hX:World.setCell _ _ _=Z;obtain⟨bh,a9,bd⟩:=bA (w:=w) [.slice aZ cr bc,.slice aV m L,.slice be co a3,.int .i64 z] (by rfl) aW.1 aW.2 ad hX;have bf:=ah a9 bd;clear hX a9 bd bl aA aO;obtain⟨bl,aA,aO⟩:=bh.two;refine Lk (v:=.tuple #[.agg #[.slice aZ cr bc,.slice aV m L,.slice be co a3,.int .i64 z],.bool true]) (by simp[results,Tryz.results32,go_sem,bl]) rfl ?_;rw[bT.o];show cR mG w {s with fault:=z} true _ _
  exact ew (Q:={s with fault:=z}) (q:=⟨aZ,cr,bc,aV,m,L,be,co,a3⟩) bM.o bf.2 (λb O=>by have:=ag.2.2.2.1.lt;omega) (aC ag.1.size) bf.1
 have q5:(z != 0)=false:=by simpa using bt
 have bb:=ae bt;clear bt aa ab;go_wp2_with(fail);refine(fH s bR TA (some ⟨O,bn,none⟩) bV bC tn tc hn hc aT (ag.2.2.2.2.1.on a4.o).at_ aQ.1.sm).mono ?_;rintro e bX ⟨aZ,bc,aV,L,be,a3,xs,F1,F2,bK,bP,rfl,cy,br,a7⟩;have bW:=aD cy br a7;clear cy br a7 a0 ai af;go_upto_region 5 with(fail);generalize hV:World.alloc _ _=V;have bm:=aX hV;have b7:=aK hV;have dF:=bW.2.2.size;have hOut:dy aT.heap.size V s bX.heap.size ⟨aZ,bV,bc,aV,tn,L,be,hn,a3⟩ xs F1 F2 bK bP:=
  ⟨bW.1.ak λb O=>bm.block b (bW.2.1 b O).2 λh=>h,b7,λO=>by have:=(bW.2.1 _ O).2;omega,λb O=>⟨(bW.2.1 b O).1,by have:=(bW.2.1 b O).2;have:=bm.size;omega⟩,dF⟩
 have T:Ext W V:=(a4.trans bW.2.2).trans bm;obtain⟨c1,dt,i2,c4,de,dn,dh,c0,cg,aG,J⟩:=hOut.top bU.2.2.1 bU.2.1 bU.1 bU.2.2.2.1;have cc:=cK hOut aG J T c0;obtain⟨e0,a6,aP⟩:=hOut.o.two;clear hV bm b7 hOut T aG J c0 cg;go_wp2_with(fail);refine(cc.2.1 V Ll).mono ?_;rintro e cL ⟨rfl,cB⟩;have P:=ae (cc.2.2.1 cL cB);have cj:=ae (cc.2.2.2.1.trans cB);clear e0 a6 aP cB;have ca:=P.c1;have g2:=P.fz;have cT:=P.lt;have c8:=dA.1;go_upto_region 8 with(fail);generalize hX:World.setCell _ _ _=X;have bJ:rY aT.heap.size X {s with threads:=s.threads.set t.toNat (fs++[next f])} bX.heap.size ⟨aZ,bV,bc,aV,tn,L,be,hn,a3⟩ xs F1 F2 bK bP t fs (next f) c1 dt i2 c4 de dn dh:=hX▸P.IP bU.2.2.1 (f.pc+1);have b8:=cJ hX;have dG:=P.ge;have bp:Ext W X:=Fr.low (M:=λb=>b=c1) (Fr.trans (Fr.mono cj.o λ_ h=>h.elim) b8) λb O=>ad;have bz:=ag.2.2.1.ai bp;have bq:=ag.2.2.2.1.ai bp;have aR:=aD bJ bp bq;obtain⟨a8,am,aF⟩:=bz.two;obtain⟨e0,a6,aP⟩:=bJ.oz.o.two;obtain⟨bl,aA,aO⟩:=bq.two;have cv:=bJ.c1;have bO:=bJ.c2;have cV:=bJ.fz;have H:=bJ.lt;have b1:=bJ.ne;clear hX bJ b8 bp bz bq ca g2 cT P;by_cases aY:x.op=6
 .have di:(x.op == 6)=true:=by simpa using aY
  by_cases a5:r=0
  .have q7:(r == 0)=true:=by simpa using a5
   have bT:=ae (bw.bz bb.o aY a5);clear aY a5 bw;go_upto_region 13 with(fail);generalize hX:World.setCell _ _ _=Y;have bS:dy aT.heap.size Y {s with threads:=(s.threads.set t.toNat (fs++[next f])).set t.toNat (fs++[{next f with pc:=x.target}])} bX.heap.size ⟨aZ,bV,bc,aV,tn,L,be,hn,a3⟩ xs F1 F2 bK bP:=hX▸aR.1.pc x.target;have ar:=cJ hX;have bG:Ext w Y:=Fr.low (M:=λb=>b=c1) (Fr.trans (Fr.mono (ag.1.trans aR.2.1) λ_ h=>h.elim) ar) λb O=>by have:=ag.1.size;omega
   have k:=aR.2.2.on ar (aC ag.2.2.2.1.lt);have bB:=aD bS k bG;clear e0 a6 aP bl aA aO;obtain⟨e0,a6,aP⟩:=bS.o.two;obtain⟨bl,aA,aO⟩:=k.two;clear hX bS ar bG k;go_wp2_with(fail);generalize hX:World.setCell _ _ _=Z;obtain⟨bh,a9,bd⟩:=bA (w:=w) [.slice aZ bV bc,.slice aV tn L,.slice be hn a3,.int .i64 s.fault] (by rfl) bB.2.1 bB.2.2 ad hX;have bf:=ah a9 bd;clear hX a9 bd bl aA aO e0 a6 aP;obtain⟨bl,aA,aO⟩:=bh.two;refine Lk (v:=.tuple #[.agg #[.slice aZ bV bc,.slice aV tn L,.slice be hn a3,.int .i64 s.fault],.bool true]) (by simp[results,Tryz.results32,go_sem,bl]) rfl ?_;rw[bT.o];show cR mG w (bs s t {f with pc:=x.target}) true _ _
   exact gS (Q:=bs s t {f with pc:=x.target}) (q:=⟨aZ,bV,bc,aV,tn,L,be,hn,a3⟩) bB.1 bf.2 (λb O=>by have:=ag.2.2.2.1.lt;omega) (aC ag.1.size) bf.1 (by rw[dZ bU.2.2.1,List.set_set];rfl)
  .have q7:(r == 0)=false:=by simpa using a5
   have bT:=ae (bw.bn bb.o aY a5);clear aY a5 bw;have bB:=aD aR.1.oz aR.2.2 (ag.1.trans aR.2.1);go_wp2_with(fail);generalize hX:World.setCell _ _ _=Z;obtain⟨bh,a9,bd⟩:=bA (w:=w) [.slice aZ bV bc,.slice aV tn L,.slice be hn a3,.int .i64 s.fault] (by rfl) bB.2.1 bB.2.2 ad hX;have bf:=ah a9 bd;clear hX a9 bd bl aA aO e0 a6 aP;obtain⟨bl,aA,aO⟩:=bh.two;refine Lk (v:=.tuple #[.agg #[.slice aZ bV bc,.slice aV tn L,.slice be hn a3,.int .i64 s.fault],.bool true]) (by simp[results,Tryz.results32,go_sem,bl]) rfl ?_;rw[bT.o];show cR mG w (bs s t (next f)) true _ _
   exact gS (Q:=bs s t (next f)) (q:=⟨aZ,bV,bc,aV,tn,L,be,hn,a3⟩) bB.1 bf.2 (λb O=>by have:=ag.2.2.2.1.lt;omega) (aC ag.1.size) bf.1 (by rw[dZ bU.2.2.1])
 .have ac:x.op=1:=ad;have di:(x.op == 6)=false:=by simpa using aY
  cases a2:x.dg with
  | true=>
   have bT:=ae (bw.gl bb.o ac a2);rw[a2] at a8;have b9:=aQ.2.2.2.1 ac a2;have G:=bU.2.2.2.2.1;have bF:=bU.2.2.2.2.2;have cf:x.target<(bV:Int):=ad;have U:=dA.2.2.2;obtain⟨bZ,y,da,bi,⟨cM,bo⟩,cb,b3,ap⟩:=aR.1.oz.dg (j:=x.target.toNat) (by show x.target.toNat<bV;omega);simp only at y;subst y;have cC:=ae (ap r);clear aY ac bw b9 G bF ap;go_upto_region 13 with(fail);generalize hX:World.setCell _ _ _=Y;have bS:dy aT.heap.size Y {s with threads:=s.threads.set t.toNat (fs++[next f]),globals:=s.globals.set x.target.toNat r} bX.heap.size ⟨some ⟨bZ,0,none⟩,bV,bc,aV,tn,L,be,hn,a3⟩ xs F1 F2 bK bP:=hX▸cC.o;have ar:=cJ hX;have cI:=b3;have bG:Ext w Y:=Fr.low (M:=λb=>b=bZ) (Fr.trans (Fr.mono (ag.1.trans aR.2.1) λ_ h=>h.elim) ar) λb O=>by have:=ag.1.size;omega
   have k:=aR.2.2.on ar (aC ag.2.2.2.1.lt);have bB:=aD bS k bG;clear e0 a6 aP bl aA aO;obtain⟨e0,a6,aP⟩:=bS.o.two;obtain⟨bl,aA,aO⟩:=k.two;clear hX bS ar bG k;go_wp2_with(fail);generalize hX:World.setCell _ _ _=Z;obtain⟨bh,a9,bd⟩:=bA (w:=w) [.slice (some ⟨bZ,0,none⟩) bV bc,.slice aV tn L,.slice be hn a3,.int .i64 s.fault] (by rfl) bB.2.1 bB.2.2 ad hX;have bf:=ah a9 bd;clear hX a9 bd bl aA aO e0 a6 aP;obtain⟨bl,aA,aO⟩:=bh.two;refine Lk (v:=.tuple #[.agg #[.slice (some ⟨bZ,0,none⟩) bV bc,.slice aV tn L,.slice be hn a3,.int .i64 s.fault],.bool true]) (by simp[results,Tryz.results32,go_sem,bl]) rfl ?_;rw[bT.o];show cR mG w ({bs s t (next f) with globals:=s.globals.set x.target.toNat r}) true _ _
   exact gS (Q:={bs s t (next f) with globals:=s.globals.set x.target.toNat r}) (q:=⟨some ⟨bZ,0,none⟩,bV,bc,aV,tn,L,be,hn,a3⟩) bB.1 bf.2 (λb O=>by have:=ag.2.2.2.1.lt;omega) (aC ag.1.size) bf.1 (by rw[dZ bU.2.2.1])
  | false=>
   have bT:=ae (bw.lo bb.o ac a2);rw[a2] at a8;have ak:=aQ.2.2.2.2 ac a2;have c0:=cc.2.2.2.2;have cf:x.target<(i2:Int):=ad;have U:=dA.2.2.2;obtain⟨I,dl,da,bi,⟨cM,bo⟩,cb,b3,hints⟩:=aR.1.ints x.target.toNat r ad;subst dl;have cC:=ae hints;clear aY ac bw ak c0 hints;go_upto_region 7 with(fail);exact A0
 ):p:=h
end Cf
open Cf in
theorem vX(u:ay)(s:aj)(t:Int)(f:al)(cq:cH)(x:az)(N:Nat)(w:World)(q:SV)(v:IV)(h:jO u s t f cq x N)(cx:x.op=1\/x.op=6)(hs:q.Ok w s)(bI:v.Ok w x) :
  Calls prog 32 #[.agg (q.val s),.int .i64 t,.agg (v.val x)] w (cR mG w (b2 u s t f x).1 (b2 u s t f x).2):=by
 obtain⟨ao,db,cu,fs,bv,cd⟩:=h.th;obtain⟨bR,bV,bC,TA,tn,tc,HA,hn,hc⟩:=q;obtain⟨eo,en,es,EA,em,ec,QA,qm,qc,dg,j,c9,KA,dj,kc⟩:=v;obtain⟨O,bn,ch,c5,n,fc,IA,i,ic,S,l,lc,e,hT⟩:=hs.at_.top h.sm h.ht;simp only at e;subst e;exact Ap
section
variable {P:Program} {ops:Array Oper} {Q:Exit->Act->World->Prop} {R:World->World->Prop} {tails:List Nat}
theorem wO{rest:PT}{aa:Nat->Nat->Nat->Act}{C:Nat->Nat->Nat->World->Prop}{G:Prop}(h:(∀x y z V,C x y z V->cN P ops Q R tails rest (aa x y z) V)->G)(key:∀x y z V,C x y z V->cN P ops Q R tails rest (aa x y z) V):G:=h key
end
section
variable {P:Program} {ops:Array Oper} {Q:Exit->Act->World->Prop} {R:World->World->Prop} {tails:List Nat}
theorem HG{j k:Nat}{f:Nat->PT}{a:Act}(h:od P ops Q R tails i (f i) a w)(au:od P ops Q R tails j (f j) a w)(aU:od P ops Q R tails k (f k) a w):cN P ops Q R tails (.pick [i,j,k] f) a w:=λm hm=>by
 simp only[KT,List.not_mem_nil,or_false] at hm;rcases hm with rfl|rfl|rfl
 .exact h
 .exact au
 .exact aU
end
theorem Il(n:Nat):madeCells #[.int .i64 0] (n*1)=(List.replicate n (Value.int .i64 0)).toArray:=by
 apply Array.toList_inj.1
 rw[rB (f:=cT) (x:=0) (sz:=1) rfl rfl ad n,tH,List.map_replicate]
theorem uz(is:List Int)(n:Nat):splice (List.replicate n (Value.int .i64 0)) 0 (is.map dc)=(is++List.replicate (n - is.length) 0).map dc:=by
 unfold splice;simp[List.map_replicate]
theorem aq.sl{g:Nat}(h:aq w g 3 (l.map dc).toArray)(hn:l.length=n){P:Nat->Prop}(aZ:P g):Sl w P (some ⟨g,0,none⟩) n (l.map D.i):=by
 refine⟨by simpa using hn,λ_=>⟨g,0,l.map dc,rfl,aZ,ct l,λj u hu=>?_⟩⟩;rw[KV,h.cell];simpa using hu
structure GQ(W:World)(L l:Nat)(a b c:Nat)(V:World):Prop where
 ext:Ext W V
 ba:aq V a 3 (List.replicate L (Value.int .i64 0)).toArray
 bb:aq V b 3 (List.replicate l (Value.int .i64 0)).toArray
 bc:aq V c 75 #[.int .i64 0,.int .i64 0,.slice none 0 0,.slice none 0 0]
 ab:a≠b
 ac:a≠c
 JC:b≠c
 lo:W.heap.size<=a/\W.heap.size<=b/\W.heap.size<=c
theorem hJ(n:Nat):madeCells #[.int .i64 0] n=(List.replicate n (Value.int .i64 0)).toArray:=by have:=Il n;rwa [Nat.mul_one] at this
theorem ij{V:World}{b ty c:TypeId}{j d a:Array Value}(hV:(((W.alloc (.cells j b)).alloc (.cells d ty)).alloc (.cells a c)).drew=V):Ext W V/\aq V W.heap.size b j/\aq V (W.heap.size+1) ty d/\aq V (W.heap.size+1+1) c a:=by
 subst hV;exact⟨(((Ll.alloc _).alloc _).alloc _).drew,((Lm).alloc _).alloc _,(aq.gz _ _ _ (by simp)).alloc _,aq.gz _ _ _ (by simp)⟩
theorem rL{P:Program}(e f ty elem:TypeId)(hu:P.underlying e=some (.slice elem))(bZ:(P.info? elem).map (·.size)=some 1)
  {dp sp:Lp} {c dCap d sCap:Nat} {g:Nat} {cur:List Value} {t:TypeId} (a2:aq w g t cur.toArray) (cs:List Value) (hn:cs.length=Nat.min d c)
  (l:0<cs.length->dp=some ⟨g,0,none⟩/\∃a,sp=some a/\∀j v,cs[j]?=some v->w.cell? (a.add j)=some v)
  (i:cs.length<=cur.length) (ac:∀v∈cs,v.oneCell'=true) :
  ∃ab,(Builtin.copy_ #[e,f] ty #[.slice dp c dCap,.slice sp d sCap]).run P w=.ok (goInt cs.length) ab/\aq ab g t (splice cur 0 cs).toArray/\Fr (λb=>b=g) w ab:=by
 by_cases h0:cs.length=0
 .obtain rfl:cs=[]:=List.eq_nil_of_length_eq_zero h0;exact⟨w,run_copy_none w e f ty elem dp sp c dCap d sCap hu bZ (by simpa using hn.symm),by simpa[splice] using a2,Ll⟩
 .obtain⟨rfl,a,rfl,ay⟩:=l ad;exact⟨_,_root_.Go.run_copy_row (P:=P) w e f ty elem g 0 c dCap a d sCap cur.toArray t cs hu bZ a2 hn ay (by simpa using i) ac,(show _=_ by simpa[splice] using setRow_heap w g _ _ t _ a2),⟨rfl,rfl,rfl,by simp[World.setRow],λk ap be=>setRow_other w g k _ be⟩⟩
theorem cx.Gx{A:Lp}(h:cx (EF cT) 1 w B A n l):0<(l.map dc).length->∃a,A=some a/\∀j v,(l.map dc)[j]?=some v->w.cell? (a.add j)=some v:=λh0=>by
 have hl:=h.1;rw[KH] at h0;obtain⟨b,o,bw,_,hc⟩:=h.2 ad;refine⟨_,bw,λj v bi=>?_⟩;rw[List.getElem?_map] at bi
 cases hx:l[j]? with
 | none=>rw[hx] at bi;cases bi
 | some x=>
  rw[hx] at bi;injection bi with bi;subst bi;obtain⟨cs,rfl,_,Z⟩:=hc j x hx;have:=Z 0 _ rfl;rw[Nat.mul_one,KN] at this;rw[show (⟨b,o,none⟩:Addr).add j=⟨b,o+j,none⟩ by unfold Addr.add;split<;>simp_all];exact this
def HV(w:World)(f:al)(e:Ending)(ab:World):Prop:=∃IA i ic S l lc,e=.returned (.agg #[.int .i64 f.proc,.int .i64 f.pc,.slice IA i ic,.slice S l lc])/\(er f).rep ab (fresh w ab) [.int .i64 f.proc,.int .i64 f.pc,.slice IA i ic,.slice S l lc]/\Ext w ab
namespace Cg
theorem eQ(h:p:=by
 refine tf ?_;generalize hV:World.drew (World.alloc _ _)=V;obtain⟨h0,ac,au,aU⟩:=ij hV;have hC:GQ W L l (W.heap.size+1+1) (W.heap.size) (W.heap.size+1) V:=⟨h0,by rw[<-hJ];exact aU,by rw[<-hJ];exact ac,au,ad,ad,ad,ad⟩
 clear hV h0 ac au aU;generalize W.heap.size+1+1=cT at hC ⊢;generalize W.heap.size+1=g2 at hC ⊢;generalize W.heap.size=ca at hC ⊢;exact key cT ca g2 _ hC
 ):p:=h
end Cg
open Cg in
theorem mframe(u:ay)(k:Int)(cq:cH)(is ls:List Int)(IA S:Lp)(i ic l lc:Nat)(w:World)(p:UV)(hu:p.Ok w u)(h0:0<=k)(hp:u.procs[k.toNat]?=some cq)(hl:(is.length:Int)<=cq.locals)(br:cq.locals<=200)(y:ls.length<=1000)
  (an:Sl w (av w) IA i (is.map D.i)) (bR:Sl w (av w) S l (ls.map D.i)) :
  Calls prog 26 #[.agg (p.val u),.int .i64 k,.slice IA i ic,.slice S l lc] w (HV w (da u k is ls)):=by
 obtain⟨GA,gn,gc,MA,mn,mc,PA,pn,pc⟩:=p;have bk:=hu.at_.p.1;rw[KH] at bk;have cb:=(List.getElem?_eq_some_iff.1 hp).1;obtain⟨pb,eX,cW,bx,b2,bK,e,dN,cP,cr,cy,cd,bv,cJ,_,_⟩:=hu.at_.proc (k:=k.toNat) ad;simp only at e bk;subst e;rw[hp] at cP;injection cP with cP;subst cP;obtain⟨L,aI⟩:=KI (a:=cq.locals) ad;rw[aI] at bv;have cg:is.length=i:=by have:=an.1;simpa using this
 have bI:ls.length=l:=by have:=bR.1;simpa using this
 have hlen:i<=L:=ad;have co:L<=200:=ad;have bj:l<=1000:=ad;have cN:k<(pn:Int):=ad;have bE:eV u k=L:=by unfold eV;rw[hp];simp[aI]
 have b9:=aD cg bI bE;have bo:=ah an bR;have U:=λW=>run_mk de .i64 .i64 L ad ad W;have Y:=λW=>run_mk de .i64 .i64 l ad ad W;have bP:pb<w.heap.size:=dN;clear hu bk cb dN hp cr cy cd cJ aI cg bI bE an bR hl br y;dsimp only[UV.val];go_enter func26,ntmps26;go_upto_region 1 with(fail);generalize ba:World.alloc _ _=W;have aw:=iN ba;have aR:=gC ba;have cA:=ga ba;have dA:=(aw.cell (j:=eX+k.toNat*5+3) bP λh=>h).trans bv;have ax:pb<W.heap.size:=KE bP aw.size;have am:=cA.lt;have ag:=ah aw cA;obtain⟨a0,ai,af⟩:=aR.two;clear ba aw aR cA bv bP;refine qY (λ_=>False) [7,13] (.free 0 (.free 1 (.held 2 (.free 3 (.free 4 (.free 5 (.held 6 (.free 8 (.free 9 (.pick [7,10,12] (λi=>bif i == 7 then .pick [10,12] (λi=>bif i == 10 then .free 11 (.pick [12] (λ_=>.pick [13] (λ_=>.stop))) else .pick [10] (λ_=>.free 11 (.pick [13] (λ_=>.stop)))) else bif i == 10 then .pick [7,12] (λi=>bif i == 7 then .free 11 (.pick [12] (λ_=>.pick [13] (λ_=>.stop))) else .pick [7] (λ_=>.free 11 (.pick [13] (λ_=>.stop)))) else .pick [7,10] (λi=>bif i == 7 then .pick [10] (λ_=>.free 11 (.pick [13] (λ_=>.stop))) else .pick [7] (λ_=>.free 11 (.pick [13] (λ_=>.stop))))))))))))))) ?_
 iterate 2 refine tf ?_
 refine th ?_
 iterate 3 refine tf ?_
 refine th ?_
 iterate 2 refine tf ?_
 refine wO (P:=?P1) (ops:=?o1) (Q:=?q1) (R:=?r1) (tails:=?t1) (rest:=.pick [13] (λ_=>.stop)) (aa:=?aa) (C:=GQ W L l) (λkey=>?main) ?key
 case main=>
  refine HG ?_ ?_ ?_
  ·
   refine bM rfl (λK hK=>?_) rfl;go_simp;refine dO hK ?_;clear hK K;refine aY ?_ ?_
   ·
    refine dP ?_;refine tf ?_;refine ao ?_;refine dP ?_;generalize hV:World.drew (World.alloc _ _)=V;obtain⟨h0,ac,au,aU⟩:=ij hV;have hC:GQ W L l (W.heap.size) (W.heap.size+1) (W.heap.size+1+1) V:=⟨h0,by rw[<-hJ];exact ac,by rw[<-hJ];exact au,aU,ad,ad,ad,ad⟩
    clear hV h0 ac au aU;generalize W.heap.size+1+1=cT at hC ⊢;generalize W.heap.size+1=g2 at hC ⊢;generalize W.heap.size=ca at hC ⊢;exact key ca g2 cT _ hC
   ·
    refine dP ?_;refine ao ?_;refine dP ?_;refine tf ?_;generalize hV:World.drew (World.alloc _ _)=V;obtain⟨h0,ac,au,aU⟩:=ij hV;have hC:GQ W L l (W.heap.size) (W.heap.size+1+1) (W.heap.size+1) V:=⟨h0,by rw[<-hJ];exact ac,by rw[<-hJ];exact aU,au,ad,ad,ad,ad⟩
    clear hV h0 ac au aU;generalize W.heap.size+1+1=cT at hC ⊢;generalize W.heap.size+1=g2 at hC ⊢;generalize W.heap.size=ca at hC ⊢;exact key ca cT g2 _ hC
  ·
   refine dP ?_;refine aY ?_ ?_
   ·
    refine bM rfl (λK hK=>?_) rfl;go_simp;refine dO hK ?_;clear hK K;refine tf ?_;refine ao ?_;refine dP ?_;generalize hV:World.drew (World.alloc _ _)=V;obtain⟨h0,ac,au,aU⟩:=ij hV;have hC:GQ W L l (W.heap.size+1) (W.heap.size) (W.heap.size+1+1) V:=⟨h0,by rw[<-hJ];exact au,by rw[<-hJ];exact ac,aU,ad,ad,ad,ad⟩
    clear hV h0 ac au aU;generalize W.heap.size+1+1=cT at hC ⊢;generalize W.heap.size+1=g2 at hC ⊢;generalize W.heap.size=ca at hC ⊢;exact key g2 ca cT _ hC
   ·
    refine dP ?_;exact fj
  ·
   refine dP ?_;refine aY ?_ ?_
   ·
    refine bM rfl (λK hK=>?_) rfl;go_simp;refine dO hK ?_;clear hK K;refine ao ?_;refine dP ?_;refine tf ?_;generalize hV:World.drew (World.alloc _ _)=V;obtain⟨h0,ac,au,aU⟩:=ij hV;have hC:GQ W L l (W.heap.size+1) (W.heap.size+1+1) (W.heap.size) V:=⟨h0,by rw[<-hJ];exact au,by rw[<-hJ];exact aU,ac,ad,ad,ad,ad⟩
    clear hV h0 ac au aU;generalize W.heap.size+1+1=cT at hC ⊢;generalize W.heap.size+1=g2 at hC ⊢;generalize W.heap.size=ca at hC ⊢;exact key g2 cT ca _ hC
   ·
    refine dP ?_;refine ao ?_;refine bM rfl (λK hK=>?_) rfl;go_simp;refine dO hK ?_;clear hK K;refine tf ?_;generalize hV:World.drew (World.alloc _ _)=V;obtain⟨h0,ac,au,aU⟩:=ij hV;have hC:GQ W L l (W.heap.size+1+1) (W.heap.size+1) (W.heap.size) V:=⟨h0,by rw[<-hJ];exact aU,by rw[<-hJ];exact au,ac,ad,ad,ad,ad⟩
    clear hV h0 ac au aU;generalize W.heap.size+1+1=cT at hC ⊢;generalize W.heap.size+1=g2 at hC ⊢;generalize W.heap.size=ca at hC ⊢;exact key cT g2 ca _ hC
 intro o bZ gc V hC;have bQ:=ae hC;obtain⟨c0,bV,bt⟩:=hC.bc.two;clear hC a0 ai af U Y dA;refine ao ?_;refine bM rfl (λK hK=>?_) rfl;go_simp;refine dO hK ?_;clear hK K;refine b3 ?_;generalize hX:World.setCell _ _ _=X;obtain⟨bz,b8⟩:=ke 0 [.int .i64 k,.int .i64 0,.slice (some ⟨o,0,none⟩) L L,.slice (some ⟨bZ,0,none⟩) l l] bQ.bc hX;have aR:aq X gc 75 #[.int .i64 k,.int .i64 0,.slice (some ⟨o,0,none⟩) L L,.slice (some ⟨bZ,0,none⟩) l l]:=by simpa[iZ] using bz
 have bw:=bQ.ba.on b8 bQ.ac;have bs:=bQ.bb.on b8 bQ.JC;have bp:Ext W X:=Fr.low (M:=λb=>b=gc) (Fr.trans (Fr.mono bQ.ext λ_ h=>h.elim) b8) λb O=>by have:=bQ.lo;omega
 have aQ:=bL bp bw bs aR;obtain⟨d0,aL,aM⟩:=aR.two;clear hX bz b8 aR bw bs bp c0 bV bt;have J:Ext w X:=ag.1.trans aQ.1;have bq:=ag.2.ai aQ.1;have ab:=(bo.1.on (Fr.ext J)).ints;have g:=b9.1;have m:=b9.2.1;have T:(is.map dc).length=Nat.min i L:=by rw[KH];simp only[Nat.min_def];split<;>omega
 have r:=ab.Gx;have I:(is.map dc).length<=(List.replicate L (Value.int .i64 0)).length:=by simp;omega
 have z:=cK aQ.2.1 aQ.2.2.1 aQ.2.2.2 J bq;have f:=cK T r I g m;clear J bq ab T r I g m;obtain⟨aT,G,bg,az⟩:=rL (P:=prog) 22 22 3 3 Tryz.underlying22 (by kernel_rfl) (dp:=some ⟨o,0,none⟩) (dCap:=L) (sp:=IA) (sCap:=ic) z.1 (is.map dc) f.1 (λh=>⟨rfl,f.2.1 h⟩) f.2.2.1 (by simp[Value.oneCell']);have bc:=z.2.2.1.on az (Ne.symm bQ.ac);have bJ:=aD bg az bc;clear bg az;obtain⟨e0,a6,aP⟩:=bc.two;clear bc;have bF:Ext w aT:=Fr.low (M:=λb=>b=o) (Fr.trans (Fr.mono z.2.2.2.1 λ_ h=>h.elim) bJ.2.1) λb O=>by have:=bQ.lo;have:=ag.1.size;omega
 have aj:=(bo.2.on (Fr.ext bF)).ints;have F:=aj.Gx;have bS:(ls.map dc).length=Nat.min l l:=by rw[KH];have:=f.2.2.2.2;simp only[Nat.min_def];split<;>omega
 have N:(ls.map dc).length<=(List.replicate l (Value.int .i64 0)).length:=by have:=f.2.2.2.2;simp;omega
 have bD:=z.2.1.on bJ.2.1 (Ne.symm bQ.ab);have dk:=cK bS F N bD bF;clear bF aj F bS N bD;obtain⟨bX,H,bg,az⟩:=rL (P:=prog) 22 22 3 3 Tryz.underlying22 (by kernel_rfl) (dp:=some ⟨bZ,0,none⟩) (dCap:=l) (sp:=S) (sCap:=lc) dk.2.2.2.1 (ls.map dc) dk.1 (λh=>⟨rfl,dk.2.1 h⟩) dk.2.2.1 (by simp[Value.oneCell']);have bc:=bJ.2.2.on az (Ne.symm bQ.JC);have bW:=aD bg az bc;clear bg az;obtain⟨f0,dH,dL⟩:=bc.two;clear bc;have cG:=(z.2.2.2.2.on bJ.2.1 (aC bQ.lo)).on bW.2.1 (aC bQ.lo);have eN:Ext w bX:=Fr.low (M:=λb=>b=bZ) (Fr.trans (Fr.mono dk.2.2.2.2 λ_ h=>h.elim) bW.2.1) λb O=>by have:=bQ.lo;have:=ag.1.size;omega
 have aW:=ah cG eN;obtain⟨bl,aA,aO⟩:=cG.two;clear cG eN;go_wp2_with(fail);generalize hX:World.setCell _ _ _=Z;obtain⟨bh,a9,bd⟩:=bA (w:=w) [.int .i64 k,.int .i64 0,.slice (some ⟨o,0,none⟩) L L,.slice (some ⟨bZ,0,none⟩) l l] (by rfl) aW.1 aW.2 ad hX;have bf:=ah a9 bd;clear hX a9 bd bl aA aO d0 aL aM e0 a6 aP f0 dH dL G H;obtain⟨bl,aA,aO⟩:=bh.two;refine Lk (v:=.agg #[.int .i64 k,.int .i64 0,.slice (some ⟨o,0,none⟩) L L,.slice (some ⟨bZ,0,none⟩) l l]) (by simp[results,Tryz.results26,go_sem,bl]) rfl ?_;have br:=bQ.lo;have ak:=ag.2.lt;have ap:=(bJ.1.on bW.2.1 bQ.ab).on bf.2 ad;have ar:=bW.1.on bf.2 ad;rw[uz] at ap ar;have al:=b9.2.2;have aH:=ap.lt;have bj:=ar.lt;have s:da u k is ls=⟨k,0,is++List.replicate (L - is.length) 0,ls⟩:=by unfold da;rw[al]
 rw[s];refine⟨some ⟨o,0,none⟩,L,L,some ⟨bZ,0,none⟩,l,l,rfl,gb.2 ⟨_,_,_,_,_,_,rfl,KD _,KD _,ap.sl (by have:=b9.1;simp;omega) ⟨ad,aH⟩,?_⟩,bf.1⟩;have:=ar.sl (n:=l) (P:=fresh w Z) (by have:=b9.2.1;simp;omega) ⟨ad,bj⟩
 rwa [show l - ls.length=0 by have:=b9.2.1;omega,List.replicate_zero,Ld] at this
end Go.Proofs.YtglbpimocmhojaaGreat

/- Part 34 of the proof. No condition of its own. -/
import Derived.Test.YtnigabjngpnbiabGreatF26
import Derived.Test.YtnigabjngpnbiabGreatF32
namespace Go.Proofs.YtnigabjngpnbiabGreat
open Go.RowKit Go.Proofs.Tryz
set_option maxRecDepth 1000000
set_option maxHeartbeats 25600000
set_option linter.unusedVariables false
variable{i:Nat}{p:Prop}{w:World}{e:dS}
namespace C7
theorem pY(h:p:=by
 have bW:=bT.o;subst bW;exact ho.simple (st:=.call bb g.name aY) ⟨s,wb,sA,bU,bx,sl,GA,gn,gc,MA,mn,mc,_,fn,fc,M,F,ar⟩ ck B eE bi d ps V T ls N L av a9 QA cq qc bQ aR.1 fk bn aR.2.2.2.1 cc.1 cd c2 aT (bt.fresh aR.1 J λb O=>ad) aU (eI mF k5 ((b3.ak λb O=>J.block b O.2 (ax O.1)).mono λb O=>⟨by have:=O.1;omega,by have:=O.2;omega⟩) ao (Sl.bY _) (MU _) (Sl.bY _) (MU _)) ⟨g.params,Ns.2 ⟨g,bM.o,rfl⟩,oq cc.1 _ _ (aN _)⟩ (λn hn=>by simp[aB.all] at hn) (by simp only[aB.num];omega) (MU _) bg.2.2 aR.2.1
 ):p:=h
theorem c4(h:p:=by
 generalize cl:World.setCell _ _ _=Y;have J:=GH cl;have aU:an Y S 175 #[bN,.string g.name,(0:Int),(0:Int),NF,(),NF,(),.slice KA k kc,(),()]:=cl▸(a3.2.1.aK 1 _).aK 8 _;clear cl d0 aQ aS;go_wp2_with(fail);obtain⟨bt,_,aN,ao,b3,bO⟩:=a3.o;have cl:=J.size;exact pX
 ):p:=h
theorem fC(h:p:=by
 refine cj ?_;generalize cA:World.setCell _ _ _=Z;obtain⟨bm,bd,a4⟩:=eg (M:=λb=>b=s) [.string g.name,.slice bI bJ b7,.slice m U ab] (by rfl) bK ai fg cA;have bf:S<X.heap.size:=aP.2.1.lt;have bS:s<X:=ad;have bH:cu Z s sA bU bx sl:=aw.cZ a4 λb O h=>ad;have bk:=aP.1.next bl bH bd;have bj:=dH bk (aP.2.1.on bd ad) (aP.2.2.1.on bd ad) bm bz bB;have b8:¬dP=s:=ad;have bZ:=bd.size;clear cA bm bd a4 bH bk bz bB ai aw bK b0 a8 bw;obtain⟨bs,am,aK⟩:=bj.2.2.1.two;obtain⟨b0,a8,bw⟩:=bj.2.2.2.1.two;have b6:¬ck=s:=ad;have bD:bJ<=2:=by
  have ac:=bj.2.2.2.2.2.1;have az:=bo g bj.2.2.2.2.1;simp at ac;omega
 go_upto_region 28 with(fail);refine eJ (λb=>b=s) [(0,3),(1,0),(2,3),(3,0),(4,0),(5,3),(7,3),(6,1),(8,2),(9,3),(10,2)] ?_;refine pf ?_;refine oP ?_;refine pf ?_
 iterate 2 refine oP ?_
 iterate 2 refine pf ?_
 refine aE rfl (λK hK=>?_);go_simp;refine(Aj ⟨s,wb,sA,bU,bx,sl,GA,gn,gc,MA,mn,mc,_,fn,fc,M,F,ar⟩ L a1 be bp bC a9 ps QA cq qc bQ g.name g.params bI bJ b7 (.slice m U ab) Z.drew ((bj.1.aj bl NC.drew).wr aR.1) ((Sl.cD aR.2.2.2.2.1 (bj.1.aj bl NC.drew).fr).mono λb O=>⟨O.1,λh=>O.2 (.inl h)⟩) ad ((Sl.cD aR.2.2.1 (bj.1.aj bl NC.drew).fr).mono λb O=>⟨O.1,λh=>O.2 (.inl h)⟩) bv ((Sl.cD bj.2.2.2.2.2 (bj.1.aj bl NC.drew).fr).mono λb O=>⟨O.1,λh=>O.2 (.inl h)⟩) bD).mono ?_;rintro e aW ⟨aY,KA,k,kc,rfl,aN,ao,b3,aw,ai⟩;simp only at aN aw ai;have aj:Fr (λb=>b=s) Z aW:=Fr.aF ai;have ag:=bj.2.1.on aj ad;have a3:=dH (bj.1.next bl aw aj) ag aN ao b3 aj.size;have bM:=ae bj.2.2.2.2.1;have b1:X<=Z.drew.heap.size:=bZ;refine dB hK (ai) ?_;clear hK K;clear bs am aK b0 a8 bw ai aw b3 ao aN aj;obtain⟨d0,aQ,aS⟩:=ag.two;clear ag;refine au rfl (λK hK=>?_);go_simp;exact nH
 ):p:=h
theorem mb(h:p:=by
 have bG:=aR.1.nf;have bo:=aR.1.jo;simp only at bG bo;have gR:¬wb=s:=ad;obtain⟨ch,cT,ba,_⟩:=aR.1.fs.some_ bG.1;simp only at ba;subst ba;go_upto_region 27 with(fail);generalize hX:World.setCell _ _ _=X;have J:Fr (λb=>b=S.heap.size) wr X:=by rw[<-hX];first|exact(Fr.refl (λb=>b=S.heap.size) wr).setCell (.inl rfl) _|exact((Fr.refl (λb=>b=S.heap.size) wr).setCell (.inl rfl) _).setCell (.inl rfl) _
 have bE:an X S 175 #[bN,NF,(0:Int),(0:Int),NF,(),NF,(),(),(),()]:=by rw[<-hX,aA.o];first|exact(bY.2.2.aK 0 _)|exact(bY.2.2.aK 0 _).aK 0 _
 have H:=bY.1.fresh aR.1 J λb O=>ad;have a5:=bY.2.1.on J ad;have aP:=br H bE a5 J.size;clear hX a0 ak af bs am aK d0 aQ aS J bE H a5;obtain⟨a0,ak,af⟩:=aP.1.blk.two;refine sK (λb=>b=s) [19] (.free 0 (.free 1 (.free 2 (.free 3 (.held 4 (.free 5 (.free 6 (.free 7 (.held 8 (.free 9 (.free 10 (.free 11 (.free 12 (.held 13 (.free 14 (.pick [15,18] (λi=>bif i == 15 then .free 16 (.held 17 (.pick [18] (λ_=>.pick [19] (λ_=>.stop)))) else .pick [15] (λ_=>.free 16 (.held 17 (.pick [19] (λ_=>.stop))))))))))))))))))))) ?_
 iterate 4 refine tf ?_
 refine pd ?_
 iterate 3 refine tf ?_
 refine pd ?_
 iterate 4 refine tf ?_
 refine pd ?_;refine tf ?_;clear a0 ak af;refine jf (P:=?_) (ops:=?_) (Q:=?_) (R:=?_) (tails:=?_) (rest:=.pick [19] (λ_=>.stop)) (aa:=?_)
  (C:=λ(dP:Nat) (j:Nat) (y:Value) eX=>Fr (λb=>b=s) X eX/\cu eX s sA bU bx sl/\an eX dP 118 #[NF,(),()]/\X<=dP/\∃(g:aI) (bI:NH) (bJ b7:Nat) (m:NH) (U ab:Nat),y=.agg #[.string g.name,.slice bI bJ b7,.slice m U ab]/\g∈F/\Sl S (off (λb=>b=s\/b=wb) S) bI bJ (g.params.map cC)) (λkey=>?_) ?_
 rotate_left 6
 ·
  refine a2 ?_ ?_
  ·
   refine aD rfl (λK hK=>?_) rfl;go_simp;refine(aZ X.drew s sA bU bx sl fn (aP.1.aj bl NC.drew).src ad ad).mono ?_;rintro e aO ⟨cw,rfl,a7,b2,h,he⟩;obtain⟨j,rfl⟩:=M6 a7;have aV:j<fn:=ad;have ai:Fr (λb=>b=s) X aO:=Fr.aF he.fr;have l:Fr (λb=>b=s\/b=wb) S aO:=aP.1.fr.trans (ai.mono λ_ h=>.inl h);refine dB hK (he.fr) ?_;clear hK K;obtain⟨bh,bV,g,cs,I,cH,r,al,bu,hc⟩:=Sl.g1 (z:=3) aR.1.fs (λ_=>rfl) (k:=j) (by simpa using aV);injection I with I;injection I with hFA1 hFA2;subst hFA1 hFA2;obtain⟨bI,bJ,b7,m,U,ab,rfl,bA,bB⟩:=FL al;have e0:=(l.cell cH.1 cH.2).trans (hc 0 _ rfl);have e1:=(l.cell cH.1 cH.2).trans (hc 1 _ rfl);have e2:=(l.cell cH.1 cH.2).trans (hc 2 _ rfl);simp only[Nd] at e0;have cr:ch<aO:=by have:=l.size;have:=cH.1;omega
   have bR:¬ch=s:=λh=>cH.2 (.inl h);have cO:(0:Int)<=(j:Int):=ad;have fq:(j:Int)<(fn:Int):=ad;have a6:=M4 r;skip
   refine tf ?_;refine L2 ?_;refine aq ?_;refine ep ?_;generalize cA:World.alloc _ _=Z;have e3:=aX cA;have aF:Fr (λb=>b=s) X Z/\cu Z s sA bU bx sl/\an Z aO 118 #[NF,(),()]/\X<=aO.heap.size/\∃(ah:aI) (aH:NH) (G aM:Nat) (ap:NH) (aL aC:Nat),(Value.agg #[.string g.name,.slice bI bJ b7,.slice m U ab])=.agg #[.string ah.name,.slice aH G aM,.slice ap aL aC]/\ah∈F/\Sl S (off (λb=>b=s\/b=wb) S) aH G (ah.params.map cC):=
    ⟨ai.trans (e3.mono λ_ h=>h.elim),h.cZ e3 λ_ _ h=>h,by rw[<-cA];exact ND,ai.size,g,bI,bJ,b7,_,_,_,rfl,a6,bB⟩
   clear cA e3 bB al bu hc e0 e1 e2;revert aF;generalize aO.heap.size=dP;generalize (Value.agg #[.string g.name,.slice bI bJ b7,.slice m U ab])=y;intro aF;exact key dP j y _ aF
  ·
   refine ep ?_;generalize hV:World.drew (World.alloc _ _)=c3;have e1:=hy hV;have cg:=lW hV;have cn:=cg.lt;refine aq ?_;refine aD rfl (λK hK=>?_) rfl;go_simp;refine(aZ c3 s sA bU bx sl fn (aP.1.aj bl e1).src ad ad).mono ?_;rintro e aO ⟨cw,rfl,a7,b2,h,he⟩;obtain⟨j,rfl⟩:=M6 a7;have aV:j<fn:=ad;have ai:Fr (λb=>b=s) X aO:=(e1.mono λ_ h=>h.elim).trans he.fr;have l:Fr (λb=>b=s\/b=wb) S aO:=aP.1.fr.trans (ai.mono λ_ h=>.inl h);have dF:s<X:=by have:=aP.2.2.2;omega
   refine dB hK (he.fr) ?_;clear hK K;obtain⟨bh,bV,g,cs,I,cH,r,al,bu,hc⟩:=Sl.g1 (z:=3) aR.1.fs (λ_=>rfl) (k:=j) (by simpa using aV);injection I with I;injection I with hFA1 hFA2;subst hFA1 hFA2;obtain⟨bI,bJ,b7,m,U,ab,rfl,bA,bB⟩:=FL al;have e0:=(l.cell cH.1 cH.2).trans (hc 0 _ rfl);have e1:=(l.cell cH.1 cH.2).trans (hc 1 _ rfl);have e2:=(l.cell cH.1 cH.2).trans (hc 2 _ rfl);simp only[Nd] at e0;have cr:ch<aO:=by have:=l.size;have:=cH.1;omega
   have bR:¬ch=s:=λh=>cH.2 (.inl h);have cO:(0:Int)<=(j:Int):=ad;have fq:(j:Int)<(fn:Int):=ad;have a6:=M4 r;skip
   refine tf ?_;refine L2 ?_;have aF:Fr (λb=>b=s) X aO/\cu aO s sA bU bx sl/\an aO X 118 #[NF,(),()]/\X<=X.heap.size/\∃(ah:aI) (aH:NH) (G aM:Nat) (ap:NH) (aL aC:Nat),(Value.agg #[.string g.name,.slice bI bJ b7,.slice m U ab])=.agg #[.string ah.name,.slice aH G aM,.slice ap aL aC]/\ah∈F/\Sl S (off (λb=>b=s\/b=wb) S) aH G (ah.params.map cC):=
    ⟨ai,h,cg.on he.fr ad,MU _,g,bI,bJ,b7,_,_,_,rfl,a6,bB⟩
   clear hV bB al bu hc e0 e1 e2;revert aF;generalize (Value.agg #[.string g.name,.slice bI bJ b7,.slice m U ab])=y;intro aF;exact key X j y _ aF
 ·
  rintro dP j y eX ⟨ai,aw,bK,fg,g,bI,bJ,b7,m,U,ab,rfl,bz,bB⟩;obtain⟨b0,a8,bw⟩:=bK.two;exact fQ
 ):p:=h
end C7
open C7 in
theorem F8(bb:Bool)(k:Int)(d bp:Nat)(h:bb=false/\k=9\/bb=true/\k=10):SK k d bp:=by
 obtain⟨bN,ay⟩:∃bN:Int,bN=if bb then 4 else 3:=⟨_,rfl⟩
 have bT:=ae ay;rcases h with⟨O,rfl⟩|⟨O,rfl⟩
 all_goals
  rw[O] at ay;have aA:=ae ay;clear ay O;exact ma
theorem mZ{α:Type}(f:α->ByteArray)(k:Int):∀(l:List α) (j i:Nat),(iS f k l j)[i]?=(l[i]?).map λx=>⟨f x,k,((j+i:Nat):Int)⟩
 | [],j,i=>by simp[iS]
 | x::l,j,0=>by simp[iS]
 | x::l,j,i+1=>by
  rw[iS,List.getElem?_cons_succ,List.getElem?_cons_succ,mZ f k l (j+1) i,show j+1+i=j+(i+1) by omega]
theorem eK{α:Type}(f:α->ByteArray)(k:Int):∀(l:List α) (j:Nat),(iS f k l j).length=l.length
 | [],_=>rfl
 | x::l,j=>by simp[iS,eK f k l (j+1)]
theorem lp(p:bN):(bp p).length=p.globals.length+p.af.length+p.funcs.length:=by simp[bp,eK];omega
theorem GQ{p:bN}{g:ByteArray×Int}(h:p.globals[i]?=some g):(bp p)[i]?=some ⟨g.1,1,(i:Int)⟩:=by
 have hl:=(List.getElem?_eq_some_iff.1 h).1;unfold bp;rw[List.getElem?_append_left (by simp[eK];omega),List.getElem?_append_left (by simp[eK];omega),mZ,h];simp
theorem GR{p:bN}{m:bM}(h:p.af[i]?=some m):(bp p)[p.globals.length+i]?=some ⟨m.name,2,(i:Int)⟩:=by
 have hl:=(List.getElem?_eq_some_iff.1 h).1;unfold bp;rw[List.getElem?_append_left (by simp[eK];omega),List.getElem?_append_right (by simp[eK]),eK,mZ,show p.globals.length+i - p.globals.length=i by omega,h];simp
theorem yI{p:bN}{f:aI}(h:p.funcs[i]?=some f):(bp p)[p.globals.length+p.af.length+i]?=some ⟨f.name,3,(i:Int)⟩:=by
 unfold bp;rw[List.getElem?_append_right (by simp[eK]),M3,eK,eK,mZ,show p.globals.length+p.af.length+i - (p.globals.length+p.af.length)=i by omega,h];simp
theorem kZ{L:List dS}(hn:(L.map (·.name)).Nodup)(he:L[i]?=some e):dI (L.take i) e.name=none:=by
 refine kb λj x bi hx=>?_;have z:j<i:=by have:=(List.getElem?_eq_some_iff.1 bi).1;simp at this;omega
 have g:L[j]?=some x:=by rw[<-bi,List.getElem?_take_of_lt z]
 have ac:(L.map (·.name))[j]?=some x.name:=by rw[List.getElem?_map,g];rfl
 have az:(L.map (·.name))[i]?=some e.name:=by rw[List.getElem?_map,he];rfl
 have aV:=(List.getElem?_eq_some_iff.1 ac).1;have cy:=(List.getElem?_eq_some_iff.1 az).1;rw[List.getElem?_eq_getElem aV] at ac;rw[List.getElem?_eq_getElem cy] at az;injection ac with ac;injection az with az;have:=(List.getElem_inj hn).1 (ac.trans (hx.trans az.symm));omega
theorem oy{p:bN}(hp:pe p):((bp p).map (·.name)).Nodup:=by rw[gi];exact hp.nodup
def Gw(w:World)(p:bN)(e:Ending)(ab:World):Prop:=∃(bC:NH) (lc:Nat),e=.returned (.tuple #[.slice bC (bp p).length lc,.int .i64 (-1)])/\Sl ab (fresh w ab) bC (bp p).length ((bp p).map b2)/\Ext w ab
theorem om{p:bN}{k:Nat}(h:(bp p)[k]?=some e):((bp p).take (k+1)).map b2=((bp p).take k).map b2++[b2 e]:=by rw[aU h,Na];rfl
namespace Dj
theorem c4(h:p:=by
 generalize hV:World.drew (World.alloc _ _)=V;have ai:=hy hV;have b4:an V wr 128 #[.string f.name,(3:Int),j]:=hV▸(ND).drew;obtain⟨bO,aE⟩:=aJ ai b4;have a8:=ae (bk.trans ai);have cb:=ae (bL.aj ai);have aq:=ae (bK.aj ai);have a1:=kZ n.o d;have y:=aq.sl (Q:=av V) (λb _ h=>h.elim) (λb _ h=>by assumption);clear hV ai b4 c0 aZ a0 ak af;obtain⟨d0,aQ,aS⟩:=aE.two;go_wp2_with(fail);refine(eh A (gn+mn+j) c _ f.name _ y ad).mono ?_;rintro e aO ⟨rfl,ar⟩
 try simp only at a1
 rw[a1];simp only[jq];have a4:=ae (a8.trans ar);have cm:=ae (cb.aj ar);have aD:=ae (aq.aj ar);have i:=aE.aj ar;clear d0 aQ aS ar y;go_upto_region 15 with(fail);generalize co:World.alloc _ _=Y;have s:=aX co;have l:=i.aj s;have z:=ae (aD.aj s);have bQ:=ae (a4.trans s);have cn:=ae (cm.aj s);clear co i s;obtain⟨d0,aQ,aS⟩:=l.two;have cX:=bQ.size;have bE:=cn.lt;clear l;go_wp2_with((at_builtin;refine bJ jz rfl (.tmp 88) (.tmp 90) rfl z.o (ka ⟨f.name,3,(j:Int)⟩) rfl rfl rfl ad ad ad ?_;intro A2 c2 aW ao aA ci b8));have al:Gr (λ_=>False) (w.heap.size+1) 128 3 aW A2 (gn+mn+j+1) c2 (((bp p).take (gn+mn+j+1)).map b2):=by rw[om d];exact ao
 have bV:Ext w aW:=Fr.low (M:=λb=>w.heap.size<=b) ((bQ.mono λ_ h=>h.elim).trans (aA.mono λb O=>by have:=(z.lt O).1;omega)) λ_ h=>h;have bh:=cn.on aA λO=>by have:=(z.lt O).1;omega
 have b7:=ay al bV bh;clear al bV bh ao aA ci d0 aQ aS;go_wp2;go_roundw
 case rel=>exact⟨rfl,(gn+mn+j)+1,A2,c2,ad,by go_num,rfl,b7.o⟩
 case measure=>exact aH
 ):p:=h
theorem ti(h:p:=by
 have n:=ae (oy hp);obtain⟨I,dX,bZ⟩:=eU aR hm J;have F:=ae (lp p);have cA:(bp p).length=gn+mn+fn:=by rw[lp,ds,lm,lf]
 have bT:=ay ds lm lf;clear h aR hm J hp ds lm lf;go_enter func47,ntmps47;go_upto_region 1 with(fail);generalize be:World.alloc _ _=W;have aF:=aX be;have aT:=aL be;obtain⟨bk,bL⟩:=aJ aF aT;obtain⟨a0,ak,af⟩:=aT.two;clear be aF aT;go_wp2;clear a0 ak af;go_loopw [4,5,7] (λgT bv b5 wr=>bv=.int .i64 (-1)/\∃(k:Nat) (A:NH) (c:Nat),k<=gn+mn+fn/\b5=.int .i64 k/\gT=.slice A k c/\Gr (λ_=>False) (w.heap.size+1) 128 3 wr A k c (((bp p).take k).map b2)/\Ext w wr/\an wr w 56 #[.slice GA gn gc,.slice MA mn mc,.slice FA fn fc]) (λ_ _ b5 _=>gn+mn+fn - (intOf b5).toNat)
 case atStart=>exact⟨rfl,0,none,0,ad,rfl,rfl,Gr.nil _ _ _ _ _,bk.o,bL.o⟩
 case round=>
  obtain⟨rfl,k,A,c,aj,rfl,rfl,hG,aF,aT⟩:=hrel;clear bk bL;obtain⟨bK,bk,bL⟩:=eU hG aF aT;obtain⟨a0,ak,af⟩:=aT.two;have mL:=aF.size;clear hG aF aT;by_cases ap:k<gn+mn+fn
  .by_cases ac:k<gn
   ·
    obtain⟨b,o,g,cs,rfl,O,hx,ba,bu,Z⟩:=(I.on (Fr.ext bk.o)).g1 px ac;obtain rfl:=mW.1 ba;have c0:=Z 0 _ rfl;simp only[Nd] at c0;have aZ:b<wr:=O;have d:=GQ hx;have q1:decide ((k:Int) - (gn:Int)<0)=true:=by first|(simp;done)|(simp;omega)
    clear ba bu Z hx O;go_upto_region 14 with(fail);generalize hV:World.alloc _ _=V;have ai:=aX hV;have b4:=aL hV;obtain⟨bO,aE⟩:=aJ ai b4;have a8:=ae (bk.trans ai);have cb:=ae (bL.aj ai);have aq:=ae (bK.aj ai);have a1:=kZ n.o d;have y:=aq.sl (Q:=av V) (λb _ h=>h.elim) (λb _ h=>by assumption);clear hV ai b4 c0 aZ a0 ak af;obtain⟨d0,aQ,aS⟩:=aE.two;go_wp2_with(fail);refine(eh A k c _ g.1 _ y ad).mono ?_;rintro e aO ⟨rfl,ar⟩
    try simp only at a1
    rw[a1];simp only[jq];have a4:=ae (a8.trans ar);have cm:=ae (cb.aj ar);have aD:=ae (aq.aj ar);have i:=aE.aj ar;clear d0 aQ aS ar y;go_upto_region 15 with(fail);generalize co:World.alloc _ _=Y;have s:=aX co;have l:=i.aj s;have z:=ae (aD.aj s);have bQ:=ae (a4.trans s);have cn:=ae (cm.aj s);clear co i s;obtain⟨d0,aQ,aS⟩:=l.two;have cX:=bQ.size;have bE:=cn.lt;clear l;go_wp2_with((at_builtin;refine bJ jz rfl (.tmp 88) (.tmp 90) rfl z.o (ka ⟨g.1,1,(k:Int)⟩) rfl rfl rfl ad ad ad ?_;intro A2 c2 aW ao aA ci b8));have al:Gr (λ_=>False) (w.heap.size+1) 128 3 aW A2 (k+1) c2 (((bp p).take (k+1)).map b2):=by rw[om d];exact ao
    have bV:Ext w aW:=Fr.low (M:=λb=>w.heap.size<=b) ((bQ.mono λ_ h=>h.elim).trans (aA.mono λb O=>by have:=(z.lt O).1;omega)) λ_ h=>h;have bh:=cn.on aA λO=>by have:=(z.lt O).1;omega
    have b7:=ay al bV bh;clear al bV bh ao aA ci d0 aQ aS;go_wp2;go_roundw
    case rel=>exact⟨rfl,k+1,A2,c2,ad,by go_num,rfl,b7.o⟩
    case measure=>exact aH
   .by_cases az:k - gn<mn
    ·
     obtain⟨b,o,m,cs,rfl,O,hx,ba,bu,Z⟩:=(dX.on (Fr.ext bk.o)).g1 tz az;obtain rfl:=fv.1 ba;have c0:=Z 0 _ rfl;simp only[Nd] at c0;have aZ:b<wr:=O;have d:=GR hx;obtain⟨j,bi⟩:∃j,k=gn+j:=⟨k - gn,ad⟩
     subst bi;have fq:gn+j - gn=j:=ad;rw[fq] at c0 az d hx;rw[bT.1] at d;have q:(gn:Int)+(j:Int) - (gn:Int)=(j:Int):=ad;have q1:decide ((j:Int)<0)=false:=by first|(simp;done)|(simp;omega)
     have cL:((j:Int)<(mn:Int)):=ad;clear ba bu Z hx O;go_upto_region 14 with(fail);generalize hV:World.alloc _ _=V;have ai:=aX hV;have b4:=aL hV;obtain⟨bO,aE⟩:=aJ ai b4;have a8:=ae (bk.trans ai);have cb:=ae (bL.aj ai);have aq:=ae (bK.aj ai);have a1:=kZ n.o d;have y:=aq.sl (Q:=av V) (λb _ h=>h.elim) (λb _ h=>by assumption);clear hV ai b4 c0 aZ a0 ak af;obtain⟨d0,aQ,aS⟩:=aE.two;go_wp2_with(fail);refine(eh A (gn+j) c _ m.name _ y ad).mono ?_;rintro e aO ⟨rfl,ar⟩
     try simp only at a1
     rw[a1];simp only[jq];have a4:=ae (a8.trans ar);have cm:=ae (cb.aj ar);have aD:=ae (aq.aj ar);have i:=aE.aj ar;clear d0 aQ aS ar y;go_upto_region 15 with(fail);generalize co:World.alloc _ _=Y;have s:=aX co;have l:=i.aj s;have z:=ae (aD.aj s);have bQ:=ae (a4.trans s);have cn:=ae (cm.aj s);clear co i s;obtain⟨d0,aQ,aS⟩:=l.two;have cX:=bQ.size;have bE:=cn.lt;clear l;go_wp2_with((at_builtin;refine bJ jz rfl (.tmp 88) (.tmp 90) rfl z.o (ka ⟨m.name,2,(j:Int)⟩) rfl rfl rfl ad ad ad ?_;intro A2 c2 aW ao aA ci b8));have al:Gr (λ_=>False) (w.heap.size+1) 128 3 aW A2 (gn+j+1) c2 (((bp p).take (gn+j+1)).map b2):=by rw[om d];exact ao
     have bV:Ext w aW:=Fr.low (M:=λb=>w.heap.size<=b) ((bQ.mono λ_ h=>h.elim).trans (aA.mono λb O=>by have:=(z.lt O).1;omega)) λ_ h=>h;have bh:=cn.on aA λO=>by have:=(z.lt O).1;omega
     have b7:=ay al bV bh;clear al bV bh ao aA ci d0 aQ aS;go_wp2;go_roundw
     case rel=>exact⟨rfl,(gn+j)+1,A2,c2,ad,by go_num,rfl,b7.o⟩
     case measure=>exact aH
    ·
     have aV:k - gn - mn<fn:=ad;obtain⟨b,o,f,cs,rfl,O,hx,ba,bu,Z⟩:=(bZ.on (Fr.ext bk.o)).g1 qo aV;obtain⟨PA,pn,pc,f0,bn,bc,rfl,_,_⟩:=kU ba;have c0:=Z 0 _ rfl;simp only[Nd] at c0;have aZ:b<wr:=O;have d:=yI hx;obtain⟨j,bi⟩:∃j,k=gn+mn+j:=⟨k - gn - mn,ad⟩
     subst bi;have fq:gn+mn+j - gn - mn=j:=ad;rw[fq] at c0 aV d hx;rw[bT.1,bT.2.1] at d;have q:(gn:Int)+(mn:Int)+(j:Int) - (gn:Int)=(mn:Int)+(j:Int):=ad;have ag:(mn:Int)+(j:Int) - (mn:Int)=(j:Int):=ad;have q1:decide ((mn:Int)+(j:Int)<0)=false:=by first|(simp;done)|(simp;omega)
     have cL:decide ((mn:Int)+(j:Int)<(mn:Int))=false:=by first|(simp;done)|(simp;omega)
     have r:IntKind.i64.wrap (j:Int)=j:=IntWalk.i64_in _ ad;clear ba bu Z hx O;go_wp2;refine eJ (λ_=>False) [(0,3),(1,0),(2,3),(3,3),(4,0),(5,3),(6,3),(7,3),(8,3),(9,0),(10,3),(11,3),(12,0),(13,3),(14,3),(15,3),(16,2)] ?_;refine pf ?_;refine ph ?_
     iterate 2 refine pf ?_
     refine ph ?_
     iterate 4 refine pf ?_
     refine ph ?_
     iterate 2 refine pf ?_
     refine ph ?_
     iterate 3 refine pf ?_
     exact ew
  .obtain rfl:gn+mn+fn=k:=ad;go_wp2
   go_ret2
   refine⟨A,c,by rw[cA];rfl,?_,bk.o⟩;have:=bK.o;rw[Nb ad] at this;rw[cA];exact this.sl (λb _ h=>h.elim) λb ac az=>⟨ad,ac⟩
 ):p:=h
theorem wI(h:p:=by
 exact tg
 ):p:=h
end Dj
open Dj in
theorem tv(p:bN)(hp:pe p)(GA:NH)(gn gc:Nat)(MA:NH)(mn mc:Nat)(FA:NH)(fn fc:Nat)(w:World)(h:gX w (av w) p GA gn MA mn FA fn) :
  Calls prog 47 #[.agg #[.slice GA gn gc,.slice MA mn mc,.slice FA fn fc]] w (Gw w p):=by
 exact wH
theorem E5(w:World)(b i:Nat)(v:Value):Fr (λk=>k=b) w.drew (w.setCell ⟨b,i,none⟩ v).drew:=
 have h:=(Fr.refl (λk=>k=b) w).setCell (p:=⟨b,i,none⟩) (.inl rfl) v
 ⟨h.os,h.tape,h.output,h.size,h.block⟩
theorem va{M:Nat->Prop}{ab:World}(h:Fr M w ab):Fr M w.drew ab.drew:=⟨h.os,h.tape,h.output,h.size,h.block⟩
theorem qT:∀(ps:List (ByteArray×Bool)) (q:ByteArray×Bool) (i k:Int),dZ (ps++[q]) i k=dZ ps i k++[if q.2 then ⟨q.1,5,k+bU ps⟩ else ⟨q.1,4,i+cm ps⟩]
 | [],(s,true),i,k=>by simp[dZ,bU]
 | [],(s,false),i,k=>by simp[dZ,cm]
 | (x,true)::ps,q,i,k=>by
  have:=(g6 x true ps).2;have az:=(g6 x true ps).1;rw[Nj,dZ,dZ,qT ps q i (k+1),this,az];simp
  split<;>simp<;>omega
 | (x,false)::ps,q,i,k=>by
  have:=(g6 x false ps).2;have az:=(g6 x false ps).1;rw[Nj,dZ,dZ,qT ps q (i+1) k,this,az];simp;split<;>simp<;>omega
theorem lI(ps:List (ByteArray×Bool))(q:ByteArray×Bool):cm (ps++[q])=cm ps+(if q.2 then 0 else 1)/\bU (ps++[q])=bU ps+(if q.2 then 1 else 0):=by
 obtain⟨s,b⟩:=q;cases b<;>simp[cm,bU]
theorem zF{P:Nat->Prop}{p:cR}{cs:List Value}:(gA p).rep w P cs↔∃A n c,cs=[.string p.name,.int .i64 p.ints,.int .i64 p.az,.int .i64 p.locals,.slice A n c]/\n<=c/\Sl w P A n (p.code.map er):=by
 unfold gA;rw[bK,cx];constructor
 .rintro⟨y,rfl,h⟩;exact Im
 .rintro⟨A,n,c,rfl,hc,hs⟩;exact⟨_,rfl,bj.2 ⟨_,rfl,bj.2 ⟨_,rfl,bj.2 ⟨_,rfl,aN.2 ⟨A,n,c,[],rfl,hc,hs,aR.2 rfl⟩⟩⟩⟩⟩
def Ke(w:World)(x:cR)(e:Ending)(ab:World):Prop:=∃(A:NH) (n c:Nat) (bI:NH) (bU bx:Nat),
 e=.returned (.tuple #[.agg #[.string x.name,.int .i64 x.ints,.int .i64 x.az,.int .i64 x.locals,.slice A n c],.slice bI bU bx,.int .i64 0,.int .i64 0])/\(gA x).rep ab (fresh w ab) [.string x.name,.int .i64 x.ints,.int .i64 x.az,.int .i64 x.locals,.slice A n c]/\Ext w ab
namespace Dk
theorem c4(h:p:=by
 clear bs am aK;generalize hX:World.setCell _ _ _=X;have b9:=cP hX;have bw:=b7.2.2.2.2.2.1.on b9 ad;have m:an X g 181 #[.slice GA gn gc,.slice MA mn mc,.slice FA fn fc,.slice A2 (ln+k+1) c2,(0:Int),(0:Int),(0:Int),(0:Int),(),()]:=hX▸b7.2.2.2.2.1.aK 3 _;have aP:=ah b9 m;clear c0 ch bz hX b9 m;obtain⟨c0,ch,bz⟩:=bw.two;have cB:=ae bw;clear bw;have bH:=m6 (f.params.take k);have bf:=iX (f.params.take k);have dz:(f.params.take k).length<=2:=by rw[List.length_take];omega
 have dD:wrap64 (bU (f.params.take k)+1)=bU (f.params.take k)+1:=IntWalk.wrap64_in _ ad;go_upto_region 5 with(fail);generalize cl:World.setCell _ _ _=cD
 try rw[dD] at cl
 have I:=cP cl;obtain⟨ao,b3,bS,cM,_,_,cE⟩:=b7.o;obtain⟨b9,m⟩:=aP.o;have bd:=(a8.o:W.heap.size<=g)
 have r1:Gr (λ_=>False) W.heap.size 128 3 cD A2 (ln+(k+1)) c2 ((bp p++dZ (f.params.take (k+1)) 0 0).map b2):=by
  exact Ib
 have gV:Ext w cD:=Fr.low (M:=λb=>w.heap.size<=b) ((b3.mono λ_ h=>h.elim).trans ((b9.mono λb O=>ad).trans (I.mono λb O=>ad))) λ_ h=>h;have gW:=(bS.on b9 ad).on I ad;have cq:=(cM.on b9 ad).on I ad;have rg:=m.on I ad;have ro:an cD o 82 #[.string f.name,.int .i64 (cm (f.params.take (k+1))),.int .i64 (bU (f.params.take (k+1))),(0:Int),()]:=by
  rw[aU bW.o,(lI _ _).1,(lI _ _).2,eE,<-cl];simpa using cB.aK 2 _
 exact Ip
 ):p:=h
theorem fC(h:p:=by
 refine tf ?_;refine cj ?_;generalize co:World.setCell _ _ _=Y;obtain⟨_,s,_⟩:=qu b4 aC bd co;have cb:=ae (bk.trans s);have L:=aw.aj s;have ea:=ae L;have dt:=ae (bD.aj s);have cQ:=bI.aj s;have aN:=bL.aj s;have cv:=ae (bK.aj s);replace h0:=(s.cell N (λh=>h)).trans h0
 replace bX:=(s.cell N (λh=>h)).trans bX
 have cX:=s.size;replace N:pb<Y:=M0 N cX
 clear co c0 ch bz b4 aC bd s a0 ak af bs am aK bI bL;obtain⟨bI,bL⟩:=aJ cQ aN;obtain⟨a0,ak,af⟩:=L.two;obtain⟨bs,am,aK⟩:=cQ.two;obtain⟨c0,ch,bz⟩:=aN.two;clear L cQ aN;have bM:¬Y<=g:=ad;have et:¬Y<=o:=ad;have en:¬Y<=w.heap.size+1:=ad;have eu:¬Y<=pb:=ad
 cases eE:q.2 with
 | true=>
  rw[eE] at bX;go_wp2;refine eJ (λb=>Y.heap.size<=b) [(0,3),(1,3),(2,3),(3,3),(4,0),(5,3),(6,0),(7,3),(8,3),(9,3),(10,0),(11,3),(12,0),(13,3),(14,1),(15,2),(16,3),(17,3),(18,2)] ?_
  iterate 4 refine pf ?_
  refine oP ?_;refine pf ?_;refine oP ?_
  iterate 3 refine pf ?_
  refine oP ?_;refine pf ?_;refine oP ?_;refine pf ?_;refine rS ?_;generalize hV:World.drew (World.alloc _ _)=db;have e1:=hy hV;have cY:an db Y 128 #[.string q.1,(5:Int),.int .i64 (bU (f.params.take k))]:=hV▸(ND).drew;clear hV;refine au rfl (λK hK=>?_);rw[if_pos (by rfl)];refine fq jz (.tmp 57) (.tmp 67) (by rfl) (cv.aj e1) cY (ka ⟨q.1,5,bU (f.params.take k)⟩) (by rfl) (by rfl) (by rfl) ad ad (ax e1.size) ?_;intro A2 c2 cO ao aA ci b8;have b3:Ext w cO:=Fr.low (M:=λb=>w.heap.size<=b) (((cb.trans e1).mono λ_ h=>h.elim).trans (aA.mono λb O=>by have:=(cv.lt O).1;omega)) λ_ h=>h;have aB:∀b,(Value.slice A (ln+k) c).ownBlock=some b->W.heap.size<=b/\b≠g/\b≠o:=λb O=>⟨(cv.lt O).1,λe=>by subst e;exact bE.1 O,λe=>by subst e;exact bE.2 O⟩
  have bS:=(ea.aj e1).on aA λO=>by have:=(aB _ O).1;omega
  have cM:=(dt.aj e1).on aA λO=>by have:=(aB _ O).1;omega
  have kg:=(bI.aj e1).on aA λO=>(aB _ O).2.1 rfl;have d5:=(bL.aj e1).on aA λO=>(aB _ O).2.2 rfl;have cE:(Value.slice A2 (ln+k+1) c2).ownBlock≠some g/\(Value.slice A2 (ln+k+1) c2).ownBlock≠some o:=by
   exact Iu
  have b7:=hz ao b3 bS cM kg d5 cE;clear ao aA ci b3 aB bS cM cE a0 ak af bs am aK c0 ch bz e1 cY h0 bX N bM et en eu;obtain⟨bs,am,aK⟩:=kg.two;obtain⟨c0,ch,bz⟩:=d5.two;clear kg d5;refine dY hK ?_;clear hK K
  iterate 2 refine pf ?_
  exact ew
 | false=>
  rw[eE] at bX;go_wp2;refine eJ (λb=>Y.heap.size<=b) [(0,3),(1,3),(2,3),(3,3),(4,0),(5,3),(6,0),(7,3),(8,3),(9,3),(10,0),(11,3),(12,0),(13,3),(14,1),(15,2),(16,3),(17,3),(18,2)] ?_
  iterate 4 refine pf ?_
  refine oP ?_;refine pf ?_;refine oP ?_
  iterate 3 refine pf ?_
  refine oP ?_;refine pf ?_;refine oP ?_;refine pf ?_;refine rS ?_;generalize hV:World.drew (World.alloc _ _)=db;have e1:=hy hV;have cY:an db Y 128 #[.string q.1,(4:Int),.int .i64 (cm (f.params.take k))]:=hV▸(ND).drew;clear hV;refine au rfl (λK hK=>?_);rw[if_pos (by rfl)];refine fq jz (.tmp 79) (.tmp 89) (by rfl) (cv.aj e1) cY (ka ⟨q.1,4,cm (f.params.take k)⟩) (by rfl) (by rfl) (by rfl) ad ad (ax e1.size) ?_;intro A2 c2 cO ao aA ci b8;have b3:Ext w cO:=Fr.low (M:=λb=>w.heap.size<=b) (((cb.trans e1).mono λ_ h=>h.elim).trans (aA.mono λb O=>by have:=(cv.lt O).1;omega)) λ_ h=>h;have aB:∀b,(Value.slice A (ln+k) c).ownBlock=some b->W.heap.size<=b/\b≠g/\b≠o:=λb O=>⟨(cv.lt O).1,λe=>by subst e;exact bE.1 O,λe=>by subst e;exact bE.2 O⟩
  have bS:=(ea.aj e1).on aA λO=>by have:=(aB _ O).1;omega
  have cM:=(dt.aj e1).on aA λO=>by have:=(aB _ O).1;omega
  have kg:=(bI.aj e1).on aA λO=>(aB _ O).2.1 rfl;have d5:=(bL.aj e1).on aA λO=>(aB _ O).2.2 rfl;have cE:(Value.slice A2 (ln+k+1) c2).ownBlock≠some g/\(Value.slice A2 (ln+k+1) c2).ownBlock≠some o:=by
   exact Iu
  have b7:=hz ao b3 bS cM kg d5 cE;clear ao aA ci b3 aB bS cM cE a0 ak af bs am aK c0 ch bz e1 cY h0 bX N bM et en eu;obtain⟨bs,am,aK⟩:=kg.two;obtain⟨c0,ch,bz⟩:=d5.two;clear kg d5;refine dY hK ?_;clear hK K
  iterate 2 refine pf ?_
  refine au rfl (λK hK=>?_);go_simp;refine dY hK ?_;clear hK K;refine aG ?_;clear bs am aK;generalize hX:World.setCell _ _ _=X;have b9:=cP hX;have bw:=b7.2.2.2.2.2.1.on b9 ad;have m:an X g 181 #[.slice GA gn gc,.slice MA mn mc,.slice FA fn fc,.slice A2 (ln+k+1) c2,(0:Int),(0:Int),(0:Int),(0:Int),(),()]:=hX▸b7.2.2.2.2.1.aK 3 _;have aP:=ah b9 m;clear c0 ch bz hX b9 m;obtain⟨c0,ch,bz⟩:=bw.two;have cB:=ae bw;clear bw;have bH:=m6 (f.params.take k);have bf:=iX (f.params.take k);have dz:(f.params.take k).length<=2:=by rw[List.length_take];omega
  have dD:wrap64 (cm (f.params.take k)+1)=cm (f.params.take k)+1:=IntWalk.wrap64_in _ ad;go_upto_region 5 with(fail);generalize cl:World.setCell _ _ _=cD
  try rw[dD] at cl
  have I:=cP cl;obtain⟨ao,b3,bS,cM,_,_,cE⟩:=b7.o;obtain⟨b9,m⟩:=aP.o;have bd:=(a8.o:W.heap.size<=g)
  have r1:Gr (λ_=>False) W.heap.size 128 3 cD A2 (ln+(k+1)) c2 ((bp p++dZ (f.params.take (k+1)) 0 0).map b2):=by
   exact Ib
  have gV:Ext w cD:=Fr.low (M:=λb=>w.heap.size<=b) ((b3.mono λ_ h=>h.elim).trans ((b9.mono λb O=>ad).trans (I.mono λb O=>ad))) λ_ h=>h;have gW:=(bS.on b9 ad).on I ad;have cq:=(cM.on b9 ad).on I ad;have rg:=m.on I ad;have ro:an cD o 82 #[.string f.name,.int .i64 (cm (f.params.take (k+1))),.int .i64 (bU (f.params.take (k+1))),(0:Int),()]:=by
   rw[aU bW.o,(lI _ _).1,(lI _ _).2,eE,<-cl];simpa using cB.aK 1 _
  exact Ip
 ):p:=h
theorem wQ(h:p:=by
 refine(eh A (ln+k) c _ q.1 V.drew (cf.on (Fr.ext aC.drew)) ad).mono ?_;rintro e aO ⟨rfl,ar⟩;rw[a1];simp only[jq];refine dY hK ?_;clear hK K
 iterate 3 refine tf ?_
 have cg:=aT.aj (Fr.aF ar);have aM:=aC.trans (Fr.aF ar);clear aT aC ar;exact key wr aO ⟨aM,cg,MU _⟩
 ):p:=h
theorem ti(h:p:=by
 have es:((bp p).map b2).length=ln:=hl.1;have du:ln<=100:=by rw[<-hl.1,M5,lp];omega
 have bo:f.params.length=pn:=by rw[<-cc.1,M5]
 have gM:pn<=2:=by have:=(hp.funcs f J).jo;omega
 obtain⟨ck,dn,dX,bZ,bT,gN,dv⟩:=Es hp J hm bR hl cc bA;have S:=ah es bo;clear h aR hm bR hl cc bA hp J ds lm lf es bo;go_enter func49,ntmps49;go_upto_region 1 with(fail);generalize be:World.alloc _ _=W;have aF:=l9 be;have b0:=kB be;have bh:=iL be;have cy:=kC be;have cZ:=aF.size;obtain⟨bk,aw,bD⟩:=eU aF bh cy;have y:=kX ((bT.on (Fr.ext aF)).on (Fr.ext (Fr.refl _ W).drew));obtain⟨a0,ak,af⟩:=b0.two;have eD:¬W<=w.heap.size:=by have:=cy.lt;omega
 have cx:w+2<W.heap.size:=cy.lt;clear be aF b0 bh cy;refine eJ (λb=>W.heap.size<=b) [(0,0),(2,3),(1,1),(3,1),(4,3),(5,2),(6,3)] ?_;refine oP ?_;refine pf ?_;refine rS ?_;generalize hV:World.drew (World.alloc _ _)=c3;have e1:=hy hV;have c8:Gr (λ_=>False) W 128 3 c3 (some ⟨W,0,none⟩) 0 0 []:=hV▸(Gr.lit (w:=W) (n:=0) (l:=[]) rfl (by rfl) ad (by simp only[D.aQ])).aj NC.drew;have dQ:=kX (bT.on (Fr.ext (bk.trans e1)));clear hV y;refine aE rfl (λK hK=>?_);rw[if_pos (by rfl)];refine jG jz (.tmp 16) (.tmp 17) (by rfl) c8 (lv (bp p)) S.1 dQ (λh=>by subst h;exact Sl.none_ bT.o) (by rfl) (by rfl) ad ad e1.size ?_;intro ba cw aW cd f1 o1 c1;refine dB hK (f1.mono λb O=>ad) ?_;clear hK K;have e2:Ext W aW:=Fr.low (M:=λb=>W.heap.size<=b) ((e1.mono λ_ h=>h.elim).trans (f1.mono λb O=>ad)) λ_ h=>h;have cG:=λb O=>(cd.lt (g:=b) O)
 have eI:W<=aW.heap.size:=e2.size;refine pf ?_;refine au rfl (λK hK=>?_);go_simp;generalize hV:World.alloc _ _=eH;have e3:=aX hV;have cQ:=aL hV;refine dY hK ?_;clear hK K;refine pf ?_;refine aG ?_;have a4:=ae (bk.trans (e2.trans e3));have aD:=ae (cd.aj e3);have cW:=aw.aj (e2.trans e3);have dC:=ae cW;have bj:=ae (bD.aj (e2.trans e3));have bI:=ae cQ;have bB:w+3<=aW.heap.size:=by have:=e2.size;have:=bD.lt;omega
 have bY:∀b,(Value.slice ba ln cw).ownBlock=some b->W.heap.size<=b/\b<aW.heap.size:=λb O=>cG b O;have aY:=ae bY;clear hV e1 c8 dQ cd f1 o1 c1 e2 e3 cQ cG eD a0 ak af bk aw bD bY;obtain⟨a0,ak,af⟩:=cW.two;clear cW;generalize dV:aW.heap.size=g at *;go_upto_region 3 with(fail);generalize hV:World.alloc _ _=V;have ai:=aX hV;have aN:=aL hV;have cR:g<eH:=bI.lt;generalize d0:eH.heap.size=o at *;have aS:=ae (show Gr (λ_=>False) W 128 3 V ba ln cw ((bp p).map b2)/\(Value.slice ba ln cw).ownBlock≠some g/\(Value.slice ba ln cw).ownBlock≠some o/\Ext w V/\an V (w.heap.size+1) 118 #[.string f.name,.slice PA pn pc,.slice f0 bn bc]/\
   an V (w.heap.size+2) 82 #[NF,(0:Int),(0:Int),(0:Int),()]/\an V g 181 #[.slice GA gn gc,.slice MA mn mc,.slice FA fn fc,.slice ba ln cw,(0:Int),(0:Int),(0:Int),(0:Int),(),()]/\an V o 82 #[.string f.name,(0:Int),(0:Int),(0:Int),()] from
  ⟨aD.aj ai,λO=>by have:=aY.o _ O;omega,λO=>by have:=aY.o _ O;omega,a4.trans ai,dC.aj ai,bj.aj ai,bI.aj ai,aN⟩)
 have el:W<=g:=ad;clear hV ai aN aD a4 dC bj bI a0 ak af aY dV d0;have a8:=ae el;obtain⟨cn,bO,cI,dk,f2,aZ,d2,fd⟩:=aS.o;have dJ:=ae (show Gr (λ_=>False) W.heap.size 128 3 V ba (ln+0) cw ((bp p++dZ (f.params.take 0) 0 0).map b2)/\(Value.slice ba (ln+0) cw).ownBlock≠some g/\(Value.slice ba (ln+0) cw).ownBlock≠some o/\Ext w V/\an V (w.heap.size+1) 118 #[.string f.name,.slice PA pn pc,.slice f0 bn bc]/\an V (w.heap.size+2) 82 #[NF,(0:Int),(0:Int),(0:Int),()]/\an V g 181 #[.slice GA gn gc,.slice MA mn mc,.slice FA fn fc,.slice ba (ln+0) cw,(0:Int),(0:Int),(0:Int),(0:Int),(),()]/\an V o 82 #[.string f.name,.int .i64 (cm (f.params.take 0)),.int .i64 (bU (f.params.take 0)),(0:Int),()] from ⟨by simpa[dZ] using cn,bO,cI,dk,f2,aZ,d2,by simpa[cm,bU] using fd⟩);clear cn bO cI dk f2 aZ d2 fd;go_wp2
 go_loopw [12] (λb5 wr=>∃(k:Nat) (A:NH) (c:Nat),k<=pn/\b5=.int .i64 k/\Gr (λ_=>False) W.heap.size 128 3 wr A (ln+k) c ((bp p++dZ (f.params.take k) 0 0).map b2)/\(Value.slice A (ln+k) c).ownBlock≠some g/\(Value.slice A (ln+k) c).ownBlock≠some o/\Ext w wr/\an wr (w.heap.size+1) 118 #[.string f.name,.slice PA pn pc,.slice f0 bn bc]/\an wr (w.heap.size+2) 82 #[NF,(0:Int),(0:Int),(0:Int),()]/\an wr g 181 #[.slice GA gn gc,.slice MA mn mc,.slice FA fn fc,.slice A (ln+k) c,(0:Int),(0:Int),(0:Int),(0:Int),(),()]/\an wr o 82 #[.string f.name,.int .i64 (cm (f.params.take k)),.int .i64 (bU (f.params.take k)),(0:Int),()]) (λb5 _=>pn - (intOf b5).toNat)
 case atStart=>exact⟨0,ba,cw,ad,rfl,dJ.o⟩
 case round=>
  obtain⟨k,A,c,aj,rfl,hG,dj,dl,aF,bh,cy,cQ,aN⟩:=hrel;clear aS dJ;have bK:=ae hG;have bE:=ah dj dl;obtain⟨bk,aw,bD,bI,bL⟩:=Er aF bh cy cQ aN;obtain⟨a0,ak,af⟩:=bh.two;obtain⟨bs,am,aK⟩:=cQ.two;have al:=aF.size;by_cases ap:k<pn
  .obtain⟨pb,gR,q,cs,rfl,bl,bv,bG,bu,Z⟩:=(gN.on (Fr.ext aF)).g1 sd ap;obtain rfl:=oC.1 bG;have h0:=Z 0 _ rfl;have bX:=Z 1 _ rfl;simp only[Nd] at h0;have N:pb<wr:=bl;have bW:=ae bv;have a1:dI (bp p++dZ (f.params.take k) 0 0) q.1=none:=by
    refine kb λj x bi hx=>?_;have bb:=(ck.funcs f dn.o).fresh;have cr:x.name∈(bp p++dZ (f.params.take k) 0 0).map (·.name):=Ns.2 ⟨x,M4 bi,rfl⟩;rw[Na,gi,gg] at cr;have dA:f.params=f.params.take k++q::f.params.drop (k+1):=by
     have:=List.take_append_drop k f.params;rw[<-this];congr 1
     .rw[this]
     .rw[this,List.drop_eq_getElem?_toList_append,bv];rfl
    rw[dA,Na,M7,<-List.append_assoc,List.nodup_append] at bb;exact bb.2.2 _ cr q.1 (by simp) hx
   have y:=bK.sl (Q:=av wr) (λb _ h=>h.elim) (λb h _=>h);have cf:=ae y;clear bG bu Z bl bv hG dj dl aF bh cy cQ aN y;go_upto_region 6 with(fail);refine sK (λ_=>False) [10,15] (.free 0 (.free 1 (.free 2 (.held 3 (.free 4 (.held 5 (.free 6 (.free 7 (.free 8 (.held 9 (.pick [10,14] (λi=>bif i == 10 then .free 11 (.free 12 (.free 13 (.pick [14] (λ_=>.pick [15] (λ_=>.free 16 (.stop)))))) else .pick [10] (λ_=>.free 11 (.free 12 (.free 13 (.pick [15] (λ_=>.free 16 (.stop)))))))))))))))))) ?_
   iterate 3 refine tf ?_
   refine th ?_;refine tf ?_;refine th ?_
   iterate 3 refine tf ?_
   refine th ?_;refine lP (P:=?LM) (ops:=?LY) (Q:=?LZ) (R:=?L0) (tails:=?L1) (rest:=.pick [15] (λ_=>.free 16 (.stop))) (aa:=?LN) (C:=λdd V=>Ext wr V/\an V dd 128 #[NF,(0:Int),(0:Int)]/\wr.heap.size<=dd) (λkey=>?KJ) ?KF
   case KJ=>
    refine a2 ?_ ?_
    ·
     refine bP rfl (λK hK=>?_) rfl;go_simp;refine(eh A (ln+k) c _ q.1 wr.drew (cf.on (Fr.ext NC.drew)) ad).mono ?_;rintro e aO ⟨rfl,ar⟩;rw[a1];simp only[jq];refine dY hK ?_;clear hK K
     iterate 3 refine tf ?_
     refine aq ?_;refine ep ?_;generalize hV:World.alloc _ _=V;have aT:=aL hV;have aC:Ext wr V:=hV▸(Fr.aF ar).alloc _;exact Ex
    ·
     exact wP
   case KF=>
    rintro dd V ⟨aC,b4,bd⟩;obtain⟨c0,ch,bz⟩:=b4.two;exact fQ
  .obtain rfl:pn=k:=ad;rw[Nb (by rw[S.2];exact MU _)] at hG aN;have ce:=bL.o;rw[Nb (by rw[S.2];exact MU _)] at ce;clear bK bL aN;obtain⟨bK,bL⟩:=aJ hG ce;obtain⟨c0,ch,bz⟩:=ce.two;clear hG dj dl aF bh cy cQ ce;go_upto_region 15 with(fail);generalize hX:World.setCell _ _ _=X;have b9:=cP hX;have m:an X g 181 #[.slice GA gn gc,.slice MA mn mc,.slice FA fn fc,.slice A (ln+pn) c,.int .i64 (cm f.params),(0:Int),(0:Int),(0:Int),(),()]:=hX▸bI.aK 4 _;have d1:w<=g:=by have:=(a8.o:W.heap.size<=g);omega
   have bt:Ext w X:=Fr.low (M:=λb=>w.heap.size<=b) ((bk.mono λ_ h=>h.elim).trans (b9.mono λb O=>ad)) λ_ h=>h;have cN:=bK.dm (ab:=X) b9.size λb ap hp=>b9.block b ap λhe=>by
    subst he;rcases hp with hp|hp
    .exact hp.elim
    .exact bE.1 hp
   have aQ:∀b,av w b->off (Ms g (.slice none 0 0) (.slice none 0 0)) X b:=λb O=>⟨M0 O bt.size,λhm=>by
    rcases hm with hm|hm|hm
    .have:b<w:=O;omega
    .cases hm
    .cases hm⟩
   have dO:=(dX.ak (ab:=X) λb O=>bt.block b O λh=>h).mono aQ;have ct:=(bZ.ak (ab:=X) λb O=>bt.block b O λh=>h).mono aQ;have dL:=(dv.ak (ab:=X) λb O=>bt.block b O λh=>h).mono aQ;have dT:Sl X (off (Ms g (.slice none 0 0) (.slice none 0 0)) X) A (ln+pn) ((bp p++dZ f.params 0 0).map b2):=by
    obtain⟨dW,xs,ac,az⟩:=cN;exact Sl.qQ ac (uT az) dW λb bF _ ap=>⟨ap,λhm=>by
     rcases hm with hm|hm|hm
     .subst hm;exact bE.1 (by rw[bF];rfl)
     .cases hm
     .cases hm⟩
   have eg:cU X g (o+1) p.af p.funcs (bp p++dZ f.params 0 0) A (ln+pn) c (cm f.params) 0 [] [] none 0 none 0:=
    ⟨⟨GA,gn,gc,MA,mn,mc,FA,fn,fc,m,ad,ad,dO,ct⟩,⟨ad,by have:=b9.size;have:=bz;omega⟩,⟨ad,dT⟩,lS.nil _ _ _ _ _ _⟩
   have c6:=aw.on b9 (by have:=(a8.o:W.heap.size<=g);omega);obtain⟨ex,d9,a6,eF⟩:=jl eg dL bt c6;have d8:=ae (bD.on b9 (by have:=(a8.o:W.heap.size<=g);omega));have ec:=ae (bL.on b9 ad);clear a0 ak af bs am aK c0 ch bz hX b9 m bt cN aQ dO ct dL dT eg;obtain⟨a0,ak,af⟩:=c6.two;clear c6;have eW:=m6 f.params;have eX:=iX f.params;have cF:=ae (show ∀b,Ms g (.slice none 0 0) (.slice none 0 0) b->w.heap.size<=b from λb hm=>by
    rcases hm with hm|hm|hm
    .omega
    .cases hm
    .cases hm)
   have di:Sc (bg (gQ p)) (fG p f) (bp p++dZ f.params 0 0) (fZ p++cH f.params) (bm p++f.params.map (·.1)) (cm f.params) (bU f.params):=vN ck.o dn.o;have ev:(bg (gQ p)).af=p.af:=by rw[oT]
   have em:f.body.num<=64:=Nl (jE (λf:aI=>f.body.num) dn.o) ck.jo;have dm:=ee f.body 4 _ _ _ (cm f.params) [] (ck.funcs f dn.o).body di;have cA:(bp p++dZ f.params 0 0).length<=200:=by
    have ac:=S.1;rw[M5] at ac;have az:=congrArg List.length (gg f.params 0 0);rw[M5,M5] at az;have aV:=S.2;rw[M3,ac,az];omega
   obtain⟨ay,dH,ed,dU⟩:=jl di dm ev cA;clear di dm ev cA;go_wp2_with(fail);have bo:=S.2;have cA:=dU.o;refine(da (bg (gQ p)) (bU f.params) p.funcs f.body (fG p f) 4 _ _ _ (cm f.params) 0 [] [] g (o+1) A (ln+pn) c none 0 none 0 f0 bn bc X (ck.funcs f dn.o).body ay.o (E2 ck.o dn.o) (λh ag=>by have:=(ck.funcs h ag).jo;omega) (by rw[ed.o];exact ex.o) d9.o (by simp;omega) rfl ad ad ad).mono ?_;rintro e cV ⟨rfl,cp,b1,c7,c9,bq,bO,a7,bV⟩;have dm:=dH.o;rw[ed.o] at a7;clear bo cA dH;generalize bv:dP f.body (bp p++dZ f.params 0 0) (cm f.params) []=r at *;obtain⟨r1,gw⟩:=r;obtain⟨⟨gI,de,ej,_⟩,a5,dh⟩:=dm;simp only[Nu,Nm] at bO a7 bV de a5 dh;have cS:r1.length<=128:=by rw[de];omega
   have dp:∀b,b≠g->¬Ms g (.slice none 0 0) (.slice none 0 0) b:=λb O hm=>by
    rcases hm with hm|hm|hm
    .exact O hm
    .cases hm
    .cases hm
   obtain⟨dq,d3⟩:=d8.cZ (dp _ (by have:=(a8.o:W.heap.size<=g);omega)) bV;obtain⟨cz,d4⟩:=ec.cZ (dp _ ad) bV;obtain⟨ca,eQ⟩:=aJ a7 bV;obtain⟨e8,eV,eS,fa,e4,eZ,e6,eP,eN,gx,_⟩:=a7.blk;have cT:=br dq d3 cz d4;have bW:=br bv bO a5 dh;clear a0 ak af a7 bV dq cz de ej d3 d4 bv bO;obtain⟨bs,am,aK⟩:=gx.two;clear gx;clear a5 dh dp;go_wp2_with(fail);refine(hq ca.o nS (f.body.num:Int) (jP (is:=[]) (ps:=[]) (Sl.bY _) (Sl.bY _) (MU _) (MU _)) ad (ax bW.2.1)).mono ?_;rintro e cJ ⟨rfl,dF,dr,dM,dR,cL,dg⟩;have dS:=ae cL;have cu:Mv g (.slice cp r1.length b1) (.slice c7 bq.length c9) cV (.slice dF (r1++[nS]).length dr) (.slice dM (bq++[(f.body.num:Int)]).length dR) cJ:=by rw[M3,M3];exact dg
   have er:=ae (eQ.trans cu);obtain⟨dq,d3⟩:=cT.1.cZ cT.2.1 cu;obtain⟨cz,d4⟩:=cT.2.2.1.cZ cT.2.2.2 cu;obtain⟨ez,eA⟩:=aJ dq cz;obtain⟨e7,eT,eR,e9,e0,eY,e5,eO,eM,T,_⟩:=cL.blk;have eb:=ae T;clear cL dg cu bs am aK;obtain⟨bs,am,aK⟩:=T.two;obtain⟨c0,ch,bz⟩:=cz.two;have eo:¬g=o:=ad;clear T cz dq;go_wp2;refine eJ (λb=>b=o) [(0,3),(1,3),(2,3),(3,0),(4,3),(5,3),(6,3),(7,0),(8,3),(9,1),(10,3),(11,2)] ?_
   iterate 3 refine pf ?_
   refine oP ?_
   iterate 3 refine pf ?_
   refine oP ?_;refine pf ?_;refine aE rfl (λK hK=>?_);go_simp;refine dB hK (E5 cJ o 3 _) ?_;clear hK K;refine pf ?_;refine au rfl (λK hK=>?_);go_simp;refine dY hK ?_;clear hK K;refine aG ?_;generalize hX:World.setCell _ _ _=gD;have z:=GH hX;have df:an gD o 82 #[.string f.name,.int .i64 (cm f.params),.int .i64 (bU f.params),gw,.slice dF (r1.length+1) dr]:=hX▸(eA.aK 3 _).aK 4 _;have dN:=eb.on z eo;have dK:=ez.on z (by have:=(a8.o:W.heap.size<=g);omega);obtain⟨dw,eG,dG⟩:=eU z df dK;clear hX z bs am aK c0 ch bz dK;obtain⟨bs,am,aK⟩:=dN.two;obtain⟨c0,ch,bz⟩:=df.two;have ef:¬g=w+2:=by have:=(a8.o:W.heap.size<=g);omega
   have ei:¬o=w+2:=by have:=(a8.o:W.heap.size<=g);omega
   clear dN df;obtain⟨d6,dx,dy⟩:=dG.two;go_wp2;refine eJ (λb=>b=w.heap.size+2) [(0,0),(1,3),(2,3),(3,3),(4,0),(5,3),(6,3),(7,3),(8,0),(9,3),(10,3),(11,3),(12,0),(13,1),(14,3),(15,3),(16,3)] ?_;refine Hh ?_
   iterate 3 refine pf ?_
   refine Hh ?_
   iterate 3 refine pf ?_
   refine Hh ?_
   iterate 3 refine pf ?_
   refine Hh ?_;refine aE rfl (λK hK=>?_);go_simp;generalize hX:World.setCell _ _ _=d7;obtain⟨T,_,b6⟩:=a9 (w:=w) [.string f.name,.int .i64 (cm f.params),.int .i64 (bU f.params),gw,.slice dF (r1.length+1) dr] (by rfl) dG.o (Fr.low (M:=λb=>w.heap.size<=b) ((a6.mono λ_ h=>h.elim).trans ((er.fr.mono λb hm=>cF.o b hm).trans (dw.mono λb O=>by have:=(a8.o:W.heap.size<=g);omega))) λ_ h=>h) (Nat.le_add_right _ _) hX;refine dB hK (va (va b6)) ?_;clear hK K
   iterate 3 refine pf ?_
   refine aG ?_;obtain⟨bx,eK,eL⟩:=T.two;have ey:=ah b6 T;clear bs am aK c0 ch bz d6 dx dy hX b6 T;go_wp2;refine NB (v:=.tuple #[.agg #[.string f.name,.int .i64 (cm f.params),.int .i64 (bU f.params),gw,.slice dF (r1.length+1) dr],.slice dM (bq.length+1) dR,(0:Int),(0:Int)]) (by simp[results,Tryz.results49,go_sem,bx]) rfl ?_;obtain⟨b6,T⟩:=ey.o;have bd:=(a8.o:W.heap.size<=g)
   have eq:eB p f=⟨f.name,cm f.params,bU f.params,gw,r1++[nS]⟩:=by
    unfold eB;simp only[bW.1]
   have cK:Ext w d7:=Fr.low (M:=λb=>w.heap.size<=b) ((a6.mono λ_ h=>h.elim).trans ((er.fr.mono λb hm=>cF.o b hm).trans ((dw.mono λb O=>ad).trans (b6.mono λb O=>ad)))) λ_ h=>h;have bQ:=dS.rows.one;have bJ:=bQ.cap.1;have eC:Gr _ _ _ _ d7.drew.drew _ _ _ _:=(((bQ.dm (ab:=gD) dw.size λb ap hp=>dw.block b ap λhe=>by
    rcases hp with hp|hp
    .have:=hp.1;omega
    .have:=(bQ.lt hp).1;omega).dm (ab:=d7) b6.size λb ap hp=>b6.block b ap λhe=>by
    rcases hp with hp|hp
    .have:=hp.1;omega
    .have:=(bQ.lt hp).1;omega).aj (Fr.refl _ d7).drew).aj (Fr.refl _ d7.drew).drew
   have ek:=eC.sl (Q:=fresh w d7.drew.drew) (λb ac az=>⟨by have:=az.1;omega,ac⟩) (λb ac az=>⟨ad,ac⟩);rw[M3] at ek bJ;refine⟨dF,r1.length+1,dr,dM,bq.length+1,dR,by rw[eq],?_,cK.drew.drew⟩;rw[eq];exact zF.2 ⟨dF,r1.length+1,dr,rfl,bJ,ek⟩
 ):p:=h
end Dk
open Dk in
theorem tD(da:∀U nk F b,l6 U nk F b)(p:bN)(hp:pe p)(f:aI)(J:f∈p.funcs)(GA:NH)(gn gc:Nat)(MA:NH)(mn mc:Nat)(FA:NH)(fn fc:Nat)(bC:NH)(ln lc:Nat)(PA:NH)(pn pc:Nat)(f0:NH)(bn bc:Nat)(w:World)
  (h:gX w (av w) p GA gn MA mn FA fn) (hl:Sl w (av w) bC ln ((bp p).map b2)) (cc:Sl w (av w) PA pn (f.params.map cC)) (bA:Sl w (av w) f0 bn (dc f.body)) :
  Calls prog 49 #[.agg #[.slice GA gn gc,.slice MA mn mc,.slice FA fn fc],.slice bC ln lc,.agg #[.string f.name,.slice PA pn pc,.slice f0 bn bc]] w (Ke w (eB p f)):=by
 have aR:=h.g;have hm:=h.m;have bR:=h.f;have ds:p.globals.length=gn:=by rw[<-aR.1,M5]
 have lm:p.af.length=mn:=by rw[<-hm.1,M5]
 have lf:p.funcs.length=fn:=by rw[<-bR.1,M5]
 exact tg
end Go.Proofs.YtnigabjngpnbiabGreat

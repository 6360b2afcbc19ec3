/- Part 38 of the proof. No condition of its own. -/
import Derived.Test.YtkhnkojkplbioaaGreatQ37
namespace Go.Proofs.YtkhnkojkplbioaaGreat
open Go.RowKit Go.Proofs.Tryz
set_option maxRecDepth 1000000
set_option maxHeartbeats 25600000
set_option linter.unusedVariables false
variable{i:Nat}{P:Nat->Prop}
def JD(p:kr)(bL B:Nat)(eQ bX:Value)(d:Nat)(ps:List (ByteArray×Bool))(V T:L4)(aw:World)(aJ:Nat)(bm:ByteArray)(QA:L3)(co qc:Nat)(bS:Value)(av:L3)(bi aX:Nat)(bM:L3)(on b4:Nat)(N:Int)(w:World):Prop:=∃(bl:L4) (ls:List aA) (L:Nat),
 N<=7/\oT p aw w L/\aq w bL 157 #[.string bm,.slice QA co qc,bS]/\lz B 9 1 207 11 w av bi aX (bl.map D.s) bM on b4 (ls.map bj)/\Made (p.env ps) d V T aJ L ls/\bl ⊆ V++decls ls/\bl.length+L<=60
def rm(p:kr)(bL B:Nat)(eQ bX:Value)(d:Nat)(ps:List (ByteArray×Bool))(V T:L4)(aw:World)(aJ:Nat)(bm:ByteArray)(QA:L3)(co qc:Nat)(bS:Value)(a:Act)(w:World):Prop:=∃(av:L3) (bi aX:Nat) (bM:L3) (on b4:Nat) (N:Int) (gJ z u8 gL eR bU u16 ck gs eS eV eW eX eY eZ e3 e5 e7 e8 e9 fb fd u32 fe ff fh fi fj fk fl fm fo fq fr fs ft fu fv fw fx fz fA fB fC fD fE fF fG fH fI fJ fK fL fM u64 fN fO fP fQ fR fS fT fU fV fW fX fY fZ f3 f4 f5 f6 f7 f8 f9 ga gb gd ge gf gg gh gi gj gk gl gm go gp gq H I am aF aL aM aN aV aW a7 bb be bg bo br bs bw bI bO bW b2 b5 b8 cc cd cf ch cj cp cr ct cx cA cB cC cD cF cG cH cL cM cP cQ cS cT cU cV cW cX cY cZ c4 c5 c6 c7 c8 c9 da db dc dd de df dg dh di dj dk dl dm dn dp dr ds du dw dx dy dz dA dB dC dD dF dG dH dI dJ dK dM dN dQ dS dU dV dW dX dZ d0 d1 d2 d3 d4 d5 d6 d7 d8 d9 ea eb ec ed ee ef eg eh ei ej ek el em en eo ep eq er es et eu ev ew ex ey ez eA eB eD eE eF eG eH eI eJ eK eL eM eN eO eP ce bV:Value),JD p bL B eQ bX d ps V T aw aJ bm QA co qc bS av bi aX bM on b4 N w/\a=⟨#[.pointer (some ⟨p.wb,0,none⟩),eQ,.slice av bi aX,.int .i64 (d:Int),bX,gJ,.pointer (some ⟨bL,0,none⟩),z,u8,gL,eR,.slice bM on b4,.int .i64 N,ce,bV,bU,u16,ck,gs,eS,eV,eW,eX,eY,eZ,e3,e5,e7,e8,e9,fb,fd,u32,fe,ff,fh,fi,fj,fk,fl,fm,fo,fq,fr,fs,ft,fu,fv,fw,fx,fz,fA,fB,fC,fD,fE,fF,fG,fH,fI,fJ,fK,fL,fM,u64,fN,fO,fP,fQ,fR,fS,fT,fU,fV,fW,fX,fY,fZ,f3,f4,f5,f6,f7,f8,f9,ga,gb,gd,ge,gf,gg,gh,gi,gj,gk,gl,gm,go,gp,gq,H,I,am,aF,aL,aM,aN,aV,aW,a7,bb,be,bg,bo,br,bs,bw,bI,bO,bW,b2,b5,b8,cc,cd,cf,ch,cj,cp,cr,ct,cx,cA,cB,cC,cD,cF,cG,cH,cL,cM,cP,cQ,cS,cT,cU,cV,cW,cX,cY,cZ,c4,c5,c6,c7,c8,c9,da,db,dc,dd,de,df,dg,dh,di,dj,dk,dl,dm,dn,dp,dr,ds,du,dw,dx,dy,dz,dA,dB,dC,dD,dF,dG,dH,dI,dJ,dK,dM,dN,dQ,dS,dU,dV,dW,dX,dZ,d0,d1,d2,d3,d4,d5,d6,d7,d8,d9,ea,eb,ec,ed,ee,ef,eg,eh,ei,ej,ek,el,em,en,eo,ep,eq,er,es,et,eu,ev,ew,ex,ey,ez,eA,eB,eD,eE,eF,eG,eH,eI,eJ,eK,eL,eM,eN,eO,eP],[]⟩
def FB(a:Act)(_:World):Nat:=(intOf (a.tmps.getD 12 undef)).toNat
theorem Gy(p:kr)(bL B:Nat)(eQ bX:Value)(d:Nat)(ps:List (ByteArray×Bool))(V T:L4)(aw:World)(aJ:Nat)(bm:ByteArray)(QA:L3)(co qc:Nat)(bS:Value)(i:gA aw p aJ)(k:Sl aw (off p.MW aw) QA co (ps.map dv))(cy:aw.heap.size<=bL)(dL:bL<B)(bC:B<=bL+1)(bA:co<=2)(bn:d<=2)(Z:mA T aJ)(aB:∀R,R<aJ->IE p R)(dt:Exit->Act->World->Prop)(hQ0:∀c a d v w,dt (.panic c) (a.put d v) w->dt (.panic c) a w)(j:∀r J,rm p bL B eQ bX d ps V T aw aJ bm QA co qc bS r J->dt (.exit 0) r J)
  (a:Act) (wr:World) (hI:rm p bL B eQ bX d ps V T aw aJ bm QA co qc bS a wr):Code.wp prog xy (Exit.then (λr J=>rm p bL B eQ bX d ps V T aw aJ bm QA co qc bS r J/\FB r J<FB a wr) dt) a wr:=by
 obtain⟨s,wb,sA,bW,bE,sl,GA,gn,gc,MA,mn,mc,FA,fn,fc,M,F,ar⟩:=p;unfold rm at hI;obtain⟨av,bi,aX,bM,on,b4,N,hI⟩:=hI
 iterate 241 obtain⟨_,hI⟩:=hI
 obtain⟨hI,rfl⟩:=hI;have a4:=ae hI;obtain⟨bl,ls,L,a7,hC,z,hG,hM,hV,b3⟩:=hI;have bf:=i.ne;have cq:=i.src.lt;have eT:=i.blk.lt;simp only at bf cq eT;obtain⟨a0,aj,af⟩:=hC.blk.two;have cN:bl.length=bi:=by have:=hG.one.len;simpa using this
 have Q:ls.length=on:=by have:=hG.two.len;simpa using this
 have aP:=hC.le;have aG:=hM.le;have aR:=i.kJ;have aV:on<=48:=by
  have ac:=hM.num;have au:=uJ ls;have aY:=i.kJ;omega
 have ah:=cJ hC z hG hM hV;have bu:=bJ i k Z aB;clear hC z hG hM hV i k Z aB;by_cases hP:0<N
 case neg=>
  have q:decide (N > 0)=false:=by simp;omega
  exact zX
 by_cases a5:0<L
 case neg=>
  have q:decide (N > 0)=true:=by simpa using hP
  obtain rfl:L=0:=ad;exact zX
 obtain⟨R,rfl⟩:∃R,L=R+1:=⟨L - 1,ad⟩
 have dF:(0:Int)<((R+1:Nat):Int):=ad;clear a4;conv=>arg 2;whnf
 go_upto_region 7 with(fail);generalize hX:World.setCell _ _ _=S;have ao:=cO hX;have bO:aq S wb 149 #[.pointer (some ⟨s,0,none⟩),.slice GA gn gc,.slice MA mn mc,.slice FA fn fc,.int .i64 R,.bool ar]:=hX▸ah.1.blk.aM 4 _;have n:oT ⟨s,wb,sA,bW,bE,sl,GA,gn,gc,MA,mn,mc,FA,fn,fc,M,F,ar⟩ aw S R:=⟨ah.1.src.cS ao (λb O h=>by simp only at O;omega),bO,ah.1.fr.trans (ao.mono λ_ h=>.inr h),ad⟩
 have aa:=ah.2.1.on ao ad;have bp:=ah.2.2.1.c8 ao (λb O _=>ad);have bh:=aE n aa bp;have ci:bL<S.heap.size:=aa.lt;clear hX ao bO n aa bp a0 aj af;obtain⟨a0,aj,af⟩:=bh.1.blk.two;go_upto_region 8 with(fail);generalize al:World.alloc _ _=aS;have aN:=aW al;have U:=aI al;have u:oT ⟨s,wb,sA,bW,bE,sl,GA,gn,gc,MA,mn,mc,FA,fn,fc,M,F,ar⟩ S aS R:=⟨bh.1.src.cS aN (λ_ _ h=>h),bh.1.blk.aj aN,aN.mono λ_ h=>h.elim,bh.1.le⟩
 have H1:=ag u U;clear al aN U u a0 aj af;obtain⟨a0,aj,af⟩:=H1.1.blk.two;go_wp2_with(fail);refine(a9 aS s sA bW bE sl 14 H1.1.src ad ad).mono ?_;rintro e aU ⟨cv,rfl,br,ay,h,he⟩;have an:=H1.1.next bf h he.fr;have cX:=H1.2.on he.fr ad;have bc:=ag an cX;clear h he an cX a0 aj af H1;go_upto_region 14 with(fail);have h0:=bh.1.wr bu.1;have P:∀b,(⟨s,wb,sA,bW,bE,sl,GA,gn,gc,MA,mn,mc,FA,fn,fc,M,F,ar⟩:kr).MW b->b<B:=λb O=>by rcases O with O|O<;>(simp only at O;omega)
 refine Jr cv br ay d bi ⟨s,wb,sA,bW,bE,sl,GA,gn,gc,MA,mn,mc,FA,fn,fc,M,F,ar⟩ bL B eQ bX ps V T ls N S R aw bm QA co qc bS bl av aX bM on b4 R (by simp only;omega) ad ad bA aU h0.ne h0.src.lt h0.blk.lt (by have:=bh.2.2.one.len;simpa using this) bc.1.fr.size (ae ⟨h0,bh.2.1,Sl.c8 bu.2.1 bh.1.fr,bh.2.2,bh.2.2.names P,P⟩) (ae ⟨bc.1,bh.2.1.on bc.1.fr (λh=>by rcases h with h|h<;>(simp only at h;omega)),bc.2⟩) ad ad bn (ae ⟨ah.2.2.2.2,ah.2.2.2.1.free ad bu.2.2.1,λa2 a6=>bu.2.2.2 a2 ad⟩) aJ (ae ⟨bu.1,bu.2.1,bh.1.fr⟩) cy _ ?hQ ?hN _ (by assumption)
 case hQ=>exact λc a d v w h=>hQ0 _ _ _ _ _ h
 case hN=>
  intro r ab hp;unfold lT at hp;obtain⟨Y,aO,am,aA,IH,aD,hp⟩:=hp
  iterate 240 obtain⟨_,hp⟩:=hp
  obtain⟨hF,rfl⟩:=hp;obtain⟨aQ,m,st,dO,cs,ap,l,x,ai,I,a1,y,K,hle,ax,aH,aZ⟩:=hF;obtain⟨eo,en,es,EA,em,ec,rs,ce,cD,rc,bZ,n1,c1,A2,n2,c2,cE,n3,c3,rfl,_⟩:=lv I;obtain⟨d0,aL,aM⟩:=ai.two;have a3:=pH ap l x I a1 y K ax;have aT:bL<ab.heap.size:=l.lt;have ak:B<=ab.heap.size:=ad;clear ap l x ai I a1 y K ax;clear bc
  try dsimp only[Exit.inBlock,Exit.then]
  go_wp2_with(at_builtin;refine bT oW rfl (.tmp 244) (.tmp 246) rfl a3.2.2.1.two a3.2.2.2.1 rfl rfl rfl ad ad ak ?_;intro cg bF c7 bH az cl ca;have ds:=aE bH az cl;clear bH az cl ca);refine⟨?_,by simp[FB,intOf];omega⟩;obtain⟨ap,l,x,I,a1,y,K,ax⟩:=a3.o;obtain⟨be,aK,bk⟩:=ds.o;have aF:∀b,(Value.slice aA IH aD).ownBlock=some b->B<=b:=λb O=>(x.two.lt O).1;unfold rm;refine⟨Y,aO,am,cg,IH+1,bF,N - 1,?_⟩
  iterate 241 apply Exists.intro
  refine⟨?_,rfl⟩;refine⟨aQ,ls++(m++[st]),dO,ad,ap.fresh bu.1 aK (λb O=>by have:=aF b O;omega),l.on aK (λO=>by have:=aF _ O;omega),?_,ah.2.2.2.1.snoc a1 y K ad,ax,aH⟩;have aC:(ls++(m++[st])).map bj=(ls++m).map bj++[bj st]:=by simp
  rw[aC];exact(x.swap.grow be aK bk).swap
theorem Ix(p:kr)(bL B:Nat)(eQ bX:Value)(d:Nat)(ps:List (ByteArray×Bool))(V T:L4)(aw:World)(aJ:Nat)(bm:ByteArray)(QA:L3)(co qc:Nat)(bS:Value)(i:gA aw p aJ)(k:Sl aw (off p.MW aw) QA co (ps.map dv))(cy:aw.heap.size<=bL)(dL:bL<B)(bC:B<=bL+1)(bA:co<=2)(bn:d<=2)(Z:mA T aJ)(aB:∀R,R<aJ->IE p R)(dt:Exit->Act->World->Prop)(hQ0:∀c a d v w,dt (.panic c) (a.put d v) w->dt (.panic c) a w)(j:∀r J,rm p bL B eQ bX d ps V T aw aJ bm QA co qc bS r J->dt (.exit 0) r J)
  (av:L3) (bi aX:Nat) (bM:L3) (on b4:Nat) (N:Int) {gJ z u8 gL eR bU u16 ck gs eS eV eW eX eY eZ e3 e5 e7 e8 e9 fb fd u32 fe ff fh fi fj fk fl fm fo fq fr fs ft fu fv fw fx fz fA fB fC fD fE fF fG fH fI fJ fK fL fM u64 fN fO fP fQ fR fS fT fU fV fW fX fY fZ f3 f4 f5 f6 f7 f8 f9 ga gb gd ge gf gg gh gi gj gk gl gm go gp gq H I am aF aL aM aN aV aW a7 bb be bg bo br bs bw bI bO bW b2 b5 b8 cc cd cf ch cj cp cr ct cx cA cB cC cD cF cG cH cL cM cP cQ cS cT cU cV cW cX cY cZ c4 c5 c6 c7 c8 c9 da db dc dd de df dg dh di dj dk dl dm dn dp dr ds du dw dx dy dz dA dB dC dD dF dG dH dI dJ dK dM dN dQ dS dU dV dW dX dZ d0 d1 d2 d3 d4 d5 d6 d7 d8 d9 ea eb ec ed ee ef eg eh ei ej ek el em en eo ep eq er es et eu ev ew ex ey ez eA eB eD eE eF eG eH eI eJ eK eL eM eN eO eP ce bV:Value} (wr:World) (hI:JD p bL B eQ bX d ps V T aw aJ bm QA co qc bS av bi aX bM on b4 N wr):Code.wp prog (Code.loop xy) dt ⟨#[.pointer (some ⟨p.wb,0,none⟩),eQ,.slice av bi aX,.int .i64 (d:Int),bX,gJ,.pointer (some ⟨bL,0,none⟩),z,u8,gL,eR,.slice bM on b4,.int .i64 N,ce,bV,bU,u16,ck,gs,eS,eV,eW,eX,eY,eZ,e3,e5,e7,e8,e9,fb,fd,u32,fe,ff,fh,fi,fj,fk,fl,fm,fo,fq,fr,fs,ft,fu,fv,fw,fx,fz,fA,fB,fC,fD,fE,fF,fG,fH,fI,fJ,fK,fL,fM,u64,fN,fO,fP,fQ,fR,fS,fT,fU,fV,fW,fX,fY,fZ,f3,f4,f5,f6,f7,f8,f9,ga,gb,gd,ge,gf,gg,gh,gi,gj,gk,gl,gm,go,gp,gq,H,I,am,aF,aL,aM,aN,aV,aW,a7,bb,be,bg,bo,br,bs,bw,bI,bO,bW,b2,b5,b8,cc,cd,cf,ch,cj,cp,cr,ct,cx,cA,cB,cC,cD,cF,cG,cH,cL,cM,cP,cQ,cS,cT,cU,cV,cW,cX,cY,cZ,c4,c5,c6,c7,c8,c9,da,db,dc,dd,de,df,dg,dh,di,dj,dk,dl,dm,dn,dp,dr,ds,du,dw,dx,dy,dz,dA,dB,dC,dD,dF,dG,dH,dI,dJ,dK,dM,dN,dQ,dS,dU,dV,dW,dX,dZ,d0,d1,d2,d3,d4,d5,d6,d7,d8,d9,ea,eb,ec,ed,ee,ef,eg,eh,ei,ej,ek,el,em,en,eo,ep,eq,er,es,et,eu,ev,ew,ex,ey,ez,eA,eB,eD,eE,eF,eG,eH,eI,eJ,eK,eL,eM,eN,eO,eP],[]⟩ wr:=by
 refine wp_loop (rm p bL B eQ bX d ps V T aw aJ bm QA co qc bS) FB ?_ (λa J hI=>Gy p bL B eQ bX d ps V T aw aJ bm QA co qc bS i k cy dL bC bA bn Z aB dt hQ0 j a J hI);unfold rm
 iterate 248 apply Exists.intro
 exact⟨hI,rfl⟩
theorem nT{w:World}{P:Nat->Prop}:∀l:List ByteArray,D.aQ w P (l.map D.s) (l.map Value.string)
 | []=>by simp only[LK,D.aQ]
 | x::l=>by simp only[Lq];exact ct.2 ⟨_,rfl,nT l⟩
theorem yt{w:World}{P:Nat->Prop}:∀(l:L4) (xs:List Value),D.aQ w P (l.map D.s) xs->xs=l.map Value.string
 | [],xs,h=>by simpa only[LK,D.aQ] using h
 | x::l,xs,h=>by
  simp only[Lq] at h;obtain⟨y,rfl,au⟩:=ct.1 h;rw[Lq,yt l y au]
theorem vr{w:World}{A:L3}{n:Nat}{l:L4}(h:Sl w P A n (l.map D.s)):Src w 1 A n (l.map Value.string):=by
 obtain⟨xs,ba,hs⟩:=h.src (z:=1) (λd hd=>by obtain⟨x,_,rfl⟩:=LL.1 hd;rfl)
 rwa [yt l xs ba] at hs
theorem vx(p:kr)(aJ:Nat)(aB:∀R,R<aJ->IE p R):IE p aJ:=by
 intro d f V T N bn aa bm ps QA co qc bS w hd q hw hN b3 Z cg bA;obtain⟨s,wb,sA,bW,bE,sl,GA,gn,gc,MA,mn,mc,FA,fn,fc,M,F,ar⟩:=p;have bf:=hw.ne;have cq:=hw.src.lt;have eT:=hw.blk.lt;have cN:V.length=bn:=by have:=hN.1;simpa using this
 simp only at bf cq eT;have H:=cJ hw hN cg Z aB;clear hw hN cg Z aB;go_enter func89,ntmps89;go_upto_region 2 with(fail);generalize be:World.alloc _ _=W;have aw:=aW be;have bC:=aI be;have c5:W.heap.size=w.heap.size+1:=by rw[<-be];simp
 have bp:Gr (λ_=>False) (w.heap.size+1) 9 1 (W.alloc (.cells #[] 9)) (some ⟨W.heap.size,0,none⟩) 0 0 []:=(Gr.lit (w:=W) (n:=0) (l:=[]) rfl (by rfl) ad (by simp only[D.aQ])).base ad;rw[c5] at bp;have ay:Src (W.alloc (.cells #[] 9)) 1 N bn (V.map Value.string):=vr (Sl.c8 H.2.1 ((aw.mono λ_ h=>h.elim).alloc _));have g:N=none->bn=0:=λh=>by subst h;exact Sl.none_ H.2.1
 have ak:w.heap.size+1<=(W.alloc (.cells #[] 9)).heap.size:=by simp;omega
 have ah:=ag aw bC;clear be aw bC;go_upto_region 3 with(at_builtin;refine q8 ky rfl (.tmp 17) (.tmp 18) rfl bp (nT V) (by simpa using cN) ay g rfl rfl ad ad ak ?_;intro cE c3 b6 dv ao bz U;have bh:=ag dv ao;clear dv ao bz U);have a4:Ext W b6:=(LW.alloc _:Ext W (W.alloc (.cells #[] 9))).eR (bh.2.below (by simp) λk ap h=>by
  simp[Value.ownBlock] at h;omega)
 have dF:=H.1.aj (ah.1.trans a4);obtain⟨a0,aj,af⟩:=dF.blk.two;have bP:=aE dF a4 bh.1;clear dF a4 bh bp ay g;go_wp2_with(fail);refine(a9 b6 s sA bW bE sl ((f:Int)+1) bP.1.src ad ad).mono ?_;rintro e cK ⟨cv,rfl,br,cd,h,he⟩;have ai:Fr (λb=>b=s) w cK:=((ah.1.trans bP.2.1).mono λ_ h=>h.elim).trans he.fr;have j:=bP.1.next h he.fr;have m:=bP.2.2.c8 he.fr λb O _=>⟨λh=>h,ad⟩
 simp only[LF,LN] at m;have i:=(ah.2.aj bP.2.1).on he.fr ad;have aP:aJ<=24:=H.1.kJ;have ck:=ae (show JD ⟨s,wb,sA,bW,bE,sl,GA,gn,gc,MA,mn,mc,FA,fn,fc,M,F,ar⟩ w.heap.size (w.heap.size+1) (.agg #[.string bm,.slice QA co qc,bS]) (.int .i64 (f:Int)) d ps V T w aJ bm QA co qc bS cE bn c3 none 0 0 cv cK from
  ⟨V,[],aJ,ad,⟨j.src,j.blk,ai.mono λ_ h=>.inl h,aP⟩,i,⟨Gr.strs m,Gr.nil _ _ _ _ _,λb _ h=>by cases h⟩,Made.nil _ _ _ _ _,λx hx=>Lt.2 (.inl hx),b3⟩)
 clear h he ai j m i a0 aj af bP;skip
 go_wp2_with(fail);refine Ix ⟨s,wb,sA,bW,bE,sl,GA,gn,gc,MA,mn,mc,FA,fn,fc,M,F,ar⟩ w.heap.size (w.heap.size+1) (.agg #[.string bm,.slice QA co qc,bS]) (.int .i64 (f:Int)) d ps V T w aJ bm QA co qc bS H.1 H.2.2.1 (Lk _) ad (Lk _) bA hd H.2.2.2.1 H.2.2.2.2 _ ?hQ ?hX cE bn c3 none 0 0 cv cK ck.o
 case hQ=>exact λ_ _ d _ _ h=>by cases d<;>exact h
 case hX=>
  intro r wf hI;unfold rm at hI;obtain⟨Y,aO,am,aA,IH,aD,hI⟩:=hI
  iterate 242 obtain⟨_,hI⟩:=hI
  obtain⟨⟨bl,ls,L,_,hC,z,hG,hM,hV,o⟩,rfl⟩:=hI;have bX:=aE hC hG hM;clear hC z hG hM hV o ck;go_wp2;go_ret;obtain⟨hC,hG,hM⟩:=bX.o;exact⟨ls,L,aA,IH,aD,rfl,hM,hG.two.cap.1,hG.two.sl (λb O hp=>⟨by have:=hp.1;omega,O⟩) (λb O hp=>⟨ad,O⟩),hC.wr H.1,hC.fr⟩
theorem xz(p:kr):∀L,IE p L:=λL=>by
 induction L using Nat.strongRecOn with
 | _ L ao=>exact vx p L ao
def jZ(n:Nat):Code->Option Code
 | .seq a b=>match a with
  | .region k _ _=>if k=n then some (.seq a b) else jZ n b
  | .seq x y=>match jZ n (.seq x y) with
   | some c=>some c
   | none=>jZ n b
  | _=>jZ n b
 | _=>none
noncomputable def w1(n:Nat):Code:=match (Tryz.f44.body.bind (jZ n)).getD .skip with
 | .seq a _=>a
 | c=>c
noncomputable def nN(n:Nat):Code:=match (Tryz.f44.body.bind (jZ n)).getD .skip with
 | .seq _ b=>b
 | _=>.skip
noncomputable def Hs(n:Nat):Code:=(Tryz.f44.body.bind (jZ n)).getD .skip
def kj(w:World)(e:Ending)(ab:World):Prop:=∃(p:bP) (GA:L3) (gn gc:Nat) (MA:L3) (mn mc:Nat) (FA:L3) (fn fc:Nat),e=.returned (.agg #[.slice GA gn gc,.slice MA mn mc,.slice FA fn fc])/\oR p/\gn<=gc/\mn<=mc/\fn<=fc/\
 Sl ab (fresh w ab) GA gn (p.globals.map iD)/\Sl ab (fresh w ab) MA mn (p.af.map eD)/\Sl ab (fresh w ab) FA fn (p.funcs.map du)/\Ext w ab
def nu(M:List bD):Prop:=∀i m,M[i]?=some m->m.name=iI i/\0<=m.size/\m.size<=3/\(m.re=true->m.size=0)
structure oU(S w:World)(A:L3)(n c:Nat)(l:List Int)(ar:Bool)(MA:L3)(mn mc:Nat)(M:List bD):Prop where
 src:cn w (S.heap.size+1) A n c l
 blk:aq w (S.heap.size+1+1) 149 #[.pointer (some ⟨S.heap.size+1,0,none⟩),.slice none 0 0,.slice MA mn mc,.slice none 0 0,.int .i64 24,.bool ar]
 res:aq w S.heap.size 27 #[.slice none 0 0,.slice none 0 0,.slice none 0 0]
 ms:Gr (λ_=>False) (S.heap.size+1+1+1) 136 3 w MA mn mc (M.map eD)
 nm:mn<=4
 ok:nu M
 ext:Ext S w
section
variable {S w ab:World} {A:L3} {n c:Nat} {l:List Int} {ar:Bool} {MA:L3} {mn mc:Nat} {M:List bD}
theorem oU.next(h:oU S w A n c l ar MA mn mc M)(hs:cn ab (S.heap.size+1) A n c l)(O:Fr (λb=>b=S.heap.size+1) w ab):oU S ab A n c l ar MA mn mc M:=
 ⟨hs,h.blk.on O ad,h.res.on O ad,h.ms.c8 O (λb O _=>⟨λh=>h,ad⟩),h.nm,h.ok,Fr.low (M:=λb=>b=S.heap.size+1) ((h.ext.mono λ_ h=>h.elim).trans O) λk ap=>ad⟩
theorem oU.aj(h:oU S w A n c l ar MA mn mc M)(O:Ext w ab):oU S ab A n c l ar MA mn mc M:=h.next (h.src.cS O λ_ _ h=>h) (O.mono λ_ h=>h.elim)
theorem oU.fresh(h:oU S w A n c l ar MA mn mc M){g:Nat}(a9:S.heap.size+1+1<g)(bn:(Value.slice MA mn mc).ownBlock≠some g)(O:Fr (λb=>b=g) w ab):oU S ab A n c l ar MA mn mc M:=
 ⟨h.src.cS O (λb O h=>ad),h.blk.on O ad,h.res.on O ad,h.ms.dm O.size (λb al hp=>O.block b al (hp.elim (λh=>h.elim) λhp j=>by subst j;exact bn hp)),h.nm,h.ok,Fr.low (M:=λb=>b=g) ((h.ext.mono λ_ h=>h.elim).trans O) λk ap=>ad⟩
theorem oU.add(h:oU S w A n c l ar MA mn mc M){eu:L3}{eB:Nat}{m:bD}(a9:Gr (λ_=>False) (S.heap.size+1+1+1) 136 3 ab eu (mn+1) eB (M.map eD++[eD m]))(J:Fr (λb=>(Value.slice MA mn mc).ownBlock=some b) w ab)
  (hn:mn+1<=4) (bM:nu (M++[m])):oU S (ab.setCell ⟨S.heap.size+1+1,2,none⟩ (.slice eu (mn+1) eB)) A n c l ar eu (mn+1) eB (M++[m]):=by
 have bn:∀b,(Value.slice MA mn mc).ownBlock=some b->S.heap.size+1+1+1<=b:=λb O=>(h.ms.lt O).1;have az:Fr (λb=>b=S.heap.size+1+1) ab (ab.setCell ⟨S.heap.size+1+1,2,none⟩ (.slice eu (mn+1) eB)):=(Fr.refl (λb=>b=S.heap.size+1+1) ab).setCell (.inl rfl) _;refine⟨(h.src.cS J λb O ah=>by have:=bn b ah;omega).cS az (λb O ah=>ad),(h.blk.on J λah=>by have:=bn _ ah;omega).aM 2 _,(h.res.on J λah=>by have:=bn _ ah;omega).on az ad,?_,hn,bM,
  Fr.low (M:=λb=>b=S.heap.size+1+1) ((Fr.low (M:=λb=>(Value.slice MA mn mc).ownBlock=some b) ((h.ext.mono λ_ h=>h.elim).trans J) λk ap=>by have:=bn k ap;omega).mono (λ_ h=>h.elim) |>.trans az) λk ap=>ad⟩
 rw[Lr,Lq,LK];exact a9.c8 az (λb O _=>⟨λh=>h,ad⟩)
end
theorem nu.snoc{M:List bD}(h:nu M)(an:M.length=i){re:Bool}{sz:Int}(h0:0<=sz)(aY:sz<=3)(L:re=true->sz=0):nu (M++[⟨iI i,re,sz⟩]):=by
 intro k m hm;by_cases ap:k<M.length
 .rw[List.getElem?_append_left ap] at hm;exact h k m hm
 .rw[List.getElem?_append_right ad] at hm;have b0:k - M.length=0:=by
   exact vK
  rw[b0] at hm;simp at hm;subst hm;have:k=i:=ad;subst this;exact⟨rfl,h0,aY,L⟩
def Fx(S:World)(gS:Value)(Q:Exit->Act->World->Prop)(K:Act->World->Prop):Prop:=∀(A:L3) (n c:Nat) (l:List Int) (ar:Bool) (MA:L3) (mn mc:Nat) (M:List bD) {hs hu gJ gQ z u8 gL eR bm bL ce bV bU u16 ck gs eS eV eW eX eY eZ e3 e5 e7 e8 e9 fb fd u32 fe ff fh fi fj fk fl fm fo fq fr fs ft fu fv fw fx fz fA fB fC fD fE fF fG fH fI fJ fK fL fM u64 fN fO fP fQ fR fS fT fU fV fW fX fY fZ f3 f4 f5 f6 f7 f8 f9 ga gb gd ge gf gg gh gi gj gk gl gm go gp gq H I am aF aL aM aN aV aW a7 bb be bg bo br bs bw bI bO bW b2 b5 b8 cc cd cf ch cj cp cr ct cx cA cB cC cD cF cG cH cL cM cP cQ cS cT cU cV cW cX cY cZ c4 c5 c6 c7 c8 c9 da db dc dd de df dg dh di dj dk dl dm dn dp dr ds du dw dx dy dz dA dB dC dD dF dG dH dI dJ dK dM dN dQ dS dU dV dW dX dZ d0 d1 d2 d3 d4 d5 d6 d7 d8 d9 ea eb ec ed ee ef eg eh ei ej ek el em en eo ep eq er es et eu ev ew ex ey ez eA eB eD eE eF eG eH eI eJ eK eL eM eN eO eP bA gv gw gx gy gz gA gB gC gD gE gF gG gH gI:Value} (w:World),1<=mn->oU S w A n c l ar MA mn mc M->
 Code.wp prog (w1 13) (Exit.then K Q) ⟨#[gS,hs,.pointer (some ⟨S.heap.size,0,none⟩),.pointer (some ⟨S.heap.size+1+1,0,none⟩),hu,gJ,gQ,z,u8,gL,eR,bm,bL,ce,bV,bU,u16,ck,gs,eS,eV,eW,eX,eY,eZ,e3,e5,e7,e8,e9,fb,fd,u32,fe,ff,fh,fi,fj,fk,fl,fm,fo,fq,fr,fs,ft,fu,fv,fw,fx,fz,fA,fB,fC,fD,fE,fF,fG,fH,fI,fJ,fK,fL,fM,u64,fN,fO,fP,fQ,fR,fS,fT,fU,fV,fW,fX,fY,fZ,f3,f4,f5,f6,f7,f8,f9,ga,gb,gd,ge,gf,gg,gh,gi,gj,gk,gl,gm,go,gp,gq,H,I,am,aF,aL,aM,aN,aV,aW,a7,bb,be,bg,bo,br,bs,bw,bI,bO,bW,b2,b5,b8,cc,cd,cf,ch,cj,cp,cr,ct,cx,cA,cB,cC,cD,cF,cG,cH,cL,cM,cP,cQ,cS,cT,cU,cV,cW,cX,cY,cZ,c4,c5,c6,c7,c8,c9,da,db,dc,dd,de,df,dg,dh,di,dj,dk,dl,dm,dn,dp,dr,ds,du,dw,dx,dy,dz,dA,dB,dC,dD,dF,dG,dH,dI,dJ,dK,dM,dN,dQ,dS,dU,dV,dW,dX,dZ,d0,d1,d2,d3,d4,d5,d6,d7,d8,d9,ea,eb,ec,ed,ee,ef,eg,eh,ei,ej,ek,el,em,en,eo,ep,eq,er,es,et,eu,ev,ew,ex,ey,ez,eA,eB,eD,eE,eF,eG,eH,eI,eJ,eK,eL,eM,eN,eO,eP,bA,gv,gw,gx,gy,gz,gA,gB,gC,gD,gE,gF,gG,gH,gI],[]⟩ w
theorem cp.Ju{α:Type}{f:α->List Value}{sz:Nat}{w:World}{B n m:Nat}{A:L3}{l:List α}(h:cp (EF f) sz w B A n l)(hm:m<=n):cp (EF f) sz w B A m (l.take m):=by
 refine⟨by have:=h.1;simp;omega,λh0=>?_⟩;obtain⟨b,o,aX,O,hc⟩:=h.2 ad;exact⟨b,o,aX,O,λk x hx=>hc k x ((List.getElem?_take_of_lt (i:=k) (by have:=(List.getElem?_eq_some_iff.1 hx).1;simp at this;omega)).symm.trans hx)⟩
theorem D3(m:Nat)(A:L3)(n c:Nat)(l:List Int)(w:World)(hm:m<=1000)(h:cp (EF cP) 1 w w.heap.size A n l)(hc:n<=c) :
  Calls prog 35 #[.slice A n c,.int .i64 (m:Int)] w λe ab=>(∃I aP aK,e=.returned (.slice I aP aK)/\aP<=m/\∃aO,cp (EF cP) 1 w w.heap.size I aP aO)/\w=ab:=by
 have H:=ae h;by_cases hn:n<=m
 .have q:decide ((n:Int) > (m:Int))=false:=by simp;omega
  clear h;go_enter func35,ntmps35;go_wp2;go_ret;exact⟨⟨A,n,c,rfl,hn,l,H.o⟩,rfl⟩
 .obtain⟨b,o,rfl,O⟩:=h.some_ ad;have q:decide ((n:Int) > (m:Int))=true:=by simp;omega
  have bu:(0:Int)<=(m:Int):=ad;have cH:(m:Int)<=(c:Int):=ad;clear h;go_enter func35,ntmps35;go_wp2;go_ret;exact⟨⟨_,m,_,rfl,Lk _,_,H.Ju ad⟩,rfl⟩
theorem EB(an:i<4):strOf [byteOf (97+(i:Int))]=iI i:=by
 have h:∀k:Fin 4,strOf [byteOf (97+((k.val:Nat):Int))]=iI k.val:=by decide
 exact h ⟨i,an⟩
namespace Dh
theorem dE{p:Prop}(h:p:=by
 generalize cl:World.setCell _ _ _=gR;have f:=bh.1.add a4.1 a4.2 ad (nu.snoc bh.1.ok a3 (re:=true) (sz:=0) ad ad (by intro _;rfl));rw[cl] at f;have bN:=ae f;clear cl f a0 aj af;go_wp2_with(fail);go_roundw
 case rel=>exact⟨i+1,j,cT,M++[⟨iI i,true,0⟩],by go_num,ad,bN.o⟩
 case measure=>exact aH
 ):p:=h
end Dh
open Dh in
theorem KO(A:L3)(n c:Nat)(l:List Int)(w:World)(h:cp (EF cP) 1 w w.heap.size A n l)(hc:n<=c)
  (s:∀K,(∀a ab,Code.wp prog (nN 13) (bodyPost prog Tryz.f44 (kj w)) a ab->K a ab)->Fx w (.slice A n c) (bodyPost prog Tryz.f44 (kj w)) K) :
  Calls prog 44 #[.slice A n c] w (kj w):=by
 obtain⟨H,gX⟩:=aJ h s;clear h s;go_enter func44,ntmps44;go_upto_region 1 with(fail);generalize be:World.alloc _ _=W;have aw:=aW be;have cB:=aI be;have c5:W.heap.size=w.heap.size+1:=by rw[<-be];simp
 have y:=H.c8 (Fr.ext aw) aw.size;have ah:=aE aw cB y;clear be aw cB y;go_wp2_with(fail);refine(D3 400 A n c l W ad ah.2.2 hc).mono ?_;rintro e aS ⟨⟨I,aP,aK,rfl,ct,aO,aB⟩,rfl⟩;have b8:=ae aB;clear aB;go_upto_region 2 with(fail);generalize hX:World.alloc _ _=X;have bs:=iS hX;have q:aq X (w.heap.size+1) 147 #[.slice I aP aK,.int .i64 0]:=hX▸(aq.gC _ _ _ c5.symm).alloc _;have u:aq X (w.heap.size+1+1) 149 #[.pointer (some ⟨w.heap.size+1,0,none⟩),.slice none 0 0,.slice none 0 0,.slice none 0 0,.int .i64 24,.bool false]:=hX▸aq.gC _ _ _ (by simp[c5]);have ay:cn X (w.heap.size+1) I aP aK aO:=⟨q.lt,by rw[q.cell];rfl,⟨0,ad,by rw[q.cell];rfl⟩,q.frozen 1,(by have:=b8.o;rw[c5] at this;exact this.dS (bs.below ad λ_ _ h=>h)),ad⟩
 have H1:=bJ ay u (ah.2.1.aj bs) (ah.1.trans bs);clear hX bs q u ay ah b8;obtain⟨a0,aj,af⟩:=H1.2.1.two;go_wp2_with(fail);refine(a9 X (w.heap.size+1) I aP aK aO 3 H1.1 ad ad).mono ?_;rintro e aU ⟨cv,rfl,aZ,b1,h,he⟩;have bc:=bJ h (H1.2.1.on he.fr ad) (H1.2.2.1.on he.fr ad) (Fr.low (M:=λb=>b=w.heap.size+1) ((H1.2.2.2.mono λ_ h=>h.elim).trans he.fr) λk ap=>ad);clear h he aZ b1 a0 aj af H1;obtain⟨a0,aj,af⟩:=bc.2.1.two;go_upto_region 3 with(fail);generalize (cv == 1)=ar;generalize hX:World.setCell _ _ _=bT;have J:=cO hX;have u:aq bT (w.heap.size+1+1) 149 #[.pointer (some ⟨w.heap.size+1,0,none⟩),.slice none 0 0,.slice none 0 0,.slice none 0 0,.int .i64 24,.bool ar]:=hX▸bc.2.1.aM 5 _;have bP:=bJ (bc.1.cS J λb O h=>ad) u (bc.2.2.1.on J ad) (Fr.low (M:=λb=>b=w.heap.size+1+1) ((bc.2.2.2.mono λ_ h=>h.elim).trans J) λk ap=>ad);clear hX J u bc a0 aj af;obtain⟨a0,aj,af⟩:=bP.2.1.two;go_wp2_with(fail);refine(a9 bT (w.heap.size+1) I aP aK aO 4 bP.1 ad ad).mono ?_;rintro e cK ⟨bS,rfl,aZ,b1,h,he⟩;obtain⟨L,rfl⟩:=Lp aZ;have E:L<4:=ad;have b5:=bJ h (bP.2.1.on he.fr ad) (bP.2.2.1.on he.fr ad) (Fr.low (M:=λb=>b=w.heap.size+1) ((bP.2.2.2.mono λ_ h=>h.elim).trans he.fr) λk ap=>ad);clear h he aZ b1 a0 aj af bP;go_wp2_with(fail);go_loopw [4] (λcy wr=>∃(i:Nat) (MA:L3) (mc:Nat) (M:List bD),cy=.int .i64 i/\i<=1+L/\oU w wr I aP aK aO ar MA i mc M) (λcy _=>1+L - (intOf cy).toNat)
 case atStart=>exact⟨0,none,0,[],rfl,ad,⟨b5.1,b5.2.1,b5.2.2.1,Gr.nil _ _ _ _ _,ad,(λi m h=>by cases h),b5.2.2.2⟩⟩
 case round=>
  obtain⟨i,MA,mc,M,rfl,an,a1⟩:=hrel;clear b5;have cq:=ae a1;obtain⟨a0,aj,af⟩:=a1.blk.two;have a3:M.length=i:=by have:=a1.ms.len;simpa using this
  have ci:=a1.blk.lt;clear a1;by_cases al:i<1+L
  .have gN:(i:Int)<1+(L:Int):=ad;have e1:i<=3:=ad;have b6:=λ(W:World) (v:Int)=>k0 W v;go_upto_region 7 with(fail);clear b6;generalize hX:World.alloc _ _=g9;have b0:=iS hX;have hb:aq g9 (wr.heap.size+1) 136 #[.string (iI i),.bool false,.int .i64 0]:=by
    rw[<-hX,<-EB (by omega:i<4)];exact aq.gC _ _ _ (by simp)
   have z:=ag (cq.aj b0) hb;have cE:(Value.slice MA i mc).ownBlock≠some (wr.heap.size+1):=λO=>by have:=(cq.ms.lt O).2;omega
   have aA:=ae cE;clear hX b0 hb a0 aj af cE;obtain⟨a0,aj,af⟩:=z.1.blk.two;go_wp2_with(fail);refine(a9 g9 (w.heap.size+1) I aP aK aO 5 z.1.src ad ad).mono ?_;rintro e Y ⟨cm,rfl,x,bB,h,he⟩;have bu:=ag (z.1.next h he.fr) (z.2.on he.fr ad);have dl:wr.heap.size+1<Y.heap.size:=bu.2.lt;clear h he a0 aj af;by_cases ac:cm=1
   .have q1:(cm == 1)=true:=by simpa using ac
    clear ac x bB;obtain⟨d0,aL,aM⟩:=bu.2.two;go_upto_region 12 with(fail);generalize hX:World.setCell _ _ _=da;have J:=cO hX;have hM:aq da (wr.heap.size+1) 136 #[.string (iI i),.bool true,.int .i64 0]:=hX▸bu.2.aM 1 _;have r:=ag (bu.1.fresh ad aA.o J) hM;clear hX J hM d0 aL aM bu;obtain⟨a0,aj,af⟩:=r.1.blk.two;obtain⟨d0,aL,aM⟩:=r.2.two;have F:=r.2.lt;refine eC (λ_=>False) [(0,3),(1,3),(2,3),(3,3),(4,3),(5,0),(6,0),(7,1),(8,2),(9,3),(10,3),(11,3),(12,2)] ?_
    iterate 5 refine pf ?_
    iterate 2 refine ph ?_
    refine rz ?_;generalize bF:World.drew (World.alloc _ _)=Z;have bd:=gK bF;have bk:=kx bF;have bl:=r.1.aj bd;have bh:=ag bl bk;have bv:=bd.size;clear bF bd bk bl a0 aj af d0 aL aM;refine ax rfl (λK hK=>?_);rw[if_pos (by rfl)];refine fa l0 (.tmp 73) (.tmp 75) (by rfl) bh.1.ms bh.2 (fh.2 rfl:(eD ⟨iI i,true,0⟩).rep Z _ _) (by rfl) (by rfl) (by rfl) ad ad ad ?_;intro j cT fn bM T cR cI;have bn:∀b,(Value.slice MA i mc).ownBlock=some b->w.heap.size+1+1+1<=b:=λb O=>(bh.1.ms.lt O).1;have ba:=bh.1.blk.on T (λO=>by have:=bn _ O;omega);have a4:=ag bM T;clear bM T cR cI bn;obtain⟨a0,aj,af⟩:=ba.two;clear ba;refine dP hK ?_;clear hK K
    iterate 3 refine pf ?_
    exact eT
   by_cases au:cm=2
   .have q1:(cm == 1)=false:=by simpa using ac
    have cN:(cm == 2)=true:=by simpa using au
    clear ac au x bB;obtain⟨a0,aj,af⟩:=bu.1.blk.two;go_wp2_with(fail);refine(a9 Y (w.heap.size+1) I aP aK aO 3 bu.1.src ad ad).mono ?_;rintro e hl ⟨cc,rfl,G,Q,h,he⟩;have ao:=ag (bu.1.next h he.fr) (bu.2.on he.fr ad);clear h he a0 aj af bu;obtain⟨d0,aL,aM⟩:=ao.2.two;go_upto_region 12 with(fail);generalize hX:World.setCell _ _ _=da;have J:=cO hX;have hM:aq da (wr.heap.size+1) 136 #[.string (iI i),.bool false,.int .i64 (1+cc)]:=hX▸ao.2.aM 2 _;have r:=ag (ao.1.fresh ad aA.o J) hM;clear hX J hM d0 aL aM ao;obtain⟨a0,aj,af⟩:=r.1.blk.two;obtain⟨d0,aL,aM⟩:=r.2.two;have F:=r.2.lt;refine eC (λ_=>False) [(0,3),(1,3),(2,3),(3,3),(4,3),(5,0),(6,0),(7,1),(8,2),(9,3),(10,3),(11,3),(12,2)] ?_
    iterate 5 refine pf ?_
    iterate 2 refine ph ?_
    refine rz ?_;generalize bF:World.drew (World.alloc _ _)=Z;have bd:=gK bF;have bk:=kx bF;have bl:=r.1.aj bd;have bh:=ag bl bk;have bv:=bd.size;clear bF bd bk bl a0 aj af d0 aL aM;refine ax rfl (λK hK=>?_);rw[if_pos (by rfl)];refine fa l0 (.tmp 73) (.tmp 75) (by rfl) bh.1.ms bh.2 (fh.2 rfl:(eD ⟨iI i,false,(1+cc)⟩).rep Z _ _) (by rfl) (by rfl) (by rfl) ad ad ad ?_;intro j cT fn bM T cR cI;have bn:∀b,(Value.slice MA i mc).ownBlock=some b->w.heap.size+1+1+1<=b:=λb O=>(bh.1.ms.lt O).1;have ba:=bh.1.blk.on T (λO=>by have:=bn _ O;omega);have a4:=ag bM T;clear bM T cR cI bn;obtain⟨a0,aj,af⟩:=ba.two;clear ba;refine dP hK ?_;clear hK K
    iterate 3 refine pf ?_
    refine ax rfl (λK hK=>?_);go_simp;refine dP hK ?_;clear hK K;refine aC ?_;generalize cl:World.setCell _ _ _=gR;have f:=bh.1.add a4.1 a4.2 ad (nu.snoc bh.1.ok a3 (re:=false) (sz:=(1+cc)) ad ad (by intro h;cases h));rw[cl] at f;have bN:=ae f;clear cl f a0 aj af;go_wp2_with(fail);go_roundw
    case rel=>exact⟨i+1,j,cT,M++[⟨iI i,false,(1+cc)⟩],by go_num,ad,bN.o⟩
    case measure=>exact aH
   .have q1:(cm == 1)=false:=by simpa using ac
    have cN:(cm == 2)=false:=by simpa using au
    clear ac au x bB;go_upto_region 12 with(fail);obtain⟨a0,aj,af⟩:=bu.1.blk.two;obtain⟨d0,aL,aM⟩:=bu.2.two;refine eC (λ_=>False) [(0,3),(1,3),(2,3),(3,3),(4,3),(5,0),(6,0),(7,1),(8,2),(9,3),(10,3),(11,3),(12,2)] ?_
    iterate 5 refine pf ?_
    iterate 2 refine ph ?_
    refine rz ?_;generalize bF:World.drew (World.alloc _ _)=Z;have bd:=gK bF;have bk:=kx bF;have bl:=bu.1.aj bd;have bh:=ag bl bk;have bv:=bd.size;clear bF bd bk bl a0 aj af d0 aL aM;refine ax rfl (λK hK=>?_);rw[if_pos (by rfl)];refine fa l0 (.tmp 73) (.tmp 75) (by rfl) bh.1.ms bh.2 (fh.2 rfl:(eD ⟨iI i,false,0⟩).rep Z _ _) (by rfl) (by rfl) (by rfl) ad ad ad ?_;intro j cT fn bM T cR cI;have bn:∀b,(Value.slice MA i mc).ownBlock=some b->w.heap.size+1+1+1<=b:=λb O=>(bh.1.ms.lt O).1;have ba:=bh.1.blk.on T (λO=>by have:=bn _ O;omega);have a4:=ag bM T;clear bM T cR cI bn;obtain⟨a0,aj,af⟩:=ba.two;clear ba;refine dP hK ?_;clear hK K
    iterate 3 refine pf ?_
    refine ax rfl (λK hK=>?_);go_simp;refine dP hK ?_;clear hK K;refine aC ?_;generalize cl:World.setCell _ _ _=gR;have f:=bh.1.add a4.1 a4.2 ad (nu.snoc bh.1.ok a3 (re:=false) (sz:=0) ad ad (by intro _;rfl));rw[cl] at f;have bN:=ae f;clear cl f a0 aj af;go_wp2_with(fail);go_roundw
    case rel=>exact⟨i+1,j,cT,M++[⟨iI i,false,0⟩],by go_num,ad,bN.o⟩
    case measure=>exact aH
  .have gN:¬(i:Int)<1+(L:Int):=ad;go_upto_region 13 with(fail);have bH:=gX.o _ (by assumption);unfold Fx at bH;exact bH I aP aK aO ar MA i mc M wr ad cq.o
theorem v8:cj prog 23 153 (.agg #[.string ⟨#[]⟩,.int .i64 0]) 2 24:=cj.mk' Tryz.underlying23 (by kernel_rfl) rfl ad
def sw(G:List (ByteArray×Int)):Prop:=∀i g,G[i]?=some g->g.1=dR i∧-2<=g.2/\g.2<=2
theorem sw.snoc{G:List (ByteArray×Int)}(h:sw G)(an:G.length=i){v:Int}(h0:-2<=v)(aY:v<=2):sw (G++[(dR i,v)]):=by
 intro k m hm;by_cases ap:k<G.length
 .rw[List.getElem?_append_left ap] at hm;exact h k m hm
 .rw[List.getElem?_append_right ad] at hm;have b0:k - G.length=0:=by
   exact vK
  rw[b0] at hm;simp at hm;subst hm;have:k=i:=ad;subst this;exact⟨rfl,h0,aY⟩
structure xG(S:World)(u:Nat)(w:World)(A:L3)(n c:Nat)(l:List Int)(ar:Bool)(MA:L3)(mn mc:Nat)(M:List bD)(GA:L3)(gn gc:Nat)(G:List (ByteArray×Int))(av:L3)(aX:Nat):Prop where
 src:cn w (S.heap.size+1) A n c l
 blk:aq w (S.heap.size+1+1) 149 #[.pointer (some ⟨S.heap.size+1,0,none⟩),.slice GA gn gc,.slice MA mn mc,.slice none 0 0,.int .i64 24,.bool ar]
 res:aq w S.heap.size 27 #[.slice none 0 0,.slice none 0 0,.slice none 0 0]
 ms:Sl w (λb=>S.heap.size+1+1+1<=b/\b<u) MA mn (M.map eD)
 mc:mn<=mc
 rows:lz u 153 2 9 1 w GA gn gc (G.map iD) av gn aX ((G.map (·.1)).map D.s)
 nm:1<=mn/\mn<=4
 ok:nu M
 ng:gn<=2
 zt:sw G
 ext:Ext S w
 hD:S.heap.size+1+1+1<=u/\u<=w.heap.size
section
variable {S w ab:World} {u:Nat} {A:L3} {n c:Nat} {l:List Int} {ar:Bool} {MA:L3} {mn mc:Nat} {M:List bD} {GA:L3} {gn gc:Nat} {G:List (ByteArray×Int)} {av:L3} {aX:Nat}
theorem oU.J2(h:oU S w A n c l ar MA mn mc M)(ac:1<=mn):xG S w.heap.size w A n c l ar MA mn mc M none 0 0 [] none 0:=
 ⟨h.src,h.blk,h.res,h.ms.sl (λ_ _ h=>h.elim) (λb O aR=>⟨aR,O⟩),h.ms.cap.1,lz.nil _ _ _ _ _ _,⟨ac,h.nm⟩,h.ok,ad,(λi g h=>by cases h),h.ext,by have:=h.blk.lt;omega,Lk _⟩
theorem xG.next(h:xG S u w A n c l ar MA mn mc M GA gn gc G av aX)(hs:cn ab (S.heap.size+1) A n c l)(O:Fr (λb=>b=S.heap.size+1) w ab):xG S u ab A n c l ar MA mn mc M GA gn gc G av aX:=by
 have hD:=h.hD;exact⟨hs,h.blk.on O ad,h.res.on O ad,h.ms.al λb hp=>O.block b (aD hp.2) (aD hp.1),h.mc,h.rows.c8 O (λb O _=>ad),h.nm,h.ok,h.ng,h.zt,Fr.low (M:=λb=>b=S.heap.size+1) ((h.ext.mono λ_ h=>h.elim).trans O) λk ap=>ad,hD.1,by have:=O.size;omega⟩
theorem xG.aj(h:xG S u w A n c l ar MA mn mc M GA gn gc G av aX)(O:Ext w ab):xG S u ab A n c l ar MA mn mc M GA gn gc G av aX:=h.next (h.src.cS O λ_ _ h=>h) (O.mono λ_ h=>h.elim)
theorem xG.add(h:xG S u w A n c l ar MA mn mc M GA gn gc G av aX){bF Y:L3}{a5 am:Nat}{g:ByteArray×Int}(ba:lz u 153 2 9 1 ab bF (gn+1) a5 ((G++[g]).map iD) Y (gn+1) am (((G++[g]).map (·.1)).map D.s))
  (J:Fr (λb=>(Value.slice GA gn gc).ownBlock=some b\/(Value.slice av gn aX).ownBlock=some b) w ab) (hn:gn+1<=2) (bM:sw (G++[g])) :
  xG S u (ab.setCell ⟨S.heap.size+1+1,1,none⟩ (.slice bF (gn+1) a5)) A n c l ar MA mn mc M bF (gn+1) a5 (G++[g]) Y am:=by
 have hD:=h.hD;have bn:∀b,((Value.slice GA gn gc).ownBlock=some b\/(Value.slice av gn aX).ownBlock=some b)->u<=b:=λb O=>by
  rcases O with O|O
  .exact(h.rows.one.lt O).1
  .exact(h.rows.two.lt O).1
 have az:Fr (λb=>b=S.heap.size+1+1) ab (ab.setCell ⟨S.heap.size+1+1,1,none⟩ (.slice bF (gn+1) a5)):=(Fr.refl (λb=>b=S.heap.size+1+1) ab).setCell (.inl rfl) _;have hs:=J.size;have bN:=az.size;refine⟨(h.src.cS J λb O ah=>by have:=bn b ah;omega).cS az (λb O ah=>ad),(h.blk.on J λah=>by have:=bn _ ah;omega).aM 1 _,(h.res.on J λah=>by have:=bn _ ah;omega).on az ad,
  h.ms.al λb hp=>(az.block b (aD hp.2) (aD hp.1)).trans (J.block b (aD hp.2) λah=>by have:=bn b ah;have:=hp.2;omega),h.mc,ba.c8 az (λb O _=>ad),h.nm,h.ok,hn,bM,?_,hD.1,ad⟩
 have ac:Ext S ab:=Fr.low (M:=λb=>(Value.slice GA gn gc).ownBlock=some b\/(Value.slice av gn aX).ownBlock=some b) ((h.ext.mono λ_ h=>h.elim).trans J) λk ap=>by have:=bn k ap;omega
 exact z2
end
def Fy(S:World)(gS:Value)(Q:Exit->Act->World->Prop)(K:Act->World->Prop):Prop:=∀(u:Nat) (A:L3) (n c:Nat) (l:List Int) (ar:Bool) (MA:L3) (mn mc:Nat) (M:List bD) (GA:L3) (gn gc:Nat) (G:List (ByteArray×Int)) (av:L3) (aX:Nat) {hs hu gJ gQ u8 gL eR bm bL ce bV bU u16 ck gs eS eV eW eX eY eZ e3 e5 e7 e8 e9 fb fd u32 fe ff fh fi fj fk fl fm fo fq fr fs ft fu fv fw fx fz fA fB fC fD fE fF fG fH fI fJ fK fL fM u64 fN fO fP fQ fR fS fT fU fV fW fX fY fZ f3 f4 f5 f6 f7 f8 f9 ga gb gd ge gf gg gh gi gj gk gl gm go gp gq H I am aF aL aM aN aV aW a7 bb be bg bo br bs bw bI bO bW b2 b5 b8 cc cd cf ch cj cp cr ct cx cA cB cC cD cF cG cH cL cM cP cQ cS cT cU cV cW cX cY cZ c4 c5 c6 c7 c8 c9 da db dc dd de df dg dh di dj dk dl dm dn dp dr ds du dw dx dy dz dA dB dC dD dF dG dH dI dJ dK dM dN dQ dS dU dV dW dX dZ d0 d1 d2 d3 d4 d5 d6 d7 d8 d9 ea eb ec ed ee ef eg eh ei ej ek el em en eo ep eq er es et eu ev ew ex ey ez eA eB eD eE eF eG eH eI eJ eK eL eM eN eO eP bA gv gw gx gy gz gA gB gC gD gE gF gG gH gI:Value} (w:World),xG S u w A n c l ar MA mn mc M GA gn gc G av aX->
 Code.wp prog (w1 19) (Exit.then K Q) ⟨#[gS,hs,.pointer (some ⟨S.heap.size,0,none⟩),.pointer (some ⟨S.heap.size+1+1,0,none⟩),hu,gJ,gQ,.slice av gn aX,u8,gL,eR,bm,bL,ce,bV,bU,u16,ck,gs,eS,eV,eW,eX,eY,eZ,e3,e5,e7,e8,e9,fb,fd,u32,fe,ff,fh,fi,fj,fk,fl,fm,fo,fq,fr,fs,ft,fu,fv,fw,fx,fz,fA,fB,fC,fD,fE,fF,fG,fH,fI,fJ,fK,fL,fM,u64,fN,fO,fP,fQ,fR,fS,fT,fU,fV,fW,fX,fY,fZ,f3,f4,f5,f6,f7,f8,f9,ga,gb,gd,ge,gf,gg,gh,gi,gj,gk,gl,gm,go,gp,gq,H,I,am,aF,aL,aM,aN,aV,aW,a7,bb,be,bg,bo,br,bs,bw,bI,bO,bW,b2,b5,b8,cc,cd,cf,ch,cj,cp,cr,ct,cx,cA,cB,cC,cD,cF,cG,cH,cL,cM,cP,cQ,cS,cT,cU,cV,cW,cX,cY,cZ,c4,c5,c6,c7,c8,c9,da,db,dc,dd,de,df,dg,dh,di,dj,dk,dl,dm,dn,dp,dr,ds,du,dw,dx,dy,dz,dA,dB,dC,dD,dF,dG,dH,dI,dJ,dK,dM,dN,dQ,dS,dU,dV,dW,dX,dZ,d0,d1,d2,d3,d4,d5,d6,d7,d8,d9,ea,eb,ec,ed,ee,ef,eg,eh,ei,ej,ek,el,em,en,eo,ep,eq,er,es,et,eu,ev,ew,ex,ey,ez,eA,eB,eD,eE,eF,eG,eH,eI,eJ,eK,eL,eM,eN,eO,eP,bA,gv,gw,gx,gy,gz,gA,gB,gC,gD,gE,gF,gG,gH,gI],[]⟩ w
theorem tB{w:World}{x:ByteArray×Int}{cs:List Value}:(iD x).rep w P cs↔cs=[.string x.1,.int .i64 x.2]:=by
 unfold iD;rw[bM,ct];exact DK
theorem q3{P:Program}{ops:Array Oper}{Q:Exit->Act->World->Prop}{R:World->World->Prop}{tails:List Nat}{j k:Nat}{f:Nat->PT}{a:Act}{w:World}(h:oI P ops Q R tails i (f i) a w)(au:oI P ops Q R tails j (f j) a w)(aY:oI P ops Q R tails k (f k) a w):cR P ops Q R tails (.pick [i,j,k] f) a w:=λm hm=>by
 simp only[LC,List.not_mem_nil,or_false] at hm;rcases hm with rfl|rfl|rfl
 .exact h
 .exact au
 .exact aY
theorem En(an:i<3){bv:Int}(O:IntKind.u8.wrap (IntKind.i64.wrap (48+(i:Int)))=bv):(⟨#[103]⟩++strOf [byteOf bv]:ByteArray)=dR i:=by
 subst O;have h:∀k:Fin 3,(⟨#[103]⟩++strOf [byteOf (IntKind.u8.wrap (IntKind.i64.wrap (48+((k.val:Nat):Int))))]:ByteArray)=dR k.val:=by decide
 exact h ⟨i,an⟩
theorem fy(V:World)(g:Nat)(v1:Int)(h0:V.cell? ⟨g,0,none⟩=some (.int .u8 v1)) :
  (convert 143 9 (.slice (some ⟨g,0,none⟩) 1 1)).run prog V=.ok (.string (strOf [byteOf v1])) V:=by
 have:=run_convert_bytes_arg (P:=prog) V 143 5 Tryz.underlying143 Tryz.underlying5 g 0 1 1 [v1] rfl (λi an=>by
  obtain rfl:i=0:=ad;exact h0) 9 Tryz.underlying9
 rw[this];rfl
end Go.Proofs.YtkhnkojkplbioaaGreat

/- Part 42 of the proof. No condition of its own. -/
import Derived.Test.YtglbpimocmhojaaGreatQ41
namespace Go.Proofs.YtglbpimocmhojaaGreat
open Go.RowKit Go.Proofs.Tryz
set_option maxRecDepth 1000000
set_option maxHeartbeats 25600000
set_option linter.unusedVariables false
variable{i:Nat}{P:Nat->Prop}
def IU(p:kj)(bZ B:Nat)(bO bT:Value)(d:Nat)(ps:List (ByteArray×Bool))(V T:Lq)(aw:World)(aG:Nat)(aZ:ByteArray)(QA:Lp)(cg qc:Nat)(bx:Value)(av:Lp)(bi ba:Nat)(bq:Lp)(on b6:Nat)(N:Int)(w:World):Prop:=∃(aH:Lq) (ls:List aA) (L:Nat),
 N<=7/\ov p aw w L/\aq w bZ 136 #[.string aZ,.slice QA cg qc,bx]/\la B 9 1 174 11 w av bi ba (aH.map D.s) bq on b6 (ls.map bg)/\Made (p.env ps) d V T aG L ls/\aH ⊆ V++decls ls/\aH.length+L<=60
def qN(p:kj)(bZ B:Nat)(bO bT:Value)(d:Nat)(ps:List (ByteArray×Bool))(V T:Lq)(aw:World)(aG:Nat)(aZ:ByteArray)(QA:Lp)(cg qc:Nat)(bx:Value)(a:Act)(w:World):Prop:=∃(av:Lp) (bi ba:Nat) (bq:Lp) (on b6:Nat) (N:Int) (gJ z u8 gK eO a4 u16 bR cq eR eS eT eU eV eW eY eZ e3 e6 e7 e8 e9 u32 fa fb fd fe ff fh fi fk fl fm fo fp fq fr fs ft fv fw fx fy fz fA fB fC fD fE fF fG fH fI fJ u64 fK fL fM fN fO fP fQ fR fS fT fU fV fW fX fY fZ f3 f4 f5 f6 f7 f8 f9 ga gb gd ge gf gg gh gi gj gk gl gm H I am aF aL aM aN aX a1 a8 bb bd bm bp bt bz bA bD bJ bV bY b1 b5 b8 b9 cb ce ch cj cl co cp cx cy cz cA cB cD cE cG cH cM cN cO cP cR cS cT cU cV cW cX cY cZ c4 c5 c6 c7 c8 c9 da db dc dd de df dg dh di dj dk dl dm dn dp dr dt du dv dw dx dy dA dC dD dE dF dG dI dJ dK dM dQ dR dS dT dV dW dX dY dZ d0 d1 d2 d3 d4 d5 d6 d7 d8 d9 ea eb ec ed ee ef eg eh ei ej ek el em en eo ep eq er es et eu ev ew ex ey ez eA eB eC eD eE eF eG eH eI eJ eL eM cc bQ:Value),IU p bZ B bO bT d ps V T aw aG aZ QA cg qc bx av bi ba bq on b6 N w/\a=⟨#[.pointer (some ⟨p.wb,0,none⟩),bO,.slice av bi ba,.int .i64 (d:Int),bT,gJ,.pointer (some ⟨bZ,0,none⟩),z,u8,gK,eO,.slice bq on b6,.int .i64 N,cc,bQ,a4,u16,bR,cq,eR,eS,eT,eU,eV,eW,eY,eZ,e3,e6,e7,e8,e9,u32,fa,fb,fd,fe,ff,fh,fi,fk,fl,fm,fo,fp,fq,fr,fs,ft,fv,fw,fx,fy,fz,fA,fB,fC,fD,fE,fF,fG,fH,fI,fJ,u64,fK,fL,fM,fN,fO,fP,fQ,fR,fS,fT,fU,fV,fW,fX,fY,fZ,f3,f4,f5,f6,f7,f8,f9,ga,gb,gd,ge,gf,gg,gh,gi,gj,gk,gl,gm,H,I,am,aF,aL,aM,aN,aX,a1,a8,bb,bd,bm,bp,bt,bz,bA,bD,bJ,bV,bY,b1,b5,b8,b9,cb,ce,ch,cj,cl,co,cp,cx,cy,cz,cA,cB,cD,cE,cG,cH,cM,cN,cO,cP,cR,cS,cT,cU,cV,cW,cX,cY,cZ,c4,c5,c6,c7,c8,c9,da,db,dc,dd,de,df,dg,dh,di,dj,dk,dl,dm,dn,dp,dr,dt,du,dv,dw,dx,dy,dA,dC,dD,dE,dF,dG,dI,dJ,dK,dM,dQ,dR,dS,dT,dV,dW,dX,dY,dZ,d0,d1,d2,d3,d4,d5,d6,d7,d8,d9,ea,eb,ec,ed,ee,ef,eg,eh,ei,ej,ek,el,em,en,eo,ep,eq,er,es,et,eu,ev,ew,ex,ey,ez,eA,eB,eC,eD,eE,eF,eG,eH,eI,eJ,eL,eM],[]⟩
def EL(a:Act)(_:World):Nat:=(intOf (a.tmps.getD 12 undef)).toNat
theorem FI(p:kj)(bZ B:Nat)(bO bT:Value)(d:Nat)(ps:List (ByteArray×Bool))(V T:Lq)(aw:World)(aG:Nat)(aZ:ByteArray)(QA:Lp)(cg qc:Nat)(bx:Value)(i:gw aw p aG)(k:Sl aw (off p.MW aw) QA cg (ps.map ds))(b7:aw.heap.size<=bZ)(b0:bZ<B)(bs:B<=bZ+1)(bv:cg<=2)(bc:d<=2)(Z:mf T aG)(ax:∀R,R<aG->HO p R)(dq:Exit->Act->World->Prop)(hQ0:∀c a d v w,dq (.panic c) (a.put d v) w->dq (.panic c) a w)(x:∀r j,qN p bZ B bO bT d ps V T aw aG aZ QA cg qc bx r j->dq (.exit 0) r j)
  (a:Act) (wr:World) (hI:qN p bZ B bO bT d ps V T aw aG aZ QA cg qc bx a wr):Code.wp prog wU (Exit.then (λr j=>qN p bZ B bO bT d ps V T aw aG aZ QA cg qc bx r j/\EL r j<EL a wr) dq) a wr:=by
 obtain⟨s,wb,sA,bV,bC,sl,GA,gn,gc,MA,mn,mc,FA,fn,fc,M,F,ar⟩:=p;unfold qN at hI;obtain⟨av,bi,ba,bq,on,b6,N,hI⟩:=hI
 iterate 241 obtain⟨_,hI⟩:=hI
 obtain⟨hI,rfl⟩:=hI;have a7:=ae hI;obtain⟨aH,ls,L,a9,hC,aA,hG,hM,hV,bK⟩:=hI;have be:=i.ne;have cn:=i.src.lt;have cu:=i.blk.lt;simp only at be cn cu;obtain⟨a0,ai,af⟩:=hC.blk.two;have cr:aH.length=bi:=by have:=hG.one.len;simpa using this
 have Q:ls.length=on:=by have:=hG.two.len;simpa using this
 have aB:=hC.le;have aI:=hM.le;have aV:=i.kA;have a1:on<=48:=by
  have ac:=hM.num;have au:=tP ls;have aU:=i.kA;omega
 have ag:=cK hC aA hG hM hV;have bl:=bL i k Z ax;clear hC aA hG hM hV i k Z ax;by_cases hO:0<N
 case neg=>
  have q:decide (N > 0)=false:=by simp;omega
  exact zg
 by_cases a8:0<L
 case neg=>
  have q:decide (N > 0)=true:=by simpa using hO
  obtain rfl:L=0:=ad;exact zg
 obtain⟨R,rfl⟩:∃R,L=R+1:=⟨L - 1,ad⟩
 have dD:(0:Int)<((R+1:Nat):Int):=ad;clear a7;conv=>arg 2;whnf
 go_upto_region 7 with(fail);generalize hX:World.setCell _ _ _=S;have ao:=cJ hX;have cb:aq S wb 125 #[.pointer (some ⟨s,0,none⟩),.slice GA gn gc,.slice MA mn mc,.slice FA fn fc,.int .i64 R,.bool ar]:=hX▸ag.1.blk.aM 4 _;have aF:ov ⟨s,wb,sA,bV,bC,sl,GA,gn,gc,MA,mn,mc,FA,fn,fc,M,F,ar⟩ aw S R:=⟨ag.1.src.cO ao (λb O h=>by simp only at O;omega),cb,ag.1.fr.trans (ao.mono λ_ h=>.inr h),ad⟩
 have Y:=ag.2.1.on ao ad;have bk:=ag.2.2.1.c8 ao (λb O _=>ad);have bf:=aD aF Y bk;have ck:bZ<S.heap.size:=Y.lt;clear hX ao cb aF Y bk a0 ai af;obtain⟨a0,ai,af⟩:=bf.1.blk.two;go_upto_region 8 with(fail);generalize ak:World.alloc _ _=aS;have aN:=aX ak;have U:=aK ak;have u:ov ⟨s,wb,sA,bV,bC,sl,GA,gn,gc,MA,mn,mc,FA,fn,fc,M,F,ar⟩ S aS R:=⟨bf.1.src.cO aN (λ_ _ h=>h),bf.1.blk.ai aN,aN.mono λ_ h=>h.elim,bf.1.le⟩
 have H1:=ah u U;clear ak aN U u a0 ai af;obtain⟨a0,ai,af⟩:=H1.1.blk.two;go_wp2_with(fail);refine(a2 aS s sA bV bC sl 14 H1.1.src ad ad).mono ?_;rintro e aT ⟨cv,rfl,bz,ay,h,he⟩;have an:=H1.1.next be h he.fr;have cG:=H1.2.on he.fr ad;have bJ:=ah an cG;clear h he an cG a0 ai af H1;go_upto_region 14 with(fail);have h0:=bf.1.wr bl.1;have P:∀b,(⟨s,wb,sA,bV,bC,sl,GA,gn,gc,MA,mn,mc,FA,fn,fc,M,F,ar⟩:kj).MW b->b<B:=λb O=>by rcases O with O|O<;>(simp only at O;omega)
 refine IF cv bz ay d bi ⟨s,wb,sA,bV,bC,sl,GA,gn,gc,MA,mn,mc,FA,fn,fc,M,F,ar⟩ bZ B bO bT ps V T ls N S R aw aZ QA cg qc bx aH av ba bq on b6 R (by simp only;omega) ad ad bv aT h0.ne h0.src.lt h0.blk.lt (by have:=bf.2.2.one.len;simpa using this) bJ.1.fr.size (ae ⟨h0,bf.2.1,Sl.c8 bl.2.1 bf.1.fr,bf.2.2,bf.2.2.names P,P⟩) (ae ⟨bJ.1,bf.2.1.on bJ.1.fr (λh=>by rcases h with h|h<;>(simp only at h;omega)),bJ.2⟩) ad ad bc (ae ⟨ag.2.2.2.2,ag.2.2.2.1.free ad bl.2.2.1,λa5 bd=>bl.2.2.2 a5 ad⟩) aG (ae ⟨bl.1,bl.2.1,bf.1.fr⟩) b7 _ ?hQ ?hN _ (by assumption)
 case hQ=>exact λc a d v w h=>hQ0 _ _ _ _ _ h
 case hN=>
  intro r ab hp;unfold lE at hp;obtain⟨z,aQ,am,aC,HP,aE,hp⟩:=hp
  iterate 240 obtain⟨_,hp⟩:=hp
  obtain⟨hF,rfl⟩:=hp;obtain⟨aR,m,st,a6,cs,aa,l,n,J,I,a4,y,K,hle,aj,aP,a3⟩:=hF;obtain⟨eo,en,es,EA,em,ec,rs,cc,cI,rc,bU,n1,c1,A2,n2,c2,cC,n3,c3,rfl,_⟩:=k7 I;obtain⟨d0,aL,aM⟩:=J.two;have aW:=o5 aa l n I a4 y K aj;have aY:bZ<ab.heap.size:=l.lt;have b2:B<=ab.heap.size:=ad;clear aa l n J I a4 y K aj;clear bJ
  try dsimp only[Exit.inBlock,Exit.then]
  go_wp2_with(at_builtin;refine bP oy rfl (.tmp 244) (.tmp 246) rfl aW.2.2.1.two aW.2.2.2.1 rfl rfl rfl ad ad b2 ?_;intro co bM c7 bF az al ci;have dv:=aD bF az al;clear bF az al ci);refine⟨?_,by simp[EL,intOf];omega⟩;obtain⟨aa,l,n,I,a4,y,K,aj⟩:=aW.o;obtain⟨bm,aJ,bn⟩:=dv.o;have aO:∀b,(Value.slice aC HP aE).ownBlock=some b->B<=b:=λb O=>(n.two.lt O).1;unfold qN;refine⟨z,aQ,am,co,HP+1,bM,N - 1,?_⟩
  iterate 241 apply Exists.intro
  refine⟨?_,rfl⟩;refine⟨aR,ls++(m++[st]),a6,ad,aa.fresh bl.1 aJ (λb O=>by have:=aO b O;omega),l.on aJ (λO=>by have:=aO _ O;omega),?_,ag.2.2.2.1.snoc a4 y K ad,aj,aP⟩;have ap:(ls++(m++[st])).map bg=(ls++m).map bg++[bg st]:=by simp
  rw[ap];exact(n.swap.grow bm aJ bn).swap
theorem HI(p:kj)(bZ B:Nat)(bO bT:Value)(d:Nat)(ps:List (ByteArray×Bool))(V T:Lq)(aw:World)(aG:Nat)(aZ:ByteArray)(QA:Lp)(cg qc:Nat)(bx:Value)(i:gw aw p aG)(k:Sl aw (off p.MW aw) QA cg (ps.map ds))(b7:aw.heap.size<=bZ)(b0:bZ<B)(bs:B<=bZ+1)(bv:cg<=2)(bc:d<=2)(Z:mf T aG)(ax:∀R,R<aG->HO p R)(dq:Exit->Act->World->Prop)(hQ0:∀c a d v w,dq (.panic c) (a.put d v) w->dq (.panic c) a w)(x:∀r j,qN p bZ B bO bT d ps V T aw aG aZ QA cg qc bx r j->dq (.exit 0) r j)
  (av:Lp) (bi ba:Nat) (bq:Lp) (on b6:Nat) (N:Int) {gJ z u8 gK eO a4 u16 bR cq eR eS eT eU eV eW eY eZ e3 e6 e7 e8 e9 u32 fa fb fd fe ff fh fi fk fl fm fo fp fq fr fs ft fv fw fx fy fz fA fB fC fD fE fF fG fH fI fJ u64 fK fL fM fN fO fP fQ fR fS fT fU fV fW fX fY fZ f3 f4 f5 f6 f7 f8 f9 ga gb gd ge gf gg gh gi gj gk gl gm H I am aF aL aM aN aX a1 a8 bb bd bm bp bt bz bA bD bJ bV bY b1 b5 b8 b9 cb ce ch cj cl co cp cx cy cz cA cB cD cE cG cH cM cN cO cP cR cS cT cU cV cW cX cY cZ c4 c5 c6 c7 c8 c9 da db dc dd de df dg dh di dj dk dl dm dn dp dr dt du dv dw dx dy dA dC dD dE dF dG dI dJ dK dM dQ dR dS dT dV dW dX dY dZ d0 d1 d2 d3 d4 d5 d6 d7 d8 d9 ea eb ec ed ee ef eg eh ei ej ek el em en eo ep eq er es et eu ev ew ex ey ez eA eB eC eD eE eF eG eH eI eJ eL eM cc bQ:Value} (wr:World) (hI:IU p bZ B bO bT d ps V T aw aG aZ QA cg qc bx av bi ba bq on b6 N wr):Code.wp prog (Code.loop wU) dq ⟨#[.pointer (some ⟨p.wb,0,none⟩),bO,.slice av bi ba,.int .i64 (d:Int),bT,gJ,.pointer (some ⟨bZ,0,none⟩),z,u8,gK,eO,.slice bq on b6,.int .i64 N,cc,bQ,a4,u16,bR,cq,eR,eS,eT,eU,eV,eW,eY,eZ,e3,e6,e7,e8,e9,u32,fa,fb,fd,fe,ff,fh,fi,fk,fl,fm,fo,fp,fq,fr,fs,ft,fv,fw,fx,fy,fz,fA,fB,fC,fD,fE,fF,fG,fH,fI,fJ,u64,fK,fL,fM,fN,fO,fP,fQ,fR,fS,fT,fU,fV,fW,fX,fY,fZ,f3,f4,f5,f6,f7,f8,f9,ga,gb,gd,ge,gf,gg,gh,gi,gj,gk,gl,gm,H,I,am,aF,aL,aM,aN,aX,a1,a8,bb,bd,bm,bp,bt,bz,bA,bD,bJ,bV,bY,b1,b5,b8,b9,cb,ce,ch,cj,cl,co,cp,cx,cy,cz,cA,cB,cD,cE,cG,cH,cM,cN,cO,cP,cR,cS,cT,cU,cV,cW,cX,cY,cZ,c4,c5,c6,c7,c8,c9,da,db,dc,dd,de,df,dg,dh,di,dj,dk,dl,dm,dn,dp,dr,dt,du,dv,dw,dx,dy,dA,dC,dD,dE,dF,dG,dI,dJ,dK,dM,dQ,dR,dS,dT,dV,dW,dX,dY,dZ,d0,d1,d2,d3,d4,d5,d6,d7,d8,d9,ea,eb,ec,ed,ee,ef,eg,eh,ei,ej,ek,el,em,en,eo,ep,eq,er,es,et,eu,ev,ew,ex,ey,ez,eA,eB,eC,eD,eE,eF,eG,eH,eI,eJ,eL,eM],[]⟩ wr:=by
 refine wp_loop (qN p bZ B bO bT d ps V T aw aG aZ QA cg qc bx) EL ?_ (λa j hI=>FI p bZ B bO bT d ps V T aw aG aZ QA cg qc bx i k b7 b0 bs bv bc Z ax dq hQ0 x a j hI);unfold qN
 iterate 248 apply Exists.intro
 exact⟨hI,rfl⟩
theorem nC{w:World}{P:Nat->Prop}:∀l:List ByteArray,D.aQ w P (l.map D.s) (l.map Value.string)
 | []=>by simp only[Lb,D.aQ]
 | x::l=>by simp only[KJ];exact cp.2 ⟨_,rfl,nC l⟩
theorem xP{w:World}{P:Nat->Prop}:∀(l:Lq) (xs:List Value),D.aQ w P (l.map D.s) xs->xs=l.map Value.string
 | [],xs,h=>by simpa only[Lb,D.aQ] using h
 | x::l,xs,h=>by
  simp only[KJ] at h;obtain⟨y,rfl,au⟩:=cp.1 h;rw[KJ,xP l y au]
theorem uG{w:World}{A:Lp}{n:Nat}{l:Lq}(h:Sl w P A n (l.map D.s)):Src w 1 A n (l.map Value.string):=by
 obtain⟨xs,a5,hs⟩:=h.src (z:=1) (λd hd=>by obtain⟨x,_,rfl⟩:=Lc.1 hd;rfl)
 rwa [xP l xs a5] at hs
theorem uM(p:kj)(aG:Nat)(ax:∀R,R<aG->HO p R):HO p aG:=by
 intro d f V T N bc aa aZ ps QA cg qc bx w hd q hw hN bK Z cl bv;obtain⟨s,wb,sA,bV,bC,sl,GA,gn,gc,MA,mn,mc,FA,fn,fc,M,F,ar⟩:=p;have be:=hw.ne;have cn:=hw.src.lt;have cu:=hw.blk.lt;have cr:V.length=bc:=by have:=hN.1;simpa using this
 simp only at be cn cu;have H:=cK hw hN cl Z ax;clear hw hN cl Z ax;go_enter func66,ntmps66;go_upto_region 2 with(fail);generalize ba:World.alloc _ _=W;have aw:=aX ba;have bF:=aK ba;have cZ:W.heap.size=w.heap.size+1:=by rw[<-ba];simp
 have bk:Gr (λ_=>False) (w.heap.size+1) 9 1 (W.alloc (.cells #[] 9)) (some ⟨W.heap.size,0,none⟩) 0 0 []:=(Gr.lit (w:=W) (n:=0) (l:=[]) rfl (by rfl) ad (by simp only[D.aQ])).base ad;rw[cZ] at bk;have ay:Src (W.alloc (.cells #[] 9)) 1 N bc (V.map Value.string):=uG (Sl.c8 H.2.1 ((aw.mono λ_ h=>h.elim).alloc _));have g:N=none->bc=0:=λh=>by subst h;exact Sl.none_ H.2.1
 have b2:w.heap.size+1<=(W.alloc (.cells #[] 9)).heap.size:=by simp;omega
 have ag:=ah aw bF;clear ba aw bF;go_upto_region 3 with(at_builtin;refine qC kq rfl (.tmp 17) (.tmp 18) rfl bk (nC V) (by simpa using cr) ay g rfl rfl ad ad b2 ?_;intro cC c3 bX eN ao bI U;have bf:=ah eN ao;clear eN ao bI U);have a7:Ext W bX:=(Ll.alloc _:Ext W (W.alloc (.cells #[] 9))).eN (bf.2.below (by simp) λk ap h=>by
  simp[Value.ownBlock] at h;omega)
 have dF:=H.1.ai (ag.1.trans a7);obtain⟨a0,ai,af⟩:=dF.blk.two;have bW:=aD dF a7 bf.1;clear dF a7 bf bk ay g;go_wp2_with(fail);refine(a2 bX s sA bV bC sl ((f:Int)+1) bW.1.src ad ad).mono ?_;rintro e cL ⟨cv,rfl,bz,cb,h,he⟩;have aj:Fr (λb=>b=s) w cL:=((ag.1.trans bW.2.1).mono λ_ h=>h.elim).trans he.fr;have j:=bW.1.next h he.fr;have m:=bW.2.2.c8 he.fr λb O _=>⟨λh=>h,ad⟩
 simp only[KV,Le] at m;have i:=(ag.2.ai bW.2.1).on he.fr ad;have aB:aG<=24:=H.1.kA;have cq:=ae (show IU ⟨s,wb,sA,bV,bC,sl,GA,gn,gc,MA,mn,mc,FA,fn,fc,M,F,ar⟩ w.heap.size (w.heap.size+1) (.agg #[.string aZ,.slice QA cg qc,bx]) (.int .i64 (f:Int)) d ps V T w aG aZ QA cg qc bx cC bc c3 none 0 0 cv cL from
  ⟨V,[],aG,ad,⟨j.src,j.blk,aj.mono λ_ h=>.inl h,aB⟩,i,⟨Gr.strs m,Gr.nil _ _ _ _ _,λb _ h=>by cases h⟩,Made.nil _ _ _ _ _,λx hx=>KM.2 (.inl hx),bK⟩)
 clear h he aj j m i a0 ai af bW;skip
 go_wp2_with(fail);refine HI ⟨s,wb,sA,bV,bC,sl,GA,gn,gc,MA,mn,mc,FA,fn,fc,M,F,ar⟩ w.heap.size (w.heap.size+1) (.agg #[.string aZ,.slice QA cg qc,bx]) (.int .i64 (f:Int)) d ps V T w aG aZ QA cg qc bx H.1 H.2.2.1 (KD _) ad (KD _) bv hd H.2.2.2.1 H.2.2.2.2 _ ?hQ ?hX cC bc c3 none 0 0 cv cL cq.o
 case hQ=>exact λ_ _ d _ _ h=>by cases d<;>exact h
 case hX=>
  intro r wf hI;unfold qN at hI;obtain⟨z,aQ,am,aC,HP,aE,hI⟩:=hI
  iterate 242 obtain⟨_,hI⟩:=hI
  obtain⟨⟨aH,ls,L,_,hC,aA,hG,hM,hV,o⟩,rfl⟩:=hI;have bT:=aD hC hG hM;clear hC aA hG hM hV o cq;go_wp2;go_ret;obtain⟨hC,hG,hM⟩:=bT.o;exact⟨ls,L,aC,HP,aE,rfl,hM,hG.two.cap.1,hG.two.sl (λb O hp=>⟨by have:=hp.1;omega,O⟩) (λb O hp=>⟨ad,O⟩),hC.wr H.1,hC.fr⟩
theorem wV(p:kj):∀L,HO p L:=λL=>by
 induction L using Nat.strongRecOn with
 | _ L ao=>exact uM p L ao
def jS(n:Nat):Code->Option Code
 | .seq a b=>match a with
  | .region k _ _=>if k=n then some (.seq a b) else jS n b
  | .seq x y=>match jS n (.seq x y) with
   | some c=>some c
   | none=>jS n b
  | _=>jS n b
 | _=>none
noncomputable def wi(n:Nat):Code:=match (Tryz.f21.body.bind (jS n)).getD .skip with
 | .seq a _=>a
 | c=>c
noncomputable def nv(n:Nat):Code:=match (Tryz.f21.body.bind (jS n)).getD .skip with
 | .seq _ b=>b
 | _=>.skip
noncomputable def GI(n:Nat):Code:=(Tryz.f21.body.bind (jS n)).getD .skip
def kb(w:World)(e:Ending)(ab:World):Prop:=∃(p:bK) (GA:Lp) (gn gc:Nat) (MA:Lp) (mn mc:Nat) (FA:Lp) (fn fc:Nat),e=.returned (.agg #[.slice GA gn gc,.slice MA mn mc,.slice FA fn fc])/\ot p/\gn<=gc/\mn<=mc/\fn<=fc/\
 Sl ab (fresh w ab) GA gn (p.globals.map iz)/\Sl ab (fresh w ab) MA mn (p.af.map ey)/\Sl ab (fresh w ab) FA fn (p.funcs.map dr)/\Ext w ab
def m2(M:List bG):Prop:=∀i m,M[i]?=some m->m.name=iE i/\0<=m.size/\m.size<=3/\(m.re=true->m.size=0)
structure ow(S w:World)(A:Lp)(n c:Nat)(l:List Int)(ar:Bool)(MA:Lp)(mn mc:Nat)(M:List bG):Prop where
 src:cm w (S.heap.size+1) A n c l
 blk:aq w (S.heap.size+1+1) 125 #[.pointer (some ⟨S.heap.size+1,0,none⟩),.slice none 0 0,.slice MA mn mc,.slice none 0 0,.int .i64 24,.bool ar]
 res:aq w S.heap.size 27 #[.slice none 0 0,.slice none 0 0,.slice none 0 0]
 ms:Gr (λ_=>False) (S.heap.size+1+1+1) 129 3 w MA mn mc (M.map ey)
 nm:mn<=4
 ok:m2 M
 ext:Ext S w
section
variable {S w ab:World} {A:Lp} {n c:Nat} {l:List Int} {ar:Bool} {MA:Lp} {mn mc:Nat} {M:List bG}
theorem ow.next(h:ow S w A n c l ar MA mn mc M)(hs:cm ab (S.heap.size+1) A n c l)(O:Fr (λb=>b=S.heap.size+1) w ab):ow S ab A n c l ar MA mn mc M:=
 ⟨hs,h.blk.on O ad,h.res.on O ad,h.ms.c8 O (λb O _=>⟨λh=>h,ad⟩),h.nm,h.ok,Fr.low (M:=λb=>b=S.heap.size+1) ((h.ext.mono λ_ h=>h.elim).trans O) λk ap=>ad⟩
theorem ow.ai(h:ow S w A n c l ar MA mn mc M)(O:Ext w ab):ow S ab A n c l ar MA mn mc M:=h.next (h.src.cO O λ_ _ h=>h) (O.mono λ_ h=>h.elim)
theorem ow.fresh(h:ow S w A n c l ar MA mn mc M){g:Nat}(a2:S.heap.size+1+1<g)(bn:(Value.slice MA mn mc).ownBlock≠some g)(O:Fr (λb=>b=g) w ab):ow S ab A n c l ar MA mn mc M:=
 ⟨h.src.cO O (λb O h=>ad),h.blk.on O ad,h.res.on O ad,h.ms.dj O.size (λb ak hp=>O.block b ak (hp.elim (λh=>h.elim) λhp j=>by subst j;exact bn hp)),h.nm,h.ok,Fr.low (M:=λb=>b=g) ((h.ext.mono λ_ h=>h.elim).trans O) λk ap=>ad⟩
theorem ow.add(h:ow S w A n c l ar MA mn mc M){ev:Lp}{eC:Nat}{m:bG}(a2:Gr (λ_=>False) (S.heap.size+1+1+1) 129 3 ab ev (mn+1) eC (M.map ey++[ey m]))(J:Fr (λb=>(Value.slice MA mn mc).ownBlock=some b) w ab)
  (hn:mn+1<=4) (bY:m2 (M++[m])):ow S (ab.setCell ⟨S.heap.size+1+1,2,none⟩ (.slice ev (mn+1) eC)) A n c l ar ev (mn+1) eC (M++[m]):=by
 have bn:∀b,(Value.slice MA mn mc).ownBlock=some b->S.heap.size+1+1+1<=b:=λb O=>(h.ms.lt O).1;have az:Fr (λb=>b=S.heap.size+1+1) ab (ab.setCell ⟨S.heap.size+1+1,2,none⟩ (.slice ev (mn+1) eC)):=(Fr.refl (λb=>b=S.heap.size+1+1) ab).setCell (.inl rfl) _;refine⟨(h.src.cO J λb O ag=>by have:=bn b ag;omega).cO az (λb O ag=>ad),(h.blk.on J λag=>by have:=bn _ ag;omega).aM 2 _,(h.res.on J λag=>by have:=bn _ ag;omega).on az ad,?_,hn,bY,
  Fr.low (M:=λb=>b=S.heap.size+1+1) ((Fr.low (M:=λb=>(Value.slice MA mn mc).ownBlock=some b) ((h.ext.mono λ_ h=>h.elim).trans J) λk ap=>by have:=bn k ap;omega).mono (λ_ h=>h.elim) |>.trans az) λk ap=>ad⟩
 rw[KK,KJ,Lb];exact a2.c8 az (λb O _=>⟨λh=>h,ad⟩)
end
theorem m2.snoc{M:List bG}(h:m2 M)(an:M.length=i){re:Bool}{sz:Int}(h0:0<=sz)(aU:sz<=3)(L:re=true->sz=0):m2 (M++[⟨iE i,re,sz⟩]):=by
 intro k m hm;by_cases ap:k<M.length
 .rw[List.getElem?_append_left ap] at hm;exact h k m hm
 .rw[List.getElem?_append_right ad] at hm;have cN:k - M.length=0:=by
   exact uY
  rw[cN] at hm;simp at hm;subst hm;have:k=i:=ad;subst this;exact⟨rfl,h0,aU,L⟩
def EH(S:World)(gO:Value)(Q:Exit->Act->World->Prop)(K:Act->World->Prop):Prop:=∀(A:Lp) (n c:Nat) (l:List Int) (ar:Bool) (MA:Lp) (mn mc:Nat) (M:List bG) {hr hs gJ gN z u8 gK eO go gp cc bQ a4 u16 bR cq eR eS eT eU eV eW eY eZ e3 e6 e7 e8 e9 u32 fa fb fd fe ff fh fi fk fl fm fo fp fq fr fs ft fv fw fx fy fz fA fB fC fD fE fF fG fH fI fJ u64 fK fL fM fN fO fP fQ fR fS fT fU fV fW fX fY fZ f3 f4 f5 f6 f7 f8 f9 ga gb gd ge gf gg gh gi gj gk gl gm H I am aF aL aM aN aX a1 a8 bb bd bm bp bt bz bA bD bJ bV bY b1 b5 b8 b9 cb ce ch cj cl co cp cx cy cz cA cB cD cE cG cH cM cN cO cP cR cS cT cU cV cW cX cY cZ c4 c5 c6 c7 c8 c9 da db dc dd de df dg dh di dj dk dl dm dn dp dr dt du dv dw dx dy dA dC dD dE dF dG dI dJ dK dM dQ dR dS dT dV dW dX dY dZ d0 d1 d2 d3 d4 d5 d6 d7 d8 d9 ea eb ec ed ee ef eg eh ei ej ek el em en eo ep eq er es et eu ev ew ex ey ez eA eB eC eD eE eF eG eH eI eJ eL eM gt gu gv gw gx gy gz gA gB gC gD gE gF gH gI:Value} (w:World),1<=mn->ow S w A n c l ar MA mn mc M->
 Code.wp prog (wi 13) (Exit.then K Q) ⟨#[gO,hr,.pointer (some ⟨S.heap.size,0,none⟩),.pointer (some ⟨S.heap.size+1+1,0,none⟩),hs,gJ,gN,z,u8,gK,eO,go,gp,cc,bQ,a4,u16,bR,cq,eR,eS,eT,eU,eV,eW,eY,eZ,e3,e6,e7,e8,e9,u32,fa,fb,fd,fe,ff,fh,fi,fk,fl,fm,fo,fp,fq,fr,fs,ft,fv,fw,fx,fy,fz,fA,fB,fC,fD,fE,fF,fG,fH,fI,fJ,u64,fK,fL,fM,fN,fO,fP,fQ,fR,fS,fT,fU,fV,fW,fX,fY,fZ,f3,f4,f5,f6,f7,f8,f9,ga,gb,gd,ge,gf,gg,gh,gi,gj,gk,gl,gm,H,I,am,aF,aL,aM,aN,aX,a1,a8,bb,bd,bm,bp,bt,bz,bA,bD,bJ,bV,bY,b1,b5,b8,b9,cb,ce,ch,cj,cl,co,cp,cx,cy,cz,cA,cB,cD,cE,cG,cH,cM,cN,cO,cP,cR,cS,cT,cU,cV,cW,cX,cY,cZ,c4,c5,c6,c7,c8,c9,da,db,dc,dd,de,df,dg,dh,di,dj,dk,dl,dm,dn,dp,dr,dt,du,dv,dw,dx,dy,dA,dC,dD,dE,dF,dG,dI,dJ,dK,dM,dQ,dR,dS,dT,dV,dW,dX,dY,dZ,d0,d1,d2,d3,d4,d5,d6,d7,d8,d9,ea,eb,ec,ed,ee,ef,eg,eh,ei,ej,ek,el,em,en,eo,ep,eq,er,es,et,eu,ev,ew,ex,ey,ez,eA,eB,eC,eD,eE,eF,eG,eH,eI,eJ,eL,eM,gt,gu,gv,gw,gx,gy,gz,gA,gB,gC,gD,gE,gF,gH,gI],[]⟩ w
theorem cx.II{α:Type}{f:α->List Value}{sz:Nat}{w:World}{B n m:Nat}{A:Lp}{l:List α}(h:cx (EF f) sz w B A n l)(hm:m<=n):cx (EF f) sz w B A m (l.take m):=by
 refine⟨by have:=h.1;simp;omega,λh0=>?_⟩;obtain⟨b,o,bw,O,hc⟩:=h.2 ad;exact⟨b,o,bw,O,λk x hx=>hc k x ((List.getElem?_take_of_lt (i:=k) (by have:=(List.getElem?_eq_some_iff.1 hx).1;simp at this;omega)).symm.trans hx)⟩
theorem Dg(m:Nat)(A:Lp)(n c:Nat)(l:List Int)(w:World)(hm:m<=1000)(h:cx (EF cT) 1 w w.heap.size A n l)(hc:n<=c) :
  Calls prog 64 #[.slice A n c,.int .i64 (m:Int)] w λe ab=>(∃I aP aJ,e=.returned (.slice I aP aJ)/\aP<=m/\∃aO,cx (EF cT) 1 w w.heap.size I aP aO)/\w=ab:=by
 have H:=ae h;by_cases hn:n<=m
 .have q:decide ((n:Int) > (m:Int))=false:=by simp;omega
  clear h;go_enter func64,ntmps64;go_wp2;go_ret;exact⟨⟨A,n,c,rfl,hn,l,H.o⟩,rfl⟩
 .obtain⟨b,o,rfl,O⟩:=h.some_ ad;have q:decide ((n:Int) > (m:Int))=true:=by simp;omega
  have bB:(0:Int)<=(m:Int):=ad;have dD:(m:Int)<=(c:Int):=ad;clear h;go_enter func64,ntmps64;go_wp2;go_ret;exact⟨⟨_,m,_,rfl,KD _,_,H.II ad⟩,rfl⟩
theorem DO(an:i<4):strOf [byteOf (97+(i:Int))]=iE i:=by
 have h:∀k:Fin 4,strOf [byteOf (97+((k.val:Nat):Int))]=iE k.val:=by decide
 exact h ⟨i,an⟩
namespace Cy
theorem dB{p:Prop}(h:p:=by
 generalize bq:World.setCell _ _ _=hf;have f:=bf.1.add a7.1 a7.2 ad (m2.snoc bf.1.ok aW (re:=true) (sz:=0) ad ad (by intro _;rfl));rw[bq] at f;have bN:=ae f;clear bq f a0 ai af;go_wp2_with(fail);go_roundw
 case rel=>exact⟨i+1,j,cw,M++[⟨iE i,true,0⟩],by go_num,ad,bN.o⟩
 case measure=>exact aG
 ):p:=h
end Cy
open Cy in
theorem J6(A:Lp)(n c:Nat)(l:List Int)(w:World)(h:cx (EF cT) 1 w w.heap.size A n l)(hc:n<=c)
  (s:∀K,(∀a ab,Code.wp prog (nv 13) (bodyPost prog Tryz.f21 (kb w)) a ab->K a ab)->EH w (.slice A n c) (bodyPost prog Tryz.f21 (kb w)) K) :
  Calls prog 21 #[.slice A n c] w (kb w):=by
 obtain⟨H,gX⟩:=aH h s;clear h s;go_enter func21,ntmps21;go_upto_region 1 with(fail);generalize ba:World.alloc _ _=W;have aw:=aX ba;have cA:=aK ba;have cZ:W.heap.size=w.heap.size+1:=by rw[<-ba];simp
 have y:=H.c8 (Fr.ext aw) aw.size;have ag:=aD aw cA y;clear ba aw cA y;go_wp2_with(fail);refine(Dg 400 A n c l W ad ag.2.2 hc).mono ?_;rintro e aS ⟨⟨I,aP,aJ,rfl,co,aO,aB⟩,rfl⟩;have b9:=ae aB;clear aB;go_upto_region 2 with(fail);generalize hX:World.alloc _ _=X;have bp:=iN hX;have q:aq X (w.heap.size+1) 123 #[.slice I aP aJ,.int .i64 0]:=hX▸(aq.gz _ _ _ cZ.symm).alloc _;have u:aq X (w.heap.size+1+1) 125 #[.pointer (some ⟨w.heap.size+1,0,none⟩),.slice none 0 0,.slice none 0 0,.slice none 0 0,.int .i64 24,.bool false]:=hX▸aq.gz _ _ _ (by simp[cZ]);have ay:cm X (w.heap.size+1) I aP aJ aO:=⟨q.lt,by rw[q.cell];rfl,⟨0,ad,by rw[q.cell];rfl⟩,q.frozen 1,(by have:=b9.o;rw[cZ] at this;exact this.ez (bp.below ad λ_ _ h=>h)),ad⟩
 have H1:=bL ay u (ag.2.1.ai bp) (ag.1.trans bp);clear hX bp q u ay ag b9;obtain⟨a0,ai,af⟩:=H1.2.1.two;go_wp2_with(fail);refine(a2 X (w.heap.size+1) I aP aJ aO 3 H1.1 ad ad).mono ?_;rintro e aT ⟨cv,rfl,a3,bS,h,he⟩;have bJ:=bL h (H1.2.1.on he.fr ad) (H1.2.2.1.on he.fr ad) (Fr.low (M:=λb=>b=w.heap.size+1) ((H1.2.2.2.mono λ_ h=>h.elim).trans he.fr) λk ap=>ad);clear h he a3 bS a0 ai af H1;obtain⟨a0,ai,af⟩:=bJ.2.1.two;go_upto_region 3 with(fail);generalize (cv == 1)=ar;generalize hX:World.setCell _ _ _=cK;have J:=cJ hX;have u:aq cK (w.heap.size+1+1) 125 #[.pointer (some ⟨w.heap.size+1,0,none⟩),.slice none 0 0,.slice none 0 0,.slice none 0 0,.int .i64 24,.bool ar]:=hX▸bJ.2.1.aM 5 _;have bW:=bL (bJ.1.cO J λb O h=>ad) u (bJ.2.2.1.on J ad) (Fr.low (M:=λb=>b=w.heap.size+1+1) ((bJ.2.2.2.mono λ_ h=>h.elim).trans J) λk ap=>ad);clear hX J u bJ a0 ai af;obtain⟨a0,ai,af⟩:=bW.2.1.two;go_wp2_with(fail);refine(a2 cK (w.heap.size+1) I aP aJ aO 4 bW.1 ad ad).mono ?_;rintro e cL ⟨bO,rfl,a3,bS,h,he⟩;obtain⟨F,rfl⟩:=KI a3;have E:F<4:=ad;have bY:=bL h (bW.2.1.on he.fr ad) (bW.2.2.1.on he.fr ad) (Fr.low (M:=λb=>b=w.heap.size+1) ((bW.2.2.2.mono λ_ h=>h.elim).trans he.fr) λk ap=>ad);clear h he a3 bS a0 ai af bW;go_wp2_with(fail);go_loopw [4] (λcu wr=>∃(i:Nat) (MA:Lp) (mc:Nat) (M:List bG),cu=.int .i64 i/\i<=1+F/\ow w wr I aP aJ aO ar MA i mc M) (λcu _=>1+F - (intOf cu).toNat)
 case atStart=>exact⟨0,none,0,[],rfl,ad,⟨bY.1,bY.2.1,bY.2.2.1,Gr.nil _ _ _ _ _,ad,(λi m h=>by cases h),bY.2.2.2⟩⟩
 case round=>
  obtain⟨i,MA,mc,M,rfl,an,aZ⟩:=hrel;clear bY;have cn:=ae aZ;obtain⟨a0,ai,af⟩:=aZ.blk.two;have aW:M.length=i:=by have:=aZ.ms.len;simpa using this
  have ck:=aZ.blk.lt;clear aZ;by_cases ak:i<1+F
  .have gM:(i:Int)<1+(F:Int):=ad;have e2:i<=3:=ad;have bX:=λ(W:World) (v:Int)=>kO W v;go_upto_region 7 with(fail);clear bX;generalize hX:World.alloc _ _=g8;have b0:=iN hX;have ha:aq g8 (wr.heap.size+1) 129 #[.string (iE i),.bool false,.int .i64 0]:=by
    rw[<-hX,<-DO (by omega:i<4)];exact aq.gz _ _ _ (by simp)
   have z:=ah (cn.ai b0) ha;have bQ:(Value.slice MA i mc).ownBlock≠some (wr.heap.size+1):=λO=>by have:=(cn.ms.lt O).2;omega
   have aA:=ae bQ;clear hX b0 ha a0 ai af bQ;obtain⟨a0,ai,af⟩:=z.1.blk.two;go_wp2_with(fail);refine(a2 g8 (w.heap.size+1) I aP aJ aO 5 z.1.src ad ad).mono ?_;rintro e Y ⟨b1,rfl,x,S,h,he⟩;have bB:=ah (z.1.next h he.fr) (z.2.on he.fr ad);have cE:wr.heap.size+1<Y.heap.size:=bB.2.lt;clear h he a0 ai af;by_cases ac:b1=1
   .have q1:(b1 == 1)=true:=by simpa using ac
    clear ac x S;obtain⟨d0,aL,aM⟩:=bB.2.two;go_upto_region 12 with(fail);generalize hX:World.setCell _ _ _=dm;have J:=cJ hX;have hM:aq dm (wr.heap.size+1) 129 #[.string (iE i),.bool true,.int .i64 0]:=hX▸bB.2.aM 1 _;have r:=ah (bB.1.fresh ad aA.o J) hM;clear hX J hM d0 aL aM bB;obtain⟨a0,ai,af⟩:=r.1.blk.two;obtain⟨d0,aL,aM⟩:=r.2.two;have G:=r.2.lt;refine eK (λ_=>False) [(0,3),(1,3),(2,3),(3,3),(4,3),(5,0),(6,0),(7,1),(8,2),(9,3),(10,3),(11,3),(12,2)] ?_
    iterate 5 refine pf ?_
    iterate 2 refine ph ?_
    refine qV ?_;generalize bI:World.drew (World.alloc _ _)=Z;have a9:=gG bI;have bh:=kp bI;have bl:=r.1.ai a9;have bf:=ah bl bh;have bm:=a9.size;clear bI a9 bh bl a0 ai af d0 aL aM;refine ax rfl (λK hK=>?_);rw[if_pos (by rfl)];refine e5 lM (.tmp 73) (.tmp 75) (by rfl) bf.1.ms bf.2 (fb.2 rfl:(ey ⟨iE i,true,0⟩).rep Z _ _) (by rfl) (by rfl) (by rfl) ad ad ad ?_;intro j cw gS br T cQ cF;have bn:∀b,(Value.slice MA i mc).ownBlock=some b->w.heap.size+1+1+1<=b:=λb O=>(bf.1.ms.lt O).1;have a5:=bf.1.blk.on T (λO=>by have:=bn _ O;omega);have a7:=ah br T;clear br T cQ cF bn;obtain⟨a0,ai,af⟩:=a5.two;clear a5;refine dO hK ?_;clear hK K
    iterate 3 refine pf ?_
    exact eP
   by_cases au:b1=2
   .have q1:(b1 == 1)=false:=by simpa using ac
    have cI:(b1 == 2)=true:=by simpa using au
    clear ac au x S;obtain⟨a0,ai,af⟩:=bB.1.blk.two;go_wp2_with(fail);refine(a2 Y (w.heap.size+1) I aP aJ aO 3 bB.1.src ad ad).mono ?_;rintro e hl ⟨cj,rfl,L,aa,h,he⟩;have ao:=ah (bB.1.next h he.fr) (bB.2.on he.fr ad);clear h he a0 ai af bB;obtain⟨d0,aL,aM⟩:=ao.2.two;go_upto_region 12 with(fail);generalize hX:World.setCell _ _ _=dm;have J:=cJ hX;have hM:aq dm (wr.heap.size+1) 129 #[.string (iE i),.bool false,.int .i64 (1+cj)]:=hX▸ao.2.aM 2 _;have r:=ah (ao.1.fresh ad aA.o J) hM;clear hX J hM d0 aL aM ao;obtain⟨a0,ai,af⟩:=r.1.blk.two;obtain⟨d0,aL,aM⟩:=r.2.two;have G:=r.2.lt;refine eK (λ_=>False) [(0,3),(1,3),(2,3),(3,3),(4,3),(5,0),(6,0),(7,1),(8,2),(9,3),(10,3),(11,3),(12,2)] ?_
    iterate 5 refine pf ?_
    iterate 2 refine ph ?_
    refine qV ?_;generalize bI:World.drew (World.alloc _ _)=Z;have a9:=gG bI;have bh:=kp bI;have bl:=r.1.ai a9;have bf:=ah bl bh;have bm:=a9.size;clear bI a9 bh bl a0 ai af d0 aL aM;refine ax rfl (λK hK=>?_);rw[if_pos (by rfl)];refine e5 lM (.tmp 73) (.tmp 75) (by rfl) bf.1.ms bf.2 (fb.2 rfl:(ey ⟨iE i,false,(1+cj)⟩).rep Z _ _) (by rfl) (by rfl) (by rfl) ad ad ad ?_;intro j cw gS br T cQ cF;have bn:∀b,(Value.slice MA i mc).ownBlock=some b->w.heap.size+1+1+1<=b:=λb O=>(bf.1.ms.lt O).1;have a5:=bf.1.blk.on T (λO=>by have:=bn _ O;omega);have a7:=ah br T;clear br T cQ cF bn;obtain⟨a0,ai,af⟩:=a5.two;clear a5;refine dO hK ?_;clear hK K
    iterate 3 refine pf ?_
    refine ax rfl (λK hK=>?_);go_simp;refine dO hK ?_;clear hK K;refine aE ?_;generalize bq:World.setCell _ _ _=hf;have f:=bf.1.add a7.1 a7.2 ad (m2.snoc bf.1.ok aW (re:=false) (sz:=(1+cj)) ad ad (by intro h;cases h));rw[bq] at f;have bN:=ae f;clear bq f a0 ai af;go_wp2_with(fail);go_roundw
    case rel=>exact⟨i+1,j,cw,M++[⟨iE i,false,(1+cj)⟩],by go_num,ad,bN.o⟩
    case measure=>exact aG
   .have q1:(b1 == 1)=false:=by simpa using ac
    have cI:(b1 == 2)=false:=by simpa using au
    clear ac au x S;go_upto_region 12 with(fail);obtain⟨a0,ai,af⟩:=bB.1.blk.two;obtain⟨d0,aL,aM⟩:=bB.2.two;refine eK (λ_=>False) [(0,3),(1,3),(2,3),(3,3),(4,3),(5,0),(6,0),(7,1),(8,2),(9,3),(10,3),(11,3),(12,2)] ?_
    iterate 5 refine pf ?_
    iterate 2 refine ph ?_
    refine qV ?_;generalize bI:World.drew (World.alloc _ _)=Z;have a9:=gG bI;have bh:=kp bI;have bl:=bB.1.ai a9;have bf:=ah bl bh;have bm:=a9.size;clear bI a9 bh bl a0 ai af d0 aL aM;refine ax rfl (λK hK=>?_);rw[if_pos (by rfl)];refine e5 lM (.tmp 73) (.tmp 75) (by rfl) bf.1.ms bf.2 (fb.2 rfl:(ey ⟨iE i,false,0⟩).rep Z _ _) (by rfl) (by rfl) (by rfl) ad ad ad ?_;intro j cw gS br T cQ cF;have bn:∀b,(Value.slice MA i mc).ownBlock=some b->w.heap.size+1+1+1<=b:=λb O=>(bf.1.ms.lt O).1;have a5:=bf.1.blk.on T (λO=>by have:=bn _ O;omega);have a7:=ah br T;clear br T cQ cF bn;obtain⟨a0,ai,af⟩:=a5.two;clear a5;refine dO hK ?_;clear hK K
    iterate 3 refine pf ?_
    refine ax rfl (λK hK=>?_);go_simp;refine dO hK ?_;clear hK K;refine aE ?_;generalize bq:World.setCell _ _ _=hf;have f:=bf.1.add a7.1 a7.2 ad (m2.snoc bf.1.ok aW (re:=false) (sz:=0) ad ad (by intro _;rfl));rw[bq] at f;have bN:=ae f;clear bq f a0 ai af;go_wp2_with(fail);go_roundw
    case rel=>exact⟨i+1,j,cw,M++[⟨iE i,false,0⟩],by go_num,ad,bN.o⟩
    case measure=>exact aG
  .have gM:¬(i:Int)<1+(F:Int):=ad;go_upto_region 13 with(fail);have ci:=gX.o _ (by assumption);unfold EH at ci;exact ci I aP aJ aO ar MA i mc M wr ad cn.o
theorem vr:ch prog 23 132 (.agg #[.string ⟨#[]⟩,.int .i64 0]) 2 24:=ch.mk' Tryz.underlying23 (by kernel_rfl) rfl ad
def rU(G:List (ByteArray×Int)):Prop:=∀i g,G[i]?=some g->g.1=dN i∧-2<=g.2/\g.2<=2
theorem rU.snoc{G:List (ByteArray×Int)}(h:rU G)(an:G.length=i){v:Int}(h0:-2<=v)(aU:v<=2):rU (G++[(dN i,v)]):=by
 intro k m hm;by_cases ap:k<G.length
 .rw[List.getElem?_append_left ap] at hm;exact h k m hm
 .rw[List.getElem?_append_right ad] at hm;have cN:k - G.length=0:=by
   exact uY
  rw[cN] at hm;simp at hm;subst hm;have:k=i:=ad;subst this;exact⟨rfl,h0,aU⟩
structure w2(S:World)(u:Nat)(w:World)(A:Lp)(n c:Nat)(l:List Int)(ar:Bool)(MA:Lp)(mn mc:Nat)(M:List bG)(GA:Lp)(gn gc:Nat)(G:List (ByteArray×Int))(av:Lp)(ba:Nat):Prop where
 src:cm w (S.heap.size+1) A n c l
 blk:aq w (S.heap.size+1+1) 125 #[.pointer (some ⟨S.heap.size+1,0,none⟩),.slice GA gn gc,.slice MA mn mc,.slice none 0 0,.int .i64 24,.bool ar]
 res:aq w S.heap.size 27 #[.slice none 0 0,.slice none 0 0,.slice none 0 0]
 ms:Sl w (λb=>S.heap.size+1+1+1<=b/\b<u) MA mn (M.map ey)
 mc:mn<=mc
 rows:la u 132 2 9 1 w GA gn gc (G.map iz) av gn ba ((G.map (·.1)).map D.s)
 nm:1<=mn/\mn<=4
 ok:m2 M
 ng:gn<=2
 yM:rU G
 ext:Ext S w
 hD:S.heap.size+1+1+1<=u/\u<=w.heap.size
section
variable {S w ab:World} {u:Nat} {A:Lp} {n c:Nat} {l:List Int} {ar:Bool} {MA:Lp} {mn mc:Nat} {M:List bG} {GA:Lp} {gn gc:Nat} {G:List (ByteArray×Int)} {av:Lp} {ba:Nat}
theorem ow.Jl(h:ow S w A n c l ar MA mn mc M)(ac:1<=mn):w2 S w.heap.size w A n c l ar MA mn mc M none 0 0 [] none 0:=
 ⟨h.src,h.blk,h.res,h.ms.sl (λ_ _ h=>h.elim) (λb O aR=>⟨aR,O⟩),h.ms.cap.1,la.nil _ _ _ _ _ _,⟨ac,h.nm⟩,h.ok,ad,(λi g h=>by cases h),h.ext,by have:=h.blk.lt;omega,KD _⟩
theorem w2.next(h:w2 S u w A n c l ar MA mn mc M GA gn gc G av ba)(hs:cm ab (S.heap.size+1) A n c l)(O:Fr (λb=>b=S.heap.size+1) w ab):w2 S u ab A n c l ar MA mn mc M GA gn gc G av ba:=by
 have hD:=h.hD;exact⟨hs,h.blk.on O ad,h.res.on O ad,h.ms.ak λb hp=>O.block b (aC hp.2) (aC hp.1),h.mc,h.rows.c8 O (λb O _=>ad),h.nm,h.ok,h.ng,h.yM,Fr.low (M:=λb=>b=S.heap.size+1) ((h.ext.mono λ_ h=>h.elim).trans O) λk ap=>ad,hD.1,by have:=O.size;omega⟩
theorem w2.ai(h:w2 S u w A n c l ar MA mn mc M GA gn gc G av ba)(O:Ext w ab):w2 S u ab A n c l ar MA mn mc M GA gn gc G av ba:=h.next (h.src.cO O λ_ _ h=>h) (O.mono λ_ h=>h.elim)
theorem w2.add(h:w2 S u w A n c l ar MA mn mc M GA gn gc G av ba){aZ z:Lp}{bc am:Nat}{g:ByteArray×Int}(a5:la u 132 2 9 1 ab aZ (gn+1) bc ((G++[g]).map iz) z (gn+1) am (((G++[g]).map (·.1)).map D.s))
  (J:Fr (λb=>(Value.slice GA gn gc).ownBlock=some b\/(Value.slice av gn ba).ownBlock=some b) w ab) (hn:gn+1<=2) (bY:rU (G++[g])) :
  w2 S u (ab.setCell ⟨S.heap.size+1+1,1,none⟩ (.slice aZ (gn+1) bc)) A n c l ar MA mn mc M aZ (gn+1) bc (G++[g]) z am:=by
 have hD:=h.hD;have bn:∀b,((Value.slice GA gn gc).ownBlock=some b\/(Value.slice av gn ba).ownBlock=some b)->u<=b:=λb O=>by
  rcases O with O|O
  .exact(h.rows.one.lt O).1
  .exact(h.rows.two.lt O).1
 have az:Fr (λb=>b=S.heap.size+1+1) ab (ab.setCell ⟨S.heap.size+1+1,1,none⟩ (.slice aZ (gn+1) bc)):=(Fr.refl (λb=>b=S.heap.size+1+1) ab).setCell (.inl rfl) _;have hs:=J.size;have bN:=az.size;refine⟨(h.src.cO J λb O ag=>by have:=bn b ag;omega).cO az (λb O ag=>ad),(h.blk.on J λag=>by have:=bn _ ag;omega).aM 1 _,(h.res.on J λag=>by have:=bn _ ag;omega).on az ad,
  h.ms.ak λb hp=>(az.block b (aC hp.2) (aC hp.1)).trans (J.block b (aC hp.2) λag=>by have:=bn b ag;have:=hp.2;omega),h.mc,a5.c8 az (λb O _=>ad),h.nm,h.ok,hn,bY,?_,hD.1,ad⟩
 have ac:Ext S ab:=Fr.low (M:=λb=>(Value.slice GA gn gc).ownBlock=some b\/(Value.slice av gn ba).ownBlock=some b) ((h.ext.mono λ_ h=>h.elim).trans J) λk ap=>by have:=bn k ap;omega
 exact zl
end
def EI(S:World)(gO:Value)(Q:Exit->Act->World->Prop)(K:Act->World->Prop):Prop:=∀(u:Nat) (A:Lp) (n c:Nat) (l:List Int) (ar:Bool) (MA:Lp) (mn mc:Nat) (M:List bG) (GA:Lp) (gn gc:Nat) (G:List (ByteArray×Int)) (av:Lp) (ba:Nat) {hr hs gJ gN u8 gK eO go gp cc bQ a4 u16 bR cq eR eS eT eU eV eW eY eZ e3 e6 e7 e8 e9 u32 fa fb fd fe ff fh fi fk fl fm fo fp fq fr fs ft fv fw fx fy fz fA fB fC fD fE fF fG fH fI fJ u64 fK fL fM fN fO fP fQ fR fS fT fU fV fW fX fY fZ f3 f4 f5 f6 f7 f8 f9 ga gb gd ge gf gg gh gi gj gk gl gm H I am aF aL aM aN aX a1 a8 bb bd bm bp bt bz bA bD bJ bV bY b1 b5 b8 b9 cb ce ch cj cl co cp cx cy cz cA cB cD cE cG cH cM cN cO cP cR cS cT cU cV cW cX cY cZ c4 c5 c6 c7 c8 c9 da db dc dd de df dg dh di dj dk dl dm dn dp dr dt du dv dw dx dy dA dC dD dE dF dG dI dJ dK dM dQ dR dS dT dV dW dX dY dZ d0 d1 d2 d3 d4 d5 d6 d7 d8 d9 ea eb ec ed ee ef eg eh ei ej ek el em en eo ep eq er es et eu ev ew ex ey ez eA eB eC eD eE eF eG eH eI eJ eL eM gt gu gv gw gx gy gz gA gB gC gD gE gF gH gI:Value} (w:World),w2 S u w A n c l ar MA mn mc M GA gn gc G av ba->
 Code.wp prog (wi 19) (Exit.then K Q) ⟨#[gO,hr,.pointer (some ⟨S.heap.size,0,none⟩),.pointer (some ⟨S.heap.size+1+1,0,none⟩),hs,gJ,gN,.slice av gn ba,u8,gK,eO,go,gp,cc,bQ,a4,u16,bR,cq,eR,eS,eT,eU,eV,eW,eY,eZ,e3,e6,e7,e8,e9,u32,fa,fb,fd,fe,ff,fh,fi,fk,fl,fm,fo,fp,fq,fr,fs,ft,fv,fw,fx,fy,fz,fA,fB,fC,fD,fE,fF,fG,fH,fI,fJ,u64,fK,fL,fM,fN,fO,fP,fQ,fR,fS,fT,fU,fV,fW,fX,fY,fZ,f3,f4,f5,f6,f7,f8,f9,ga,gb,gd,ge,gf,gg,gh,gi,gj,gk,gl,gm,H,I,am,aF,aL,aM,aN,aX,a1,a8,bb,bd,bm,bp,bt,bz,bA,bD,bJ,bV,bY,b1,b5,b8,b9,cb,ce,ch,cj,cl,co,cp,cx,cy,cz,cA,cB,cD,cE,cG,cH,cM,cN,cO,cP,cR,cS,cT,cU,cV,cW,cX,cY,cZ,c4,c5,c6,c7,c8,c9,da,db,dc,dd,de,df,dg,dh,di,dj,dk,dl,dm,dn,dp,dr,dt,du,dv,dw,dx,dy,dA,dC,dD,dE,dF,dG,dI,dJ,dK,dM,dQ,dR,dS,dT,dV,dW,dX,dY,dZ,d0,d1,d2,d3,d4,d5,d6,d7,d8,d9,ea,eb,ec,ed,ee,ef,eg,eh,ei,ej,ek,el,em,en,eo,ep,eq,er,es,et,eu,ev,ew,ex,ey,ez,eA,eB,eC,eD,eE,eF,eG,eH,eI,eJ,eL,eM,gt,gu,gv,gw,gx,gy,gz,gA,gB,gC,gD,gE,gF,gH,gI],[]⟩ w
theorem sV{w:World}{x:ByteArray×Int}{cs:List Value}:(iz x).rep w P cs↔cs=[.string x.1,.int .i64 x.2]:=by
 unfold iz;rw[bI,cp];exact CY
theorem qA{P:Program}{ops:Array Oper}{Q:Exit->Act->World->Prop}{R:World->World->Prop}{tails:List Nat}{j k:Nat}{f:Nat->PT}{a:Act}{w:World}(h:od P ops Q R tails i (f i) a w)(au:od P ops Q R tails j (f j) a w)(aU:od P ops Q R tails k (f k) a w):cN P ops Q R tails (.pick [i,j,k] f) a w:=λm hm=>by
 simp only[KT,List.not_mem_nil,or_false] at hm;rcases hm with rfl|rfl|rfl
 .exact h
 .exact au
 .exact aU
theorem DB(an:i<3){bv:Int}(O:IntKind.u8.wrap (IntKind.i64.wrap (48+(i:Int)))=bv):(⟨#[103]⟩++strOf [byteOf bv]:ByteArray)=dN i:=by
 subst O;have h:∀k:Fin 3,(⟨#[103]⟩++strOf [byteOf (IntKind.u8.wrap (IntKind.i64.wrap (48+((k.val:Nat):Int))))]:ByteArray)=dN k.val:=by decide
 exact h ⟨i,an⟩
theorem fu(V:World)(g:Nat)(v1:Int)(h0:V.cell? ⟨g,0,none⟩=some (.int .u8 v1)) :
  (convert 127 9 (.slice (some ⟨g,0,none⟩) 1 1)).run prog V=.ok (.string (strOf [byteOf v1])) V:=by
 have:=run_convert_bytes_arg (P:=prog) V 127 5 Tryz.underlying127 Tryz.underlying5 g 0 1 1 [v1] rfl (λi an=>by
  obtain rfl:i=0:=ad;exact h0) 9 Tryz.underlying9
 rw[this];rfl
end Go.Proofs.YtglbpimocmhojaaGreat

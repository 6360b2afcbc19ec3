/- Part 40 of the proof. No condition of its own. -/
import Derived.Test.YtflecliffjbleaaGreatS39
namespace Go.Proofs.YtflecliffjbleaaGreat
open Go.RowKit Go.Proofs.Tryz
set_option maxRecDepth 1000000
set_option maxHeartbeats 25600000
set_option linter.unusedVariables false
variable{bv:Int}{ps:List (ByteArray×Bool)}{i:Nat}{P:Nat->Prop}
def JR(p:kz)(bj B:Nat)(bQ bT:Value)(d:Nat)(ps:List (ByteArray×Bool))(V T:Ml)(aE:World)(aH:Nat)(bc:ByteArray)(QA:Mk)(b8 qc:Nat)(br:Value)(av:Mk)(bi a7:Nat)(bH:Mk)(on bB:Nat)(N:Int)(w:World):Prop:=∃(aV:Ml) (ls:List az) (L:Nat),
 N<=7/\oX p aE w L/\ao w bj 137 #[.string bc,.slice QA b8 qc,br]/\lL B 9 1 188 11 w av bi a7 (aV.map D.s) bH on bB (ls.map bg)/\Made (p.env ps) d V T aH L ls/\aV ⊆ V++decls ls/\aV.length+L<=60
def rl(p:kz)(bj B:Nat)(bQ bT:Value)(d:Nat)(ps:List (ByteArray×Bool))(V T:Ml)(aE:World)(aH:Nat)(bc:ByteArray)(QA:Mk)(b8 qc:Nat)(br:Value)(a:Act)(w:World):Prop:=∃(av:Mk) (bi a7:Nat) (bH:Mk) (on bB:Nat) (N:Int) (gO o u8 gQ eX bw u16 cM gz eY eZ e3 e4 e5 e6 e7 e8 e9 fa fb fd fe u32 ff fi fj fl fo fp fq fr fs ft fu fv fw fx fy fz fA fB fC fE fF fG fH fI fJ fK fL fM fN fP fQ u64 fR fS fT fU fV fW fX fY fZ f3 f4 f5 f6 f7 f8 f9 ga gb gd ge gf gg gh gi gj gk gl gm go gp gq gs gt gu gv H I am aJ aK aL aO aZ a8 bb bd bf bo bs bz bC bK bZ b2 b6 b9 cd cg ch cl cm cn co cA cB cE cF cG cH cK cL cP cQ cR cS cT cU cV cW cY cZ c4 c5 c6 c7 c8 c9 da db dc de df dg dh di dj dk dl dm dn dp dq dr ds dt du dv dw dy dz dA dB dC dD dE dF dG dH dI dJ dK dM dN dO dR dS dV dW dX dY dZ d0 d1 d2 d3 d4 d5 d6 d7 d8 d9 ea eb ec ed ee eg eh ei ej ek el em en eo ep eq er es et ev ew ex ey ez eA eB eC eD eE eF eG eH eI eJ eL eN eO eP eQ eR eS eT eU cc bW:Value),JR p bj B bQ bT d ps V T aE aH bc QA b8 qc br av bi a7 bH on bB N w/\a=⟨#[.pointer (some ⟨p.wb,0,none⟩),bQ,.slice av bi a7,.int .i64 (d:Int),bT,gO,.pointer (some ⟨bj,0,none⟩),o,u8,gQ,eX,.slice bH on bB,.int .i64 N,cc,bW,bw,u16,cM,gz,eY,eZ,e3,e4,e5,e6,e7,e8,e9,fa,fb,fd,fe,u32,ff,fi,fj,fl,fo,fp,fq,fr,fs,ft,fu,fv,fw,fx,fy,fz,fA,fB,fC,fE,fF,fG,fH,fI,fJ,fK,fL,fM,fN,fP,fQ,u64,fR,fS,fT,fU,fV,fW,fX,fY,fZ,f3,f4,f5,f6,f7,f8,f9,ga,gb,gd,ge,gf,gg,gh,gi,gj,gk,gl,gm,go,gp,gq,gs,gt,gu,gv,H,I,am,aJ,aK,aL,aO,aZ,a8,bb,bd,bf,bo,bs,bz,bC,bK,bZ,b2,b6,b9,cd,cg,ch,cl,cm,cn,co,cA,cB,cE,cF,cG,cH,cK,cL,cP,cQ,cR,cS,cT,cU,cV,cW,cY,cZ,c4,c5,c6,c7,c8,c9,da,db,dc,de,df,dg,dh,di,dj,dk,dl,dm,dn,dp,dq,dr,ds,dt,du,dv,dw,dy,dz,dA,dB,dC,dD,dE,dF,dG,dH,dI,dJ,dK,dM,dN,dO,dR,dS,dV,dW,dX,dY,dZ,d0,d1,d2,d3,d4,d5,d6,d7,d8,d9,ea,eb,ec,ed,ee,eg,eh,ei,ej,ek,el,em,en,eo,ep,eq,er,es,et,ev,ew,ex,ey,ez,eA,eB,eC,eD,eE,eF,eG,eH,eI,eJ,eL,eN,eO,eP,eQ,eR,eS,eT,eU],[]⟩
def FC(a:Act)(_:World):Nat:=(intOf (a.tmps.getD 12 undef)).toNat
theorem GI(p:kz)(bj B:Nat)(bQ bT:Value)(d:Nat)(ps:List (ByteArray×Bool))(V T:Ml)(aE:World)(aH:Nat)(bc:ByteArray)(QA:Mk)(b8 qc:Nat)(br:Value)(i:gH aE p aH)(k:Sl aE (off p.MW aE) QA b8 (ps.map cz))(b3:aE.heap.size<=bj)(bO:bj<B)(bV:B<=bj+1)(bv:b8<=2)(be:d<=2)(Z:mG T aH)(ap:∀R,R<aH->IK p R)(dx:Exit->Act->World->Prop)(hQ0:∀c a d v w,dx (.panic c) (a.put d v) w->dx (.panic c) a w)(x:∀r j,rl p bj B bQ bT d ps V T aE aH bc QA b8 qc br r j->dx (.exit 0) r j)
  (a:Act) (wr:World) (hI:rl p bj B bQ bT d ps V T aE aH bc QA b8 qc br a wr):Code.wp prog xv (Exit.then (λr j=>rl p bj B bQ bT d ps V T aE aH bc QA b8 qc br r j/\FC r j<FC a wr) dx) a wr:=by
 obtain⟨s,wb,sA,bK,bw,sl,GA,gn,gc,MA,mn,mc,FA,fn,fc,M,F,ar⟩:=p;unfold rl at hI;obtain⟨av,bi,a7,bH,on,bB,N,hI⟩:=hI
 iterate 241 obtain⟨_,hI⟩:=hI
 obtain⟨hI,rfl⟩:=hI;have a3:=ae hI;obtain⟨aV,ls,L,a8,hC,am,hG,hM,hV,cb⟩:=hI;have bl:=i.ne;have cj:=i.src.lt;have ca:=i.blk.lt;simp only at bl cj ca;obtain⟨a0,ak,af⟩:=hC.blk.two;have b5:aV.length=bi:=by have:=hG.one.len;simpa using this
 have U:ls.length=on:=by have:=hG.two.len;simpa using this
 have aQ:=hC.le;have aI:=hM.le;have aM:=i.kR;have aT:on<=48:=by
  have ac:=hM.num;have ax:=uC ls;have a1:=i.kR;omega
 have ag:=cX hC am hG hM hV;have aF:=bA i k Z ap;clear hC am hG hM hV i k Z ap;by_cases hO:0<N
 case neg=>
  have q:decide (N > 0)=false:=by simp;omega
  exact zZ
 by_cases a5:0<L
 case neg=>
  have q:decide (N > 0)=true:=by simpa using hO
  obtain rfl:L=0:=ad;exact zZ
 obtain⟨R,rfl⟩:∃R,L=R+1:=⟨L - 1,ad⟩
 have dp:(0:Int)<((R+1:Nat):Int):=ad;clear a3;conv=>arg 2;whnf
 go_upto_region 7 with(fail);generalize hX:World.setCell _ _ _=S;have bN:=cJ hX;have bS:ao S wb 169 #[.pointer (some ⟨s,0,none⟩),.slice GA gn gc,.slice MA mn mc,.slice FA fn fc,.int .i64 R,.bool ar]:=hX▸ag.1.blk.aJ 4 _;have n:oX ⟨s,wb,sA,bK,bw,sl,GA,gn,gc,MA,mn,mc,FA,fn,fc,M,F,ar⟩ aE S R:=⟨ag.1.src.cT bN (λb O h=>by simp only at O;omega),bS,ag.1.fr.trans (bN.mono λ_ h=>.inr h),ad⟩
 have Q:=ag.2.1.on bN ad;have bk:=ag.2.2.1.cS bN (λb O _=>ad);have bh:=aA n Q bk;have cu:bj<S.heap.size:=Q.lt;clear hX bN bS n Q bk a0 ak af;obtain⟨a0,ak,af⟩:=bh.1.blk.two;go_upto_region 8 with(fail);generalize aG:World.alloc _ _=aP;have aL:=aZ aG;have aR:=aN aG;have u:oX ⟨s,wb,sA,bK,bw,sl,GA,gn,gc,MA,mn,mc,FA,fn,fc,M,F,ar⟩ S aP R:=⟨bh.1.src.cT aL (λ_ _ h=>h),bh.1.blk.aj aL,aL.mono λ_ h=>h.elim,bh.1.le⟩
 have H1:=ah u aR;clear aG aL aR u a0 ak af;obtain⟨a0,ak,af⟩:=H1.1.blk.two;go_wp2_with(fail);refine(aY aP s sA bK bw sl 14 H1.1.src ad ad).mono ?_;rintro e aW ⟨cv,rfl,bm,aq,h,he⟩;have al:=H1.1.next bl h he.fr;have cM:=H1.2.on he.fr ad;have bZ:=ah al cM;clear h he al cM a0 ak af H1;go_upto_region 14 with(fail);have h0:=bh.1.wr aF.1;have aa:∀b,(⟨s,wb,sA,bK,bw,sl,GA,gn,gc,MA,mn,mc,FA,fn,fc,M,F,ar⟩:kz).MW b->b<B:=λb O=>by rcases O with O|O<;>(simp only at O;omega)
 refine JH cv bm aq d bi ⟨s,wb,sA,bK,bw,sl,GA,gn,gc,MA,mn,mc,FA,fn,fc,M,F,ar⟩ bj B bQ bT ps V T ls N S R aE bc QA b8 qc br aV av a7 bH on bB R (by simp only;omega) ad ad bv aW h0.ne h0.src.lt h0.blk.lt (by have:=bh.2.2.one.len;simpa using this) bZ.1.fr.size (ae ⟨h0,bh.2.1,Sl.cS aF.2.1 bh.1.fr,bh.2.2,bh.2.2.names aa,aa⟩) (ae ⟨bZ.1,bh.2.1.on bZ.1.fr (λh=>by rcases h with h|h<;>(simp only at h;omega)),bZ.2⟩) ad ad be (ae ⟨ag.2.2.2.2,ag.2.2.2.1.free ad aF.2.2.1,λa4 bf=>aF.2.2.2 a4 ad⟩) aH (ae ⟨aF.1,aF.2.1,bh.1.fr⟩) b3 _ ?hQ ?hN _ (by assumption)
 case hQ=>exact λc a d v w h=>hQ0 _ _ _ _ _ h
 case hN=>
  intro r ab hp;unfold l1 at hp;obtain⟨P,aJ,Y,au,IN,az,hp⟩:=hp
  iterate 240 obtain⟨_,hp⟩:=hp
  obtain⟨hF,rfl⟩:=hp;obtain⟨aD,m,st,a6,cs,ai,l,z,J,I,aU,y,K,hle,aj,aC,aX⟩:=hF;obtain⟨eo,en,es,EA,em,ec,rs,cc,cU,rc,cp,n1,c1,A2,n2,c2,cD,n3,c3,rfl,_⟩:=lI I;obtain⟨d0,aK,aO⟩:=J.two;have a2:=rE ai l z I aU y K aj;have aS:bj<ab.heap.size:=l.lt;have ci:B<=ab.heap.size:=ad;clear ai l z J I aU y K aj;clear bZ
  try dsimp only[Exit.inBlock,Exit.then]
  go_wp2_with(at_builtin;refine bI o2 rfl (.tmp 244) (.tmp 246) rfl a2.2.2.1.two a2.2.2.2.1 rfl rfl rfl ad ad ci ?_;intro cr bM cA an ay b1 cf;have ds:=aA an ay b1;clear an ay b1 cf);refine⟨?_,by simp[FC,intOf];omega⟩;obtain⟨ai,l,z,I,aU,y,K,aj⟩:=a2.o;obtain⟨bt,bo,bE⟩:=ds.o;have aB:∀b,(Value.slice au IN az).ownBlock=some b->B<=b:=λb O=>(z.two.lt O).1;unfold rl;refine⟨P,aJ,Y,cr,IN+1,bM,N - 1,?_⟩
  iterate 241 apply Exists.intro
  refine⟨?_,rfl⟩;refine⟨aD,ls++(m++[st]),a6,ad,ai.fresh aF.1 bo (λb O=>by have:=aB b O;omega),l.on bo (λO=>by have:=aB _ O;omega),?_,ag.2.2.2.1.snoc aU y K ad,aj,aC⟩;have aw:(ls++(m++[st])).map bg=(ls++m).map bg++[bg st]:=by simp
  rw[aw];exact(z.swap.grow bt bo bE).swap
theorem IE(p:kz)(bj B:Nat)(bQ bT:Value)(d:Nat)(ps:List (ByteArray×Bool))(V T:Ml)(aE:World)(aH:Nat)(bc:ByteArray)(QA:Mk)(b8 qc:Nat)(br:Value)(i:gH aE p aH)(k:Sl aE (off p.MW aE) QA b8 (ps.map cz))(b3:aE.heap.size<=bj)(bO:bj<B)(bV:B<=bj+1)(bv:b8<=2)(be:d<=2)(Z:mG T aH)(ap:∀R,R<aH->IK p R)(dx:Exit->Act->World->Prop)(hQ0:∀c a d v w,dx (.panic c) (a.put d v) w->dx (.panic c) a w)(x:∀r j,rl p bj B bQ bT d ps V T aE aH bc QA b8 qc br r j->dx (.exit 0) r j)
  (av:Mk) (bi a7:Nat) (bH:Mk) (on bB:Nat) (N:Int) {gO o u8 gQ eX bw u16 cM gz eY eZ e3 e4 e5 e6 e7 e8 e9 fa fb fd fe u32 ff fi fj fl fo fp fq fr fs ft fu fv fw fx fy fz fA fB fC fE fF fG fH fI fJ fK fL fM fN fP fQ u64 fR fS fT fU fV fW fX fY fZ f3 f4 f5 f6 f7 f8 f9 ga gb gd ge gf gg gh gi gj gk gl gm go gp gq gs gt gu gv H I am aJ aK aL aO aZ a8 bb bd bf bo bs bz bC bK bZ b2 b6 b9 cd cg ch cl cm cn co cA cB cE cF cG cH cK cL cP cQ cR cS cT cU cV cW cY cZ c4 c5 c6 c7 c8 c9 da db dc de df dg dh di dj dk dl dm dn dp dq dr ds dt du dv dw dy dz dA dB dC dD dE dF dG dH dI dJ dK dM dN dO dR dS dV dW dX dY dZ d0 d1 d2 d3 d4 d5 d6 d7 d8 d9 ea eb ec ed ee eg eh ei ej ek el em en eo ep eq er es et ev ew ex ey ez eA eB eC eD eE eF eG eH eI eJ eL eN eO eP eQ eR eS eT eU cc bW:Value} (wr:World) (hI:JR p bj B bQ bT d ps V T aE aH bc QA b8 qc br av bi a7 bH on bB N wr):Code.wp prog (Code.loop xv) dx ⟨#[.pointer (some ⟨p.wb,0,none⟩),bQ,.slice av bi a7,.int .i64 (d:Int),bT,gO,.pointer (some ⟨bj,0,none⟩),o,u8,gQ,eX,.slice bH on bB,.int .i64 N,cc,bW,bw,u16,cM,gz,eY,eZ,e3,e4,e5,e6,e7,e8,e9,fa,fb,fd,fe,u32,ff,fi,fj,fl,fo,fp,fq,fr,fs,ft,fu,fv,fw,fx,fy,fz,fA,fB,fC,fE,fF,fG,fH,fI,fJ,fK,fL,fM,fN,fP,fQ,u64,fR,fS,fT,fU,fV,fW,fX,fY,fZ,f3,f4,f5,f6,f7,f8,f9,ga,gb,gd,ge,gf,gg,gh,gi,gj,gk,gl,gm,go,gp,gq,gs,gt,gu,gv,H,I,am,aJ,aK,aL,aO,aZ,a8,bb,bd,bf,bo,bs,bz,bC,bK,bZ,b2,b6,b9,cd,cg,ch,cl,cm,cn,co,cA,cB,cE,cF,cG,cH,cK,cL,cP,cQ,cR,cS,cT,cU,cV,cW,cY,cZ,c4,c5,c6,c7,c8,c9,da,db,dc,de,df,dg,dh,di,dj,dk,dl,dm,dn,dp,dq,dr,ds,dt,du,dv,dw,dy,dz,dA,dB,dC,dD,dE,dF,dG,dH,dI,dJ,dK,dM,dN,dO,dR,dS,dV,dW,dX,dY,dZ,d0,d1,d2,d3,d4,d5,d6,d7,d8,d9,ea,eb,ec,ed,ee,eg,eh,ei,ej,ek,el,em,en,eo,ep,eq,er,es,et,ev,ew,ex,ey,ez,eA,eB,eC,eD,eE,eF,eG,eH,eI,eJ,eL,eN,eO,eP,eQ,eR,eS,eT,eU],[]⟩ wr:=by
 refine wp_loop (rl p bj B bQ bT d ps V T aE aH bc QA b8 qc br) FC ?_ (λa j hI=>GI p bj B bQ bT d ps V T aE aH bc QA b8 qc br i k b3 bO bV bv be Z ap dx hQ0 x a j hI);unfold rl
 iterate 248 apply Exists.intro
 exact⟨hI,rfl⟩
theorem n8{w:World}{P:Nat->Prop}:∀l:List ByteArray,D.aO w P (l.map D.s) (l.map Value.string)
 | []=>by simp only[L4,D.aO]
 | x::l=>by simp only[LI];exact ct.2 ⟨_,rfl,n8 l⟩
theorem yw{w:World}{P:Nat->Prop}:∀(l:Ml) (xs:List Value),D.aO w P (l.map D.s) xs->xs=l.map Value.string
 | [],xs,h=>by simpa only[L4,D.aO] using h
 | x::l,xs,h=>by
  simp only[LI] at h;obtain⟨y,rfl,ax⟩:=ct.1 h;rw[LI,yw l y ax]
theorem vl{w:World}{A:Mk}{n:Nat}{l:Ml}(h:Sl w P A n (l.map D.s)):Src w 1 A n (l.map Value.string):=by
 obtain⟨xs,a9,hs⟩:=h.src (z:=1) (λd hd=>by obtain⟨x,_,rfl⟩:=L5.1 hd;rfl)
 rwa [yw l xs a9] at hs
theorem vu(p:kz)(aH:Nat)(ap:∀R,R<aH->IK p R):IK p aH:=by
 intro d f V T N bn aq bc ps QA b8 qc br w hd o hw hN cb Z cl bv;obtain⟨s,wb,sA,bK,bw,sl,GA,gn,gc,MA,mn,mc,FA,fn,fc,M,F,ar⟩:=p;have bl:=hw.ne;have cj:=hw.src.lt;have ca:=hw.blk.lt;have b5:V.length=bn:=by have:=hN.1;simpa using this
 simp only at bl cj ca;have H:=cX hw hN cl Z ap;clear hw hN cl Z ap;go_enter func96,ntmps96;go_upto_region 2 with(fail);generalize bd:World.alloc _ _=W;have aF:=aZ bd;have bV:=aN bd;have cS:W.heap.size=w.heap.size+1:=by rw[<-bd];simp
 have bk:Gr (λ_=>False) (w.heap.size+1) 9 1 (W.alloc (.cells #[] 9)) (some ⟨W.heap.size,0,none⟩) 0 0 []:=(Gr.lit (w:=W) (n:=0) (l:=[]) rfl (by rfl) ad (by simp only[D.aO])).base ad;rw[cS] at bk;have aw:Src (W.alloc (.cells #[] 9)) 1 N bn (V.map Value.string):=vl (Sl.cS H.2.1 ((aF.mono λ_ h=>h.elim).alloc _));have g:N=none->bn=0:=λh=>by subst h;exact Sl.none_ H.2.1
 have ci:w.heap.size+1<=(W.alloc (.cells #[] 9)).heap.size:=by simp;omega
 have ag:=ah aF bV;clear bd aF bV;go_upto_region 3 with(at_builtin;refine q6 kE rfl (.tmp 17) (.tmp 18) rfl bk (n8 V) (by simpa using b5) aw g rfl rfl ad ad ci ?_;intro cD c3 b4 fh aP bu aX;have aD:=ah fh aP;clear fh aP bu aX);have a3:Ext W b4:=(Mg.alloc _:Ext W (W.alloc (.cells #[] 9))).eU (aD.2.below (by simp) λk aj h=>by
  simp[Value.ownBlock] at h;omega)
 have dB:=H.1.aj (ag.1.trans a3);obtain⟨a0,ak,af⟩:=dB.blk.two;have bY:=aA dB a3 aD.1;clear dB a3 aD bk aw g;go_wp2_with(fail);refine(aY b4 s sA bK bw sl ((f:Int)+1) bY.1.src ad ad).mono ?_;rintro e cI ⟨cv,rfl,bm,b7,h,he⟩;have ai:Fr (λb=>b=s) w cI:=((ag.1.trans bY.2.1).mono λ_ h=>h.elim).trans he.fr;have j:=bY.1.next h he.fr;have z:=bY.2.2.cS he.fr λb O _=>⟨λh=>h,ad⟩
 simp only[LW,L8] at z;have i:=(ag.2.aj bY.2.1).on he.fr ad;have aQ:aH<=24:=H.1.kR;have cM:=ae (show JR ⟨s,wb,sA,bK,bw,sl,GA,gn,gc,MA,mn,mc,FA,fn,fc,M,F,ar⟩ w.heap.size (w.heap.size+1) (.agg #[.string bc,.slice QA b8 qc,br]) (.int .i64 (f:Int)) d ps V T w aH bc QA b8 qc br cD bn c3 none 0 0 cv cI from
  ⟨V,[],aH,ad,⟨j.src,j.blk,ai.mono λ_ h=>.inl h,aQ⟩,i,⟨Gr.strs z,Gr.nil _ _ _ _ _,λb _ h=>by cases h⟩,Made.nil _ _ _ _ _,λx hx=>LL.2 (.inl hx),cb⟩)
 clear h he ai j z i a0 ak af bY;skip
 go_wp2_with(fail);refine IE ⟨s,wb,sA,bK,bw,sl,GA,gn,gc,MA,mn,mc,FA,fn,fc,M,F,ar⟩ w.heap.size (w.heap.size+1) (.agg #[.string bc,.slice QA b8 qc,br]) (.int .i64 (f:Int)) d ps V T w aH bc QA b8 qc br H.1 H.2.2.1 (Lz _) ad (Lz _) bv hd H.2.2.2.1 H.2.2.2.2 _ ?hQ ?hX cD bn c3 none 0 0 cv cI cM.o
 case hQ=>exact λ_ _ d _ _ h=>by cases d<;>exact h
 case hX=>
  intro r wf hI;unfold rl at hI;obtain⟨P,aJ,Y,au,IN,az,hI⟩:=hI
  iterate 242 obtain⟨_,hI⟩:=hI
  obtain⟨⟨aV,ls,L,_,hC,am,hG,hM,hV,m⟩,rfl⟩:=hI;have bT:=aA hC hG hM;clear hC am hG hM hV m cM;go_wp2;go_ret;obtain⟨hC,hG,hM⟩:=bT.o;exact⟨ls,L,au,IN,az,rfl,hM,hG.two.cap.1,hG.two.sl (λb O hp=>⟨by have:=hp.1;omega,O⟩) (λb O hp=>⟨ad,O⟩),hC.wr H.1,hC.fr⟩
theorem xw(p:kz):∀L,IK p L:=λL=>by
 induction L using Nat.strongRecOn with
 | _ L aq=>exact vu p L aq
def j3(n:Nat):Code->Option Code
 | .seq a b=>match a with
  | .region k _ _=>if k=n then some (.seq a b) else j3 n b
  | .seq x y=>match j3 n (.seq x y) with
   | some c=>some c
   | none=>j3 n b
  | _=>j3 n b
 | _=>none
noncomputable def wV(n:Nat):Code:=match (Tryz.f56.body.bind (j3 n)).getD .skip with
 | .seq a _=>a
 | c=>c
noncomputable def nU(n:Nat):Code:=match (Tryz.f56.body.bind (j3 n)).getD .skip with
 | .seq _ b=>b
 | _=>.skip
noncomputable def HB(n:Nat):Code:=(Tryz.f56.body.bind (j3 n)).getD .skip
def kq(w:World)(e:Ending)(ab:World):Prop:=∃(p:bM) (GA:Mk) (gn gc:Nat) (MA:Mk) (mn mc:Nat) (FA:Mk) (fn fc:Nat),e=.returned (.agg #[.slice GA gn gc,.slice MA mn mc,.slice FA fn fc])/\pB p/\gn<=gc/\mn<=mc/\fn<=fc/\
 Sl ab (fresh w ab) GA gn (p.globals.map iI)/\Sl ab (fresh w ab) MA mn (p.af.map eC)/\Sl ab (fresh w ab) FA fn (p.funcs.map dy)/\Ext w ab
def nt(M:List bL):Prop:=∀i m,M[i]?=some m->m.name=iM i/\0<=m.size/\m.size<=3/\(m.re=true->m.size=0)
structure pI(S w:World)(A:Mk)(n c:Nat)(l:List Int)(ar:Bool)(MA:Mk)(mn mc:Nat)(M:List bL):Prop where
 src:cp w (S.heap.size+1) A n c l
 blk:ao w (S.heap.size+1+1) 169 #[.pointer (some ⟨S.heap.size+1,0,none⟩),.slice none 0 0,.slice MA mn mc,.slice none 0 0,.int .i64 24,.bool ar]
 res:ao w S.heap.size 70 #[.slice none 0 0,.slice none 0 0,.slice none 0 0]
 ms:Gr (λ_=>False) (S.heap.size+1+1+1) 131 3 w MA mn mc (M.map eC)
 nm:mn<=4
 ok:nt M
 ext:Ext S w
section
variable {S w ab:World} {A:Mk} {n c:Nat} {l:List Int} {ar:Bool} {MA:Mk} {mn mc:Nat} {M:List bL}
theorem pI.next(h:pI S w A n c l ar MA mn mc M)(hs:cp ab (S.heap.size+1) A n c l)(O:Fr (λb=>b=S.heap.size+1) w ab):pI S ab A n c l ar MA mn mc M:=
 ⟨hs,h.blk.on O ad,h.res.on O ad,h.ms.cS O (λb O _=>⟨λh=>h,ad⟩),h.nm,h.ok,Fr.low (M:=λb=>b=S.heap.size+1) ((h.ext.mono λ_ h=>h.elim).trans O) λk aj=>ad⟩
theorem pI.aj(h:pI S w A n c l ar MA mn mc M)(O:Ext w ab):pI S ab A n c l ar MA mn mc M:=h.next (h.src.cT O λ_ _ h=>h) (O.mono λ_ h=>h.elim)
theorem pI.fresh(h:pI S w A n c l ar MA mn mc M){g:Nat}(aY:S.heap.size+1+1<g)(bn:(Value.slice MA mn mc).ownBlock≠some g)(O:Fr (λb=>b=g) w ab):pI S ab A n c l ar MA mn mc M:=
 ⟨h.src.cT O (λb O h=>ad),h.blk.on O ad,h.res.on O ad,h.ms.dh O.size (λb ap hp=>O.block b ap (hp.elim (λh=>h.elim) λhp j=>by subst j;exact bn hp)),h.nm,h.ok,Fr.low (M:=λb=>b=g) ((h.ext.mono λ_ h=>h.elim).trans O) λk aj=>ad⟩
theorem pI.add(h:pI S w A n c l ar MA mn mc M){eq:Mk}{ez:Nat}{m:bL}(aY:Gr (λ_=>False) (S.heap.size+1+1+1) 131 3 ab eq (mn+1) ez (M.map eC++[eC m]))(J:Fr (λb=>(Value.slice MA mn mc).ownBlock=some b) w ab)
  (hn:mn+1<=4) (b8:nt (M++[m])):pI S (ab.setCell ⟨S.heap.size+1+1,2,none⟩ (.slice eq (mn+1) ez)) A n c l ar eq (mn+1) ez (M++[m]):=by
 have bn:∀b,(Value.slice MA mn mc).ownBlock=some b->S.heap.size+1+1+1<=b:=λb O=>(h.ms.lt O).1;have ay:Fr (λb=>b=S.heap.size+1+1) ab (ab.setCell ⟨S.heap.size+1+1,2,none⟩ (.slice eq (mn+1) ez)):=(Fr.refl (λb=>b=S.heap.size+1+1) ab).setCell (.inl rfl) _;refine⟨(h.src.cT J λb O ag=>by have:=bn b ag;omega).cT ay (λb O ag=>ad),(h.blk.on J λag=>by have:=bn _ ag;omega).aJ 2 _,(h.res.on J λag=>by have:=bn _ ag;omega).on ay ad,?_,hn,b8,
  Fr.low (M:=λb=>b=S.heap.size+1+1) ((Fr.low (M:=λb=>(Value.slice MA mn mc).ownBlock=some b) ((h.ext.mono λ_ h=>h.elim).trans J) λk aj=>by have:=bn k aj;omega).mono (λ_ h=>h.elim) |>.trans ay) λk aj=>ad⟩
 rw[LJ,LI,L4];exact aY.cS ay (λb O _=>⟨λh=>h,ad⟩)
end
theorem nt.snoc{M:List bL}(h:nt M)(al:M.length=i){re:Bool}{sz:Int}(h0:0<=sz)(a1:sz<=3)(a6:re=true->sz=0):nt (M++[⟨iM i,re,sz⟩]):=by
 intro k m hm;by_cases aj:k<M.length
 .rw[List.getElem?_append_left aj] at hm;exact h k m hm
 .rw[List.getElem?_append_right ad] at hm;have cK:k - M.length=0:=by
   exact vJ
  rw[cK] at hm;simp at hm;subst hm;have:k=i:=ad;subst this;exact⟨rfl,h0,a1,a6⟩
def Fw(S:World)(gV:Value)(Q:Exit->Act->World->Prop)(K:Act->World->Prop):Prop:=∀(A:Mk) (n c:Nat) (l:List Int) (ar:Bool) (MA:Mk) (mn mc:Nat) (M:List bL) {hs ht gO gU o u8 gQ eX gw gx cc bW bw u16 cM gz eY eZ e3 e4 e5 e6 e7 e8 e9 fa fb fd fe u32 ff fi fj fl fo fp fq fr fs ft fu fv fw fx fy fz fA fB fC fE fF fG fH fI fJ fK fL fM fN fP fQ u64 fR fS fT fU fV fW fX fY fZ f3 f4 f5 f6 f7 f8 f9 ga gb gd ge gf gg gh gi gj gk gl gm go gp gq gs gt gu gv H I am aJ aK aL aO aZ a8 bb bd bf bo bs bz bC bK bZ b2 b6 b9 cd cg ch cl cm cn co cA cB cE cF cG cH cK cL cP cQ cR cS cT cU cV cW cY cZ c4 c5 c6 c7 c8 c9 da db dc de df dg dh di dj dk dl dm dn dp dq dr ds dt du dv dw dy dz dA dB dC dD dE dF dG dH dI dJ dK dM dN dO dR dS dV dW dX dY dZ d0 d1 d2 d3 d4 d5 d6 d7 d8 d9 ea eb ec ed ee eg eh ei ej ek el em en eo ep eq er es et ev ew ex ey ez eA eB eC eD eE eF eG eH eI eJ eL eN eO eP eQ eR eS eT eU bj gA gB gC gD gE gF gG gH gI gJ gK gL gM gN:Value} (w:World),1<=mn->pI S w A n c l ar MA mn mc M->
 Code.wp prog (wV 13) (Exit.then K Q) ⟨#[gV,hs,.pointer (some ⟨S.heap.size,0,none⟩),.pointer (some ⟨S.heap.size+1+1,0,none⟩),ht,gO,gU,o,u8,gQ,eX,gw,gx,cc,bW,bw,u16,cM,gz,eY,eZ,e3,e4,e5,e6,e7,e8,e9,fa,fb,fd,fe,u32,ff,fi,fj,fl,fo,fp,fq,fr,fs,ft,fu,fv,fw,fx,fy,fz,fA,fB,fC,fE,fF,fG,fH,fI,fJ,fK,fL,fM,fN,fP,fQ,u64,fR,fS,fT,fU,fV,fW,fX,fY,fZ,f3,f4,f5,f6,f7,f8,f9,ga,gb,gd,ge,gf,gg,gh,gi,gj,gk,gl,gm,go,gp,gq,gs,gt,gu,gv,H,I,am,aJ,aK,aL,aO,aZ,a8,bb,bd,bf,bo,bs,bz,bC,bK,bZ,b2,b6,b9,cd,cg,ch,cl,cm,cn,co,cA,cB,cE,cF,cG,cH,cK,cL,cP,cQ,cR,cS,cT,cU,cV,cW,cY,cZ,c4,c5,c6,c7,c8,c9,da,db,dc,de,df,dg,dh,di,dj,dk,dl,dm,dn,dp,dq,dr,ds,dt,du,dv,dw,dy,dz,dA,dB,dC,dD,dE,dF,dG,dH,dI,dJ,dK,dM,dN,dO,dR,dS,dV,dW,dX,dY,dZ,d0,d1,d2,d3,d4,d5,d6,d7,d8,d9,ea,eb,ec,ed,ee,eg,eh,ei,ej,ek,el,em,en,eo,ep,eq,er,es,et,ev,ew,ex,ey,ez,eA,eB,eC,eD,eE,eF,eG,eH,eI,eJ,eL,eN,eO,eP,eQ,eR,eS,eT,eU,bj,gA,gB,gC,gD,gE,gF,gG,gH,gI,gJ,gK,gL,gM,gN],[]⟩ w
theorem cA.JK{α:Type}{f:α->List Value}{sz:Nat}{w:World}{B n m:Nat}{A:Mk}{l:List α}(h:cA (EF f) sz w B A n l)(hm:m<=n):cA (EF f) sz w B A m (l.take m):=by
 refine⟨by have:=h.1;simp;omega,λh0=>?_⟩;obtain⟨b,o,bO,O,hc⟩:=h.2 ad;exact⟨b,o,bO,O,λk x hx=>hc k x ((List.getElem?_take_of_lt (i:=k) (by have:=(List.getElem?_eq_some_iff.1 hx).1;simp at this;omega)).symm.trans hx)⟩
theorem D0(m:Nat)(A:Mk)(n c:Nat)(l:List Int)(w:World)(hm:m<=1000)(h:cA (EF cd) 1 w w.heap.size A n l)(hc:n<=c) :
  Calls prog 94 #[.slice A n c,.int .i64 (m:Int)] w λe ab=>(∃I aQ aD,e=.returned (.slice I aQ aD)/\aQ<=m/\∃aM,cA (EF cd) 1 w w.heap.size I aQ aM)/\w=ab:=by
 have H:=ae h;by_cases hn:n<=m
 .have q:decide ((n:Int) > (m:Int))=false:=by simp;omega
  clear h;go_enter func94,ntmps94;go_wp2;go_ret;exact⟨⟨A,n,c,rfl,hn,l,H.o⟩,rfl⟩
 .obtain⟨b,o,rfl,O⟩:=h.some_ ad;have q:decide ((n:Int) > (m:Int))=true:=by simp;omega
  have bQ:(0:Int)<=(m:Int):=ad;have cp:(m:Int)<=(c:Int):=ad;clear h;go_enter func94,ntmps94;go_wp2;go_ret;exact⟨⟨_,m,_,rfl,Lz _,_,H.JK ad⟩,rfl⟩
theorem Ez(al:i<4):strOf [byteOf (97+(i:Int))]=iM i:=by
 have h:∀k:Fin 4,strOf [byteOf (97+((k.val:Nat):Int))]=iM k.val:=by decide
 exact h ⟨i,al⟩
theorem v5:cm prog 67 128 (.agg #[.string ⟨#[]⟩,.int .i64 0]) 2 24:=cm.mk' Tryz.underlying67 (by kernel_rfl) rfl ad
def sw(G:List (ByteArray×Int)):Prop:=∀i g,G[i]?=some g->g.1=dT i∧-2<=g.2/\g.2<=2
theorem sw.snoc{G:List (ByteArray×Int)}(h:sw G)(al:G.length=i){v:Int}(h0:-2<=v)(a1:v<=2):sw (G++[(dT i,v)]):=by
 intro k m hm;by_cases aj:k<G.length
 .rw[List.getElem?_append_left aj] at hm;exact h k m hm
 .rw[List.getElem?_append_right ad] at hm;have cK:k - G.length=0:=by
   exact vJ
  rw[cK] at hm;simp at hm;subst hm;have:k=i:=ad;subst this;exact⟨rfl,h0,a1⟩
structure xD(S:World)(u:Nat)(w:World)(A:Mk)(n c:Nat)(l:List Int)(ar:Bool)(MA:Mk)(mn mc:Nat)(M:List bL)(GA:Mk)(gn gc:Nat)(G:List (ByteArray×Int))(av:Mk)(a7:Nat):Prop where
 src:cp w (S.heap.size+1) A n c l
 blk:ao w (S.heap.size+1+1) 169 #[.pointer (some ⟨S.heap.size+1,0,none⟩),.slice GA gn gc,.slice MA mn mc,.slice none 0 0,.int .i64 24,.bool ar]
 res:ao w S.heap.size 70 #[.slice none 0 0,.slice none 0 0,.slice none 0 0]
 ms:Sl w (λb=>S.heap.size+1+1+1<=b/\b<u) MA mn (M.map eC)
 mc:mn<=mc
 rows:lL u 128 2 9 1 w GA gn gc (G.map iI) av gn a7 ((G.map (·.1)).map D.s)
 nm:1<=mn/\mn<=4
 ok:nt M
 ng:gn<=2
 zF:sw G
 ext:Ext S w
 hD:S.heap.size+1+1+1<=u/\u<=w.heap.size
section
variable {S w ab:World} {u:Nat} {A:Mk} {n c:Nat} {l:List Int} {ar:Bool} {MA:Mk} {mn mc:Nat} {M:List bL} {GA:Mk} {gn gc:Nat} {G:List (ByteArray×Int)} {av:Mk} {a7:Nat}
theorem pI.Kf(h:pI S w A n c l ar MA mn mc M)(ac:1<=mn):xD S w.heap.size w A n c l ar MA mn mc M none 0 0 [] none 0:=
 ⟨h.src,h.blk,h.res,h.ms.sl (λ_ _ h=>h.elim) (λb O aS=>⟨aS,O⟩),h.ms.cap.1,lL.nil _ _ _ _ _ _,⟨ac,h.nm⟩,h.ok,ad,(λi g h=>by cases h),h.ext,by have:=h.blk.lt;omega,Lz _⟩
theorem xD.next(h:xD S u w A n c l ar MA mn mc M GA gn gc G av a7)(hs:cp ab (S.heap.size+1) A n c l)(O:Fr (λb=>b=S.heap.size+1) w ab):xD S u ab A n c l ar MA mn mc M GA gn gc G av a7:=by
 have hD:=h.hD;exact⟨hs,h.blk.on O ad,h.res.on O ad,h.ms.ak λb hp=>O.block b (aB hp.2) (aB hp.1),h.mc,h.rows.cS O (λb O _=>ad),h.nm,h.ok,h.ng,h.zF,Fr.low (M:=λb=>b=S.heap.size+1) ((h.ext.mono λ_ h=>h.elim).trans O) λk aj=>ad,hD.1,by have:=O.size;omega⟩
theorem xD.aj(h:xD S u w A n c l ar MA mn mc M GA gn gc G av a7)(O:Ext w ab):xD S u ab A n c l ar MA mn mc M GA gn gc G av a7:=h.next (h.src.cT O λ_ _ h=>h) (O.mono λ_ h=>h.elim)
theorem xD.add(h:xD S u w A n c l ar MA mn mc M GA gn gc G av a7){bc P:Mk}{L Y:Nat}{g:ByteArray×Int}(a9:lL u 128 2 9 1 ab bc (gn+1) L ((G++[g]).map iI) P (gn+1) Y (((G++[g]).map (·.1)).map D.s))
  (J:Fr (λb=>(Value.slice GA gn gc).ownBlock=some b\/(Value.slice av gn a7).ownBlock=some b) w ab) (hn:gn+1<=2) (b8:sw (G++[g])) :
  xD S u (ab.setCell ⟨S.heap.size+1+1,1,none⟩ (.slice bc (gn+1) L)) A n c l ar MA mn mc M bc (gn+1) L (G++[g]) P Y:=by
 have hD:=h.hD;have bn:∀b,((Value.slice GA gn gc).ownBlock=some b\/(Value.slice av gn a7).ownBlock=some b)->u<=b:=λb O=>by
  rcases O with O|O
  .exact(h.rows.one.lt O).1
  .exact(h.rows.two.lt O).1
 have ay:Fr (λb=>b=S.heap.size+1+1) ab (ab.setCell ⟨S.heap.size+1+1,1,none⟩ (.slice bc (gn+1) L)):=(Fr.refl (λb=>b=S.heap.size+1+1) ab).setCell (.inl rfl) _;have hs:=J.size;have bP:=ay.size;refine⟨(h.src.cT J λb O ag=>by have:=bn b ag;omega).cT ay (λb O ag=>ad),(h.blk.on J λag=>by have:=bn _ ag;omega).aJ 1 _,(h.res.on J λag=>by have:=bn _ ag;omega).on ay ad,
  h.ms.ak λb hp=>(ay.block b (aB hp.2) (aB hp.1)).trans (J.block b (aB hp.2) λag=>by have:=bn b ag;have:=hp.2;omega),h.mc,a9.cS ay (λb O _=>ad),h.nm,h.ok,hn,b8,?_,hD.1,ad⟩
 have ac:Ext S ab:=Fr.low (M:=λb=>(Value.slice GA gn gc).ownBlock=some b\/(Value.slice av gn a7).ownBlock=some b) ((h.ext.mono λ_ h=>h.elim).trans J) λk aj=>by have:=bn k aj;omega
 exact z3
end
def Fx(S:World)(gV:Value)(Q:Exit->Act->World->Prop)(K:Act->World->Prop):Prop:=∀(u:Nat) (A:Mk) (n c:Nat) (l:List Int) (ar:Bool) (MA:Mk) (mn mc:Nat) (M:List bL) (GA:Mk) (gn gc:Nat) (G:List (ByteArray×Int)) (av:Mk) (a7:Nat) {hs ht gO gU u8 gQ eX gw gx cc bW bw u16 cM gz eY eZ e3 e4 e5 e6 e7 e8 e9 fa fb fd fe u32 ff fi fj fl fo fp fq fr fs ft fu fv fw fx fy fz fA fB fC fE fF fG fH fI fJ fK fL fM fN fP fQ u64 fR fS fT fU fV fW fX fY fZ f3 f4 f5 f6 f7 f8 f9 ga gb gd ge gf gg gh gi gj gk gl gm go gp gq gs gt gu gv H I am aJ aK aL aO aZ a8 bb bd bf bo bs bz bC bK bZ b2 b6 b9 cd cg ch cl cm cn co cA cB cE cF cG cH cK cL cP cQ cR cS cT cU cV cW cY cZ c4 c5 c6 c7 c8 c9 da db dc de df dg dh di dj dk dl dm dn dp dq dr ds dt du dv dw dy dz dA dB dC dD dE dF dG dH dI dJ dK dM dN dO dR dS dV dW dX dY dZ d0 d1 d2 d3 d4 d5 d6 d7 d8 d9 ea eb ec ed ee eg eh ei ej ek el em en eo ep eq er es et ev ew ex ey ez eA eB eC eD eE eF eG eH eI eJ eL eN eO eP eQ eR eS eT eU bj gA gB gC gD gE gF gG gH gI gJ gK gL gM gN:Value} (w:World),xD S u w A n c l ar MA mn mc M GA gn gc G av a7->
 Code.wp prog (wV 19) (Exit.then K Q) ⟨#[gV,hs,.pointer (some ⟨S.heap.size,0,none⟩),.pointer (some ⟨S.heap.size+1+1,0,none⟩),ht,gO,gU,.slice av gn a7,u8,gQ,eX,gw,gx,cc,bW,bw,u16,cM,gz,eY,eZ,e3,e4,e5,e6,e7,e8,e9,fa,fb,fd,fe,u32,ff,fi,fj,fl,fo,fp,fq,fr,fs,ft,fu,fv,fw,fx,fy,fz,fA,fB,fC,fE,fF,fG,fH,fI,fJ,fK,fL,fM,fN,fP,fQ,u64,fR,fS,fT,fU,fV,fW,fX,fY,fZ,f3,f4,f5,f6,f7,f8,f9,ga,gb,gd,ge,gf,gg,gh,gi,gj,gk,gl,gm,go,gp,gq,gs,gt,gu,gv,H,I,am,aJ,aK,aL,aO,aZ,a8,bb,bd,bf,bo,bs,bz,bC,bK,bZ,b2,b6,b9,cd,cg,ch,cl,cm,cn,co,cA,cB,cE,cF,cG,cH,cK,cL,cP,cQ,cR,cS,cT,cU,cV,cW,cY,cZ,c4,c5,c6,c7,c8,c9,da,db,dc,de,df,dg,dh,di,dj,dk,dl,dm,dn,dp,dq,dr,ds,dt,du,dv,dw,dy,dz,dA,dB,dC,dD,dE,dF,dG,dH,dI,dJ,dK,dM,dN,dO,dR,dS,dV,dW,dX,dY,dZ,d0,d1,d2,d3,d4,d5,d6,d7,d8,d9,ea,eb,ec,ed,ee,eg,eh,ei,ej,ek,el,em,en,eo,ep,eq,er,es,et,ev,ew,ex,ey,ez,eA,eB,eC,eD,eE,eF,eG,eH,eI,eJ,eL,eN,eO,eP,eQ,eR,eS,eT,eU,bj,gA,gB,gC,gD,gE,gF,gG,gH,gI,gJ,gK,gL,gM,gN],[]⟩ w
theorem tt{w:World}{x:ByteArray×Int}{cs:List Value}:(iI x).rep w P cs↔cs=[.string x.1,.int .i64 x.2]:=by
 unfold iI;rw[bJ,ct];exact DJ
theorem q3{P:Program}{ops:Array Oper}{Q:Exit->Act->World->Prop}{R:World->World->Prop}{tails:List Nat}{j k:Nat}{f:Nat->PT}{a:Act}{w:World}(h:oN P ops Q R tails i (f i) a w)(ax:oN P ops Q R tails j (f j) a w)(a1:oN P ops Q R tails k (f k) a w):cR P ops Q R tails (.pick [i,j,k] f) a w:=λm hm=>by
 simp only[LS,List.not_mem_nil,or_false] at hm;rcases hm with rfl|rfl|rfl
 .exact h
 .exact ax
 .exact a1
theorem Ej(al:i<3)(O:IntKind.u8.wrap (IntKind.i64.wrap (48+(i:Int)))=bv):(⟨#[103]⟩++strOf [byteOf bv]:ByteArray)=dT i:=by
 subst O;have h:∀k:Fin 3,(⟨#[103]⟩++strOf [byteOf (IntKind.u8.wrap (IntKind.i64.wrap (48+((k.val:Nat):Int))))]:ByteArray)=dT k.val:=by decide
 exact h ⟨i,al⟩
theorem fD(V:World)(g:Nat)(v1:Int)(h0:V.cell? ⟨g,0,none⟩=some (.int .u8 v1)) :
  (convert 78 9 (.slice (some ⟨g,0,none⟩) 1 1)).run prog V=.ok (.string (strOf [byteOf v1])) V:=by
 have:=run_convert_bytes_arg (P:=prog) V 78 5 Tryz.underlying78 Tryz.underlying5 g 0 1 1 [v1] rfl (λi al=>by
  obtain rfl:i=0:=ad;exact h0) 9 Tryz.underlying9
 rw[this];rfl
theorem HY:cm prog 68 137 (.agg #[.string ⟨#[]⟩,.slice none 0 0,.slice none 0 0]) 3 64:=cm.mk' Tryz.underlying68 (by kernel_rfl) rfl ad
theorem DQ:cm prog 134 173 (.agg #[.string ⟨#[]⟩,.bool false]) 2 24:=cm.mk' Tryz.underlying134 (by kernel_rfl) rfl ad
def rk(F:List aG):Prop:=∀i f,F[i]?=some f->f.name=jI i/\(∃n,n<=2/\f.params.map (·.1)=fh n)/\(i=0->f.params=[])/\f.body=.nil
theorem rk.snoc{F:List aG}(h:rk F)(al:F.length=i){n:Nat}(hn:n<=2)(hp:ps.map (·.1)=fh n)(h0:i=0->ps=[]):rk (F++[⟨jI i,ps,.nil⟩]):=by
 intro k m hm;by_cases aj:k<F.length
 .rw[List.getElem?_append_left aj] at hm;exact h k m hm
 .rw[List.getElem?_append_right ad] at hm;have cK:k - F.length=0:=by
   exact vJ
  rw[cK] at hm;simp at hm;subst hm;have:k=i:=ad;subst this;exact⟨rfl,⟨n,hn,hp⟩,h0,rfl⟩
theorem Gu{w:World}{nm:ByteArray}{PA:Mk}{pn pc:Nat}(hc:pn<=pc)(h:Sl w P PA pn (ps.map cz)):(dy ⟨nm,ps,.nil⟩).rep w P [.string nm,.slice PA pn pc,.slice none 0 0]:=by
 unfold dy;rw[bJ];exact ct.2 ⟨_,rfl,aL.2 ⟨PA,pn,pc,_,rfl,hc,h,aL.2 ⟨none,0,0,[],rfl,Lz _,Sl.bT _,aQ.2 rfl⟩⟩⟩
structure zM(S:World)(u:Nat)(w:World)(A:Mk)(n c:Nat)(l:List Int)(ar:Bool)(MA:Mk)(mn mc:Nat)(M:List bL)(GA:Mk)(gn gc:Nat)(G:List (ByteArray×Int))(av:Mk)(a7:Nat)(FA:Mk)(fn fc:Nat)(F:List aG):Prop where
 src:cp w (S.heap.size+1) A n c l
 blk:ao w (S.heap.size+1+1) 169 #[.pointer (some ⟨S.heap.size+1,0,none⟩),.slice GA gn gc,.slice MA mn mc,.slice FA fn fc,.int .i64 24,.bool ar]
 res:ao w S.heap.size 70 #[.slice none 0 0,.slice none 0 0,.slice none 0 0]
 ms:Sl w (λb=>S.heap.size+1+1+1<=b/\b<u) MA mn (M.map eC)
 gs:Sl w (λb=>S.heap.size+1+1+1<=b/\b<u) GA gn (G.map iI)
 vs:Sl w (λb=>S.heap.size+1+1+1<=b/\b<u) av gn ((G.map (·.1)).map D.s)
 fs:Gr (λb=>u<=b) u 137 3 w FA fn fc (F.map dy)
 mc:mn<=mc
 gc:gn<=gc
 nm:1<=mn/\mn<=4
 ok:nt M
 ng:gn<=2
 zF:sw G
 nf:fn<=4
 J2:rk F
 ext:Ext S w
 hD:S.heap.size+1+1+1<=u/\u<=w.heap.size
section
variable {S w ab:World} {u io:Nat} {A:Mk} {n c:Nat} {l:List Int} {ar:Bool} {MA:Mk} {mn mc:Nat} {M:List bL} {GA:Mk} {gn gc:Nat} {G:List (ByteArray×Int)} {av:Mk} {a7:Nat} {FA:Mk} {fn fc:Nat} {F:List aG}
theorem xD.Kg(h:xD S io w A n c l ar MA mn mc M GA gn gc G av a7):zM S w.heap.size w A n c l ar MA mn mc M GA gn gc G av a7 none 0 0 []:=by
 have hD:=h.hD;exact⟨h.src,h.blk,h.res,h.ms.mono λb hp=>⟨hp.1,by have:=hp.2;omega⟩,h.rows.one.sl (λb O hp=>⟨by have:=hp.1;omega,O⟩) (λb O aS=>⟨ad,O⟩),h.rows.two.sl (λb O hp=>⟨by have:=hp.1;omega,O⟩) (λb O aS=>⟨ad,O⟩),Gr.nil _ _ _ _ _,h.mc,h.rows.one.cap.1,h.nm,h.ok,h.ng,h.zF,ad,(λi f h=>by cases h),h.ext,ad,Lz _⟩
theorem zM.next(h:zM S u w A n c l ar MA mn mc M GA gn gc G av a7 FA fn fc F)(hs:cp ab (S.heap.size+1) A n c l)(O:Fr (λb=>b=S.heap.size+1) w ab):zM S u ab A n c l ar MA mn mc M GA gn gc G av a7 FA fn fc F:=by
 have hD:=h.hD;have aj:∀b,(S.heap.size+1+1+1<=b/\b<u)->ab.heap[b]?=w.heap[b]?:=λb hp=>O.block b (aB hp.2) (aB hp.1);exact⟨hs,h.blk.on O ad,h.res.on O ad,h.ms.ak aj,h.gs.ak aj,h.vs.ak aj,h.fs.cS O (λb O _=>⟨ad,ad⟩),h.mc,h.gc,h.nm,h.ok,h.ng,h.zF,h.nf,h.J2,Fr.low (M:=λb=>b=S.heap.size+1) ((h.ext.mono λ_ h=>h.elim).trans O) λk aj=>ad,hD.1,by have:=O.size;omega⟩
theorem zM.add(h:zM S u w A n c l ar MA mn mc M GA gn gc G av a7 FA fn fc F){c5:Mk}{cY:Nat}{f:aG}(aY:Gr (λb=>u<=b) u 137 3 ab c5 (fn+1) cY (F.map dy++[dy f]))(J:Fr (λb=>(Value.slice FA fn fc).ownBlock=some b) w ab)
  (hn:fn+1<=4) (b8:rk (F++[f])):zM S u (ab.setCell ⟨S.heap.size+1+1,3,none⟩ (.slice c5 (fn+1) cY)) A n c l ar MA mn mc M GA gn gc G av a7 c5 (fn+1) cY (F++[f]):=by
 have hD:=h.hD;have bn:∀b,(Value.slice FA fn fc).ownBlock=some b->u<=b:=λb O=>(h.fs.lt O).1;have ay:Fr (λb=>b=S.heap.size+1+1) ab (ab.setCell ⟨S.heap.size+1+1,3,none⟩ (.slice c5 (fn+1) cY)):=(Fr.refl (λb=>b=S.heap.size+1+1) ab).setCell (.inl rfl) _;have hs:=J.size;have bP:=ay.size;have aj:∀b,(S.heap.size+1+1+1<=b/\b<u)->(ab.setCell ⟨S.heap.size+1+1,3,none⟩ (.slice c5 (fn+1) cY)).heap[b]?=w.heap[b]?:=λb hp=>(ay.block b (aB hp.2) (aB hp.1)).trans (J.block b (aB hp.2) λag=>by have:=bn b ag;have:=hp.2;omega);refine⟨(h.src.cT J λb O ag=>by have:=bn b ag;omega).cT ay (λb O ag=>ad),(h.blk.on J λag=>by have:=bn _ ag;omega).aJ 3 _,(h.res.on J λag=>by have:=bn _ ag;omega).on ay ad,h.ms.ak aj,h.gs.ak aj,h.vs.ak aj,?_,h.mc,h.gc,h.nm,h.ok,h.ng,h.zF,hn,b8,?_,hD.1,ad⟩
 .rw[LJ,LI,L4];exact aY.cS ay (λb O _=>⟨ad,ad⟩)
 .have ac:Ext S ab:=Fr.low (M:=λb=>(Value.slice FA fn fc).ownBlock=some b) ((h.ext.mono λ_ h=>h.elim).trans J) λk aj=>by have:=bn k aj;omega
  exact z3
end
def Fy(S:World)(gV:Value)(Q:Exit->Act->World->Prop)(K:Act->World->Prop):Prop:=∀(u:Nat) (A:Mk) (n c:Nat) (l:List Int) (ar:Bool) (MA:Mk) (mn mc:Nat) (M:List bL) (GA:Mk) (gn gc:Nat) (G:List (ByteArray×Int)) (av:Mk) (a7:Nat) (FA:Mk) (fn fc:Nat) (F:List aG) {hs ht gO gU u8 gQ eX gw gx cc bW bw u16 cM gz eY eZ e3 e4 e5 e6 e7 e8 e9 fa fb fd fe u32 ff fi fj fl fo fp fq fr fs ft fu fv fw fx fy fz fA fB fC fE fF fG fH fI fJ fK fL fM fN fP fQ u64 fR fS fT fU fV fW fX fY fZ f3 f4 f5 f6 f7 f8 f9 ga gb gd ge gf gg gh gi gj gk gl gm go gp gq gs gt gu gv H I am aJ aK aL aO aZ a8 bb bd bf bo bs bz bC bK bZ b2 b6 b9 cd cg ch cl cm cn co cA cB cE cF cG cH cK cL cP cQ cR cS cT cU cV cW cY cZ c4 c5 c6 c7 c8 c9 da db dc de df dg dh di dj dk dl dm dn dp dq dr ds dt du dv dw dy dz dA dB dC dD dE dF dG dH dI dJ dK dM dN dO dR dS dV dW dX dY dZ d0 d1 d2 d3 d4 d5 d6 d7 d8 d9 ea eb ec ed ee eg eh ei ej ek el em en eo ep eq er es et ev ew ex ey ez eA eB eC eD eE eF eG eH eI eJ eL eN eO eP eQ eR eS eT eU bj gA gB gC gD gE gF gG gH gI gJ gK gL gM gN:Value} (w:World),1<=fn->zM S u w A n c l ar MA mn mc M GA gn gc G av a7 FA fn fc F->
 Code.wp prog (wV 32) (Exit.then K Q) ⟨#[gV,hs,.pointer (some ⟨S.heap.size,0,none⟩),.pointer (some ⟨S.heap.size+1+1,0,none⟩),ht,gO,gU,.slice av gn a7,u8,gQ,eX,gw,gx,cc,bW,bw,u16,cM,gz,eY,eZ,e3,e4,e5,e6,e7,e8,e9,fa,fb,fd,fe,u32,ff,fi,fj,fl,fo,fp,fq,fr,fs,ft,fu,fv,fw,fx,fy,fz,fA,fB,fC,fE,fF,fG,fH,fI,fJ,fK,fL,fM,fN,fP,fQ,u64,fR,fS,fT,fU,fV,fW,fX,fY,fZ,f3,f4,f5,f6,f7,f8,f9,ga,gb,gd,ge,gf,gg,gh,gi,gj,gk,gl,gm,go,gp,gq,gs,gt,gu,gv,H,I,am,aJ,aK,aL,aO,aZ,a8,bb,bd,bf,bo,bs,bz,bC,bK,bZ,b2,b6,b9,cd,cg,ch,cl,cm,cn,co,cA,cB,cE,cF,cG,cH,cK,cL,cP,cQ,cR,cS,cT,cU,cV,cW,cY,cZ,c4,c5,c6,c7,c8,c9,da,db,dc,de,df,dg,dh,di,dj,dk,dl,dm,dn,dp,dq,dr,ds,dt,du,dv,dw,dy,dz,dA,dB,dC,dD,dE,dF,dG,dH,dI,dJ,dK,dM,dN,dO,dR,dS,dV,dW,dX,dY,dZ,d0,d1,d2,d3,d4,d5,d6,d7,d8,d9,ea,eb,ec,ed,ee,eg,eh,ei,ej,ek,el,em,en,eo,ep,eq,er,es,et,ev,ew,ex,ey,ez,eA,eB,eC,eD,eE,eF,eG,eH,eI,eJ,eL,eN,eO,eP,eQ,eR,eS,eT,eU,bj,gA,gB,gC,gD,gE,gF,gG,gH,gI,gJ,gK,gL,gM,gN],[]⟩ w
theorem Ed(al:i<4)(h0:i≠0)(O:bv=48+(i:Int)):(⟨#[102]⟩++strOf [byteOf bv]:ByteArray)=jI i:=by
 subst O;have h:∀k:Fin 4,k.val≠0->(⟨#[102]⟩++strOf [byteOf (48+((k.val:Nat):Int))]:ByteArray)=jI k.val:=by decide
 exact h ⟨i,al⟩ h0
theorem EL(al:i<3)(O:IntKind.u8.wrap (IntKind.i64.wrap (48+(i:Int)))=bv):(⟨#[112]⟩++strOf [byteOf bv]:ByteArray)=uK i:=by
 subst O;have h:∀k:Fin 3,(⟨#[112]⟩++strOf [byteOf (IntKind.u8.wrap (IntKind.i64.wrap (48+((k.val:Nat):Int))))]:ByteArray)=uK k.val:=by decide
 exact h ⟨i,al⟩
end Go.Proofs.YtflecliffjbleaaGreat

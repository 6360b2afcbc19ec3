/- Part 32 of the proof. No condition of its own. -/
import Derived.Test.YtajlmkkidmjgoaaGreatDoorQ29
import Derived.Test.YtajlmkkidmjgoaaGreatDoorQ30
namespace Go.Proofs.YtajlmkkidmjgoaaGreatDoor
open Go.RowKit Go.Proofs.Tryz
set_option maxRecDepth 1000000
set_option maxHeartbeats 25600000
set_option linter.unusedVariables false
variable{bv:Int}{ps:List (ByteArray×Bool)}{i:Nat}{P:Nat->Prop}{p:Prop}
namespace zx
theorem ot(h:p:=by
 exact gE.simple (st:=.lock bb r) ⟨s,wb,bu,bM,br,sl,GA,gn,gc,MA,mn,mc,FA,fn,fc,M,F,ar⟩ aN B ct bV d ps V T ls N L aw bc QA cc qc bR bH.1 dq cj bH.2.2.2.1 ce.1 b0 c2 aS (U.fresh bH.1 aA λb O=>ad) bK
  (eg lI (iT.2 ⟨IA,i,ic,rfl,Z,(au.al λb O=>aA.block b O.2 (aC O.1)).mono λb O=>⟨by have:=O.1;omega,by have:=O.2;omega⟩⟩) (Sl.bH _) (Hx _) (Sl.bH _) (Hx _) (Sl.bH _) (Hx _)) (kq ce.1 (ah _)) (λn hn=>by simp[ay.all] at hn) (by simp only[ay.num];omega) (Hx _) bD.2.2 bH.2.1
 ):p:=h
theorem lg(h:p:=by
 first
  | have R:decide (k<4)=true:=by simpa using ap.2
  | have R:decide (k<4)=false:=by simpa using ap.2.1
    have a5:decide (k<7)=true:=by simpa using ap.2.2
 have a3:=ae ap.1;clear ap;go_wp2_with(fail);refine(pM ⟨s,wb,bu,bM,br,sl,GA,gn,gc,MA,mn,mc,FA,fn,fc,M,F,ar⟩ L a1 av bq ax bc ps QA cc qc bR wr (bP.1.wr bH.1) ((Sl.dh bH.2.2.2.2.1 bP.1.fr).mono λb O=>⟨O.1,λh=>O.2 (.inl h)⟩) ad ((Sl.dh bH.2.2.1 bP.1.fr).mono λb O=>⟨O.1,λh=>O.2 (.inl h)⟩) bp).mono ?_;rintro e aT ⟨r,IA,i,ic,rfl,ah,Z,au,ao,ag⟩;simp only at ah ao ag;have l:=bP.2.2.on ag ad;have a8:=eU (bP.1.next aZ ao ag) l ah Z au ag.size;clear aI aj af be am aH d0 aP aQ ah Z au ao ag;obtain⟨d0,aP,aQ⟩:=l.two;clear l;go_wp2_with(fail);generalize hX:World.setCell _ _ _=X;have aA:Fr (λb=>b=S.heap.size) aT X:=by rw[<-hX];first|exact((Fr.refl (λb=>b=S.heap.size) aT).setCell (.inl rfl) _).setCell (.inl rfl) _|exact(((Fr.refl (λb=>b=S.heap.size) aT).setCell (.inl rfl) _).setCell (.inl rfl) _).setCell (.inl rfl) _
 have bK:an X S.heap.size 153 #[.int .i64 (if bb then 6 else 5),.string ⟨#[]⟩,.int .i64 0,.int .i64 0,.string ⟨#[]⟩,.slice none 0 0,.string r.name,.slice IA i ic,.slice none 0 0,.slice none 0 0,.slice none 0 0]:=by rw[<-hX,a3.o];first|exact(a8.2.1.aI 6 _).aI 7 _|exact((a8.2.1.aI 0 _).aI 6 _).aI 7 _
 clear hX d0 aP aQ;obtain⟨U,_,ah,Z,au,bz⟩:=a8.o;have b4:=aA.size;have bh:=bP.2.2.lt;exact oq
 ):p:=h
end zx
open zx in
theorem Cd(bb:Bool)(k:Int)(d bq:Nat)(h:(bb=false/\k<4)\/bb=true/\¬k<4/\k<7):SK k d bq:=by
 rcases h with ap|ap
 all_goals
  exact ld
namespace zz
theorem qX(h:p:=by
 refine aB ?_;generalize hX:World.setCell _ _ _=X;have aA:Fr (λb=>b=S.heap.size) aT X:=hX▸((((((Fr.refl (λb=>b=S.heap.size) aT).setCell (.inl rfl) _).setCell (.inl rfl) _).setCell (.inl rfl) _).setCell (.inl rfl) _).setCell (.inl rfl) _).setCell (.inl rfl) _;have bK:an X S.heap.size 153 #[.int .i64 2,.string nm,.int .i64 x.aZ,.int .i64 x.numOf,.string x.bg,.slice cy cp cD,.string ⟨#[]⟩,.slice none 0 0,.slice none 0 0,.slice none 0 0,.slice none 0 0]:=hX▸(((((a8.2.1.aI 0 _).aI 1 _).aI 2 _).aI 3 _).aI 4 _).aI 5 _;clear hX d0 aP aQ;go_wp2_with(fail);obtain⟨U,_,hx,ah,bf,bz⟩:=a8.o;have b4:=aA.size;have bh:=bP.2.2.lt
 try refine hN _ _ ?_
 unfold la;apply Exists.intro
 refine⟨bq,ax,bw,on,bL,?_⟩
 iterate 240 apply Exists.intro
 refine⟨?_,rfl⟩;exact gE.simple (st:=.set false nm x) ⟨s,wb,bu,bM,br,sl,GA,gn,gc,MA,mn,mc,FA,fn,fc,M,F,ar⟩ aN B ct bV d ps V T ls N L aw bc QA cc qc bR bH.1 dq cj bH.2.2.2.1 ce.1 b0 c2 aS (U.fresh bH.1 aA λb O=>ad) bK (eg (aW.2 ⟨cy,cp,cD,rfl,ah,(bf.al λb O=>aA.block b O.2 (aC O.1)).mono λb O=>⟨by have:=O.1;omega,by have:=O.2;omega⟩⟩) km (Sl.bH _) (Hx _) (Sl.bH _) (Hx _) (Sl.bH _) (Hx _)) ⟨ce.1 eV.o,ds ce.1 2 x hx⟩ (λn hn=>by simp[ay.all] at hn) (by simp only[ay.num];omega) (Hx _) bD.2.2 bH.2.1
 ):p:=h
theorem lg(h:p:=by
 have o:(0:Int)<(bq:Int):=ad;have gM:¬(wb=s\/wb=S.heap.size):=ad;go_upto_region 22 with(fail);refine eB (λb=>b=s\/b=S.heap.size) [(0,3),(1,3),(2,3),(3,3),(4,0),(5,3),(6,3),(10,3),(11,3),(13,3),(7,1),(8,3),(9,0),(12,1),(14,1),(15,3),(16,2),(17,3),(18,2)] ?_
 iterate 4 refine pf ?_
 refine m0 ?_
 iterate 5 refine pf ?_
 refine aD rfl (λK hK=>?_);go_simp;refine(aX wr.drew s bu bM br sl bq (bP.1.aj aZ IK.drew).src ad ad).mono ?_;rintro e aO ⟨cm,rfl,bg,bo,h,he⟩;obtain⟨j,rfl⟩:=Ic bg;have ag:Fr (λb=>b=s) wr aO:=Fr.aJ he.fr;have u:=bP.1.next aZ h ag;obtain⟨i,t,nm,cs,g,O,hm,aY,bd,hc⟩:=Sl.gH (z:=1) bH.2.2.2.2.1 (λ_=>rfl) (k:=j) ad;subst g;obtain rfl:=sT.1 aY;have c0:=(u.fr.cell O.1 O.2).trans (hc 0 _ rfl);simp only[Nat.mul_one,Ij] at c0;have r:¬(i=s\/i=S.heap.size):=λh=>by
  rcases h with h|h
  .exact O.2 (.inl h)
  .have:=O.1;omega
 have m:i<aO.heap.size:=by have:=u.fr.size;have:=O.1;omega
 have eG:(0:Int)<=(j:Int):=ad;have f0:(j:Int)<(bq:Int):=ad;have eV:=ae (Ia hm);have H1:=ai u (bP.2.2.on ag ad);have b6:=ag.size;refine dA hK (he.fr.mono λ_ h=>.inl h) ?_;clear hK K;clear aI aj af be am aH d0 aP aQ aY bd hc hm h he ag u O bg bo;refine pf ?_;refine Hn ?_;refine aD rfl (λK hK=>?_);go_simp;refine(jk ⟨s,wb,bu,bM,br,sl,GA,gn,gc,MA,mn,mc,FA,fn,fc,M,F,ar⟩ L a1 _ bq ax aO (H1.1.wr bH.1) ((Sl.dh bH.2.2.2.2.1 H1.1.fr).mono λb O=>⟨O.1,λh=>O.2 (.inl h)⟩) ad).mono ?_;rintro e aT ⟨x,cy,cp,cD,rfl,hx,ah,bf,h,he⟩;simp only at h he;have l:=H1.2.on he ad;have a8:=eU (H1.1.next aZ h he) l hx ah bf he.size;obtain⟨d0,aP,aQ⟩:=l.two;refine dA hK (he.mono λ_ h=>.inl h) ?_;clear hK K;clear l hx ah bf h he c0;refine aD rfl (λK hK=>?_);go_simp;refine dA hK (IK.setCell (.inl (.inr rfl)) _) ?_;clear hK K;refine pf ?_;exact qW
 ):p:=h
end zz
open zz in
theorem Fc(d bq:Nat)(bF:0<bq):SK 8 d bq:=by
 exact ld
theorem Gd(cm:Int)(bK:0<=cm)(aC:cm<14)(d bq:Nat):SK cm d bq:=by
 by_cases bv:cm<4
 .exact Cd false cm d bq (.inl ⟨rfl,bv⟩)
 by_cases C:cm<7
 .exact Cd true cm d bq (.inr ⟨rfl,bv,C⟩)
 have ap:cm=7\/cm=8\/cm=9\/cm=10\/cm=11\/cm=12\/cm=13:=ad;rcases ap with rfl|rfl|rfl|rfl|rfl|rfl|rfl
 .exact Fe d bq
 .by_cases bC:0<bq
  .exact Fc d bq ad
  .exact wG 8 d bq ad
 .exact Cb false 9 d bq (by simp)
 .exact Cb true 10 d bq (by simp)
 .by_cases hd:0<d
  .exact Ge d bq ad
  .exact wG 11 d bq ad
 .by_cases hd:0<d
  .exact Gf d bq ad
  .exact wG 12 d bq ad
 .exact wG 13 d bq ad
def Gw(p:jW)(aN B:Nat)(ct bV:Value)(d:Nat)(ps:List (ByteArray×Bool))(V T:IQ)(aw:World)(aF:Nat)(bc:ByteArray)(QA:IP)(cc qc:Nat)(bR:Value)(av:IP)(bq ax:Nat)(bw:IP)(on bL:Nat)(N:Int)(w:World):Prop:=∃(a1:IQ) (ls:List ay) (L:Nat),
 N<=7/\nS p aw w L/\an w aN 104 #[.string bc,.slice QA cc qc,bR]/\kV B 9 1 153 11 w av bq ax (a1.map D.s) bw on bL (ls.map a3)/\Made (p.env ps) d V T aF L ls/\a1 ⊆ V++decls ls/\a1.length+L<=60
def pS(p:jW)(aN B:Nat)(ct bV:Value)(d:Nat)(ps:List (ByteArray×Bool))(V T:IQ)(aw:World)(aF:Nat)(bc:ByteArray)(QA:IP)(cc qc:Nat)(bR:Value)(a:Act)(w:World):Prop:=∃(av:IP) (bq ax:Nat) (bw:IP) (on bL:Nat) (N:Int) (gF o u8 gG eP ah u16 br cw eQ eR eS eT eU eW eX eY eZ e3 e4 e5 e6 u32 e7 e8 e9 fa fb fd fe ff fh fi fj fk fl fm fo fp fq fr fs ft fu fv fw fx fy fz fA fB fC fD fE u64 fF fG fH fI fJ fK fL fM fN fQ fR fS fT fU fV fW fX fY f3 f4 f5 f6 f7 f8 f9 ga gb gd ge gf gg gh gi gk gl H am aH aP aQ a7 ba be bf bi bm bu bC bM bO bQ bT bW bX b6 cn co cp cq cu cv cx cy cz cA cB cC cD cE cF cG cH cI cJ cL cM cN cO cP cQ cR cS cU cV cW cX cY cZ c4 c5 c7 c8 c9 da db dc dd de df dg dh di dj dk dl dm dn dp dr ds dt dv dw dx dy dB dC dD dE dF dH dI dJ dK dL dM dN dO dP dQ dR dT dU dV dX dY dZ d0 d1 d2 d3 d4 d5 d6 d7 d8 d9 ea eb ec ed ee ef eg eh ei ej ek el em en eo ep eq er es et eu ev ew ex ey ez eA eC eD eE eF eH eI eL eM eN eO ay ce:Value),Gw p aN B ct bV d ps V T aw aF bc QA cc qc bR av bq ax bw on bL N w/\a=⟨#[.pointer (some ⟨p.wb,0,none⟩),ct,.slice av bq ax,.int .i64 (d:Int),bV,gF,.pointer (some ⟨aN,0,none⟩),o,u8,gG,eP,.slice bw on bL,.int .i64 N,ay,ce,ah,u16,br,cw,eQ,eR,eS,eT,eU,eW,eX,eY,eZ,e3,e4,e5,e6,u32,e7,e8,e9,fa,fb,fd,fe,ff,fh,fi,fj,fk,fl,fm,fo,fp,fq,fr,fs,ft,fu,fv,fw,fx,fy,fz,fA,fB,fC,fD,fE,u64,fF,fG,fH,fI,fJ,fK,fL,fM,fN,fQ,fR,fS,fT,fU,fV,fW,fX,fY,f3,f4,f5,f6,f7,f8,f9,ga,gb,gd,ge,gf,gg,gh,gi,gk,gl,H,am,aH,aP,aQ,a7,ba,be,bf,bi,bm,bu,bC,bM,bO,bQ,bT,bW,bX,b6,cn,co,cp,cq,cu,cv,cx,cy,cz,cA,cB,cC,cD,cE,cF,cG,cH,cI,cJ,cL,cM,cN,cO,cP,cQ,cR,cS,cU,cV,cW,cX,cY,cZ,c4,c5,c7,c8,c9,da,db,dc,dd,de,df,dg,dh,di,dj,dk,dl,dm,dn,dp,dr,ds,dt,dv,dw,dx,dy,dB,dC,dD,dE,dF,dH,dI,dJ,dK,dL,dM,dN,dO,dP,dQ,dR,dT,dU,dV,dX,dY,dZ,d0,d1,d2,d3,d4,d5,d6,d7,d8,d9,ea,eb,ec,ed,ee,ef,eg,eh,ei,ej,ek,el,em,en,eo,ep,eq,er,es,et,eu,ev,ew,ex,ey,ez,eA,eC,eD,eE,eF,eH,eI,eL,eM,eN,eO],[]⟩
def CC(a:Act)(_:World):Nat:=(intOf (a.tmps.getD 12 undef)).toNat
theorem Dx(p:jW)(aN B:Nat)(ct bV:Value)(d:Nat)(ps:List (ByteArray×Bool))(V T:IQ)(aw:World)(aF:Nat)(bc:ByteArray)(QA:IP)(cc qc:Nat)(bR:Value)(i:fZ aw p aF)(k:Sl aw (off p.MW aw) QA cc (ps.map ch))(b2:aw.heap.size<=aN)(cj:aN<B)(bU:B<=aN+1)(bp:cc<=2)(bJ:d<=2)(I:lQ T aF)(Q:∀R,R<aF->Fm p R)(dG:Exit->Act->World->Prop)(hQ0:∀c a d v w,dG (.panic c) (a.put d v) w->dG (.panic c) a w)(x:∀r j,pS p aN B ct bV d ps V T aw aF bc QA cc qc bR r j->dG (.exit 0) r j)
  (a:Act) (wr:World) (hI:pS p aN B ct bV d ps V T aw aF bc QA cc qc bR a wr):Code.wp prog vp (Exit.then (λr j=>pS p aN B ct bV d ps V T aw aF bc QA cc qc bR r j/\CC r j<CC a wr) dG) a wr:=by
 obtain⟨s,wb,bu,bM,br,sl,GA,gn,gc,MA,mn,mc,FA,fn,fc,M,F,ar⟩:=p;unfold pS at hI;obtain⟨av,bq,ax,bw,on,bL,N,hI⟩:=hI
 iterate 241 obtain⟨_,hI⟩:=hI
 obtain⟨hI,rfl⟩:=hI;have bH:=ae hI;obtain⟨a1,ls,L,bd,hC,aB,bS,a6,hV,b0⟩:=hI;have aZ:=i.ne;have ck:=i.src.lt;have fg:=i.blk.lt;simp only at aZ ck fg;obtain⟨aI,aj,af⟩:=hC.blk.two;have eJ:a1.length=bq:=by have:=bS.one.len;simpa using this
 have P:ls.length=on:=by have:=bS.two.len;simpa using this
 have a5:=hC.le;have Y:=a6.le;have aV:=i.ke;have aY:on<=48:=by
  have ac:=a6.num;have J:=sC ls;have aR:=i.ke;omega
 have ay:=cK hC aB bS a6 hV;have bD:=bF i k I Q;clear hC aB bS a6 hV i k I Q;by_cases hM:0<N
 case neg=>
  have q:decide (N > 0)=false:=by simp;omega
  exact x1
 by_cases ba:0<L
 case neg=>
  have q:decide (N > 0)=true:=by simpa using hM
  obtain rfl:L=0:=ad;exact x1
 obtain⟨R,rfl⟩:∃R,L=R+1:=⟨L - 1,ad⟩
 have dl:(0:Int)<((R+1:Nat):Int):=ad;clear bH;conv=>arg 2;whnf
 go_upto_region 7 with(fail);generalize hX:World.setCell _ _ _=S;have bx:=cT hX;have bn:an S wb 93 #[.pointer (some ⟨s,0,none⟩),.slice GA gn gc,.slice MA mn mc,.slice FA fn fc,.int .i64 R,.bool ar]:=hX▸ay.1.blk.aI 4 _;have z:nS ⟨s,wb,bu,bM,br,sl,GA,gn,gc,MA,mn,mc,FA,fn,fc,M,F,ar⟩ aw S R:=⟨ay.1.src.cz bx (λb O h=>by simp only at O;omega),bn,ay.1.fr.trans (bx.mono λ_ h=>.inr h),ad⟩
 have ao:=ay.2.1.on bx ad;have bg:=ay.2.2.1.dh bx (λb O _=>ad);have a2:=aL z ao bg;have cg:aN<S.heap.size:=ao.lt;clear hX bx bn z ao bg aI aj af;obtain⟨aI,aj,af⟩:=a2.1.blk.two;go_upto_region 8 with(fail);generalize al:World.alloc _ _=aO;have ag:=bm al;have aA:=aU al;have u:nS ⟨s,wb,bu,bM,br,sl,GA,gn,gc,MA,mn,mc,FA,fn,fc,M,F,ar⟩ S aO R:=⟨a2.1.src.cz ag (λ_ _ h=>h),a2.1.blk.aj ag,ag.mono λ_ h=>h.elim,a2.1.le⟩
 have H1:=ai u aA;clear al ag aA u aI aj af;obtain⟨aI,aj,af⟩:=H1.1.blk.two;go_wp2_with(fail);refine(aX aO s bu bM br sl 14 H1.1.src ad ad).mono ?_;rintro e aT ⟨cm,rfl,bK,aC,h,he⟩;have U:=H1.1.next aZ h he.fr;have cM:=H1.2.on he.fr ad;have bi:=ai U cM;clear h he U cM aI aj af H1;go_upto_region 14 with(fail);have h0:=a2.1.wr bD.1;have aa:∀b,(⟨s,wb,bu,bM,br,sl,GA,gn,gc,MA,mn,mc,FA,fn,fc,M,F,ar⟩:jW).MW b->b<B:=λb O=>by rcases O with O|O<;>(simp only at O;omega)
 refine Gd cm bK aC d bq ⟨s,wb,bu,bM,br,sl,GA,gn,gc,MA,mn,mc,FA,fn,fc,M,F,ar⟩ aN B ct bV ps V T ls N S R aw bc QA cc qc bR a1 av ax bw on bL R (by simp only;omega) ad ad bp aT h0.ne h0.src.lt h0.blk.lt (by have:=a2.2.2.one.len;simpa using this) bi.1.fr.size (ae ⟨h0,a2.2.1,Sl.dh bD.2.1 a2.1.fr,a2.2.2,a2.2.2.names aa,aa⟩) (ae ⟨bi.1,a2.2.1.on bi.1.fr (λh=>by rcases h with h|h<;>(simp only at h;omega)),bi.2⟩) ad ad bJ (ae ⟨ay.2.2.2.2,ay.2.2.2.1.free ad bD.2.2.1,λa9 a4=>bD.2.2.2 a9 ad⟩) aF (ae ⟨bD.1,bD.2.1,a2.1.fr⟩) b2 _ ?hQ ?hN _ (by assumption)
 case hQ=>exact λc a d v w h=>hQ0 _ _ _ _ _ h
 case hN=>
  intro r ab hp;unfold la at hp;obtain⟨Z,aM,au,aD,Fp,aH,hp⟩:=hp
  iterate 240 obtain⟨_,hp⟩:=hp
  obtain⟨hF,rfl⟩:=hp;obtain⟨aS,m,st,a0,cs,ap,l,n,am,ak,ah,y,K,hle,aq,aK,a7⟩:=hF;obtain⟨eo,en,es,EA,em,ec,rs,ce,cX,rc,cF,n1,c1,A2,cd,c2,cl,bY,c3,rfl,_⟩:=kT ak;obtain⟨d0,aP,aQ⟩:=am.two;have a8:=r7 ap l n ak ah y K aq;have aW:aN<ab.heap.size:=l.lt;have cb:B<=ab.heap.size:=ad;clear ap l n am ak ah y K aq;clear bi
  try dsimp only[Exit.inBlock,Exit.then]
  go_wp2_with(at_builtin;refine bN nU rfl (.tmp 244) (.tmp 246) rfl a8.2.2.1.two a8.2.2.2.1 rfl rfl rfl ad ad cb ?_;intro cw bW cG bb az b5 cf;have du:=aL bb az b5;clear bb az b5 cf);refine⟨?_,by simp[CC,intOf];omega⟩;obtain⟨ap,l,n,ak,ah,y,K,aq⟩:=a8.o;obtain⟨bz,aE,bB⟩:=du.o;have aJ:∀b,(Value.slice aD Fp aH).ownBlock=some b->B<=b:=λb O=>(n.two.lt O).1;unfold pS;refine⟨Z,aM,au,cw,Fp+1,bW,N - 1,?_⟩
  iterate 241 apply Exists.intro
  refine⟨?_,rfl⟩;refine⟨aS,ls++(m++[st]),a0,ad,ap.fresh bD.1 aE (λb O=>by have:=aJ b O;omega),l.on aE (λO=>by have:=aJ _ O;omega),?_,ay.2.2.2.1.snoc ah y K ad,aq,aK⟩;have aG:(ls++(m++[st])).map a3=(ls++m).map a3++[a3 st]:=by simp
  rw[aG];exact(n.swap.grow bz aE bB).swap
theorem Fj(p:jW)(aN B:Nat)(ct bV:Value)(d:Nat)(ps:List (ByteArray×Bool))(V T:IQ)(aw:World)(aF:Nat)(bc:ByteArray)(QA:IP)(cc qc:Nat)(bR:Value)(i:fZ aw p aF)(k:Sl aw (off p.MW aw) QA cc (ps.map ch))(b2:aw.heap.size<=aN)(cj:aN<B)(bU:B<=aN+1)(bp:cc<=2)(bJ:d<=2)(I:lQ T aF)(Q:∀R,R<aF->Fm p R)(dG:Exit->Act->World->Prop)(hQ0:∀c a d v w,dG (.panic c) (a.put d v) w->dG (.panic c) a w)(x:∀r j,pS p aN B ct bV d ps V T aw aF bc QA cc qc bR r j->dG (.exit 0) r j)
  (av:IP) (bq ax:Nat) (bw:IP) (on bL:Nat) (N:Int) {gF o u8 gG eP ah u16 br cw eQ eR eS eT eU eW eX eY eZ e3 e4 e5 e6 u32 e7 e8 e9 fa fb fd fe ff fh fi fj fk fl fm fo fp fq fr fs ft fu fv fw fx fy fz fA fB fC fD fE u64 fF fG fH fI fJ fK fL fM fN fQ fR fS fT fU fV fW fX fY f3 f4 f5 f6 f7 f8 f9 ga gb gd ge gf gg gh gi gk gl H am aH aP aQ a7 ba be bf bi bm bu bC bM bO bQ bT bW bX b6 cn co cp cq cu cv cx cy cz cA cB cC cD cE cF cG cH cI cJ cL cM cN cO cP cQ cR cS cU cV cW cX cY cZ c4 c5 c7 c8 c9 da db dc dd de df dg dh di dj dk dl dm dn dp dr ds dt dv dw dx dy dB dC dD dE dF dH dI dJ dK dL dM dN dO dP dQ dR dT dU dV dX dY dZ d0 d1 d2 d3 d4 d5 d6 d7 d8 d9 ea eb ec ed ee ef eg eh ei ej ek el em en eo ep eq er es et eu ev ew ex ey ez eA eC eD eE eF eH eI eL eM eN eO ay ce:Value} (wr:World) (hI:Gw p aN B ct bV d ps V T aw aF bc QA cc qc bR av bq ax bw on bL N wr):Code.wp prog (Code.loop vp) dG ⟨#[.pointer (some ⟨p.wb,0,none⟩),ct,.slice av bq ax,.int .i64 (d:Int),bV,gF,.pointer (some ⟨aN,0,none⟩),o,u8,gG,eP,.slice bw on bL,.int .i64 N,ay,ce,ah,u16,br,cw,eQ,eR,eS,eT,eU,eW,eX,eY,eZ,e3,e4,e5,e6,u32,e7,e8,e9,fa,fb,fd,fe,ff,fh,fi,fj,fk,fl,fm,fo,fp,fq,fr,fs,ft,fu,fv,fw,fx,fy,fz,fA,fB,fC,fD,fE,u64,fF,fG,fH,fI,fJ,fK,fL,fM,fN,fQ,fR,fS,fT,fU,fV,fW,fX,fY,f3,f4,f5,f6,f7,f8,f9,ga,gb,gd,ge,gf,gg,gh,gi,gk,gl,H,am,aH,aP,aQ,a7,ba,be,bf,bi,bm,bu,bC,bM,bO,bQ,bT,bW,bX,b6,cn,co,cp,cq,cu,cv,cx,cy,cz,cA,cB,cC,cD,cE,cF,cG,cH,cI,cJ,cL,cM,cN,cO,cP,cQ,cR,cS,cU,cV,cW,cX,cY,cZ,c4,c5,c7,c8,c9,da,db,dc,dd,de,df,dg,dh,di,dj,dk,dl,dm,dn,dp,dr,ds,dt,dv,dw,dx,dy,dB,dC,dD,dE,dF,dH,dI,dJ,dK,dL,dM,dN,dO,dP,dQ,dR,dT,dU,dV,dX,dY,dZ,d0,d1,d2,d3,d4,d5,d6,d7,d8,d9,ea,eb,ec,ed,ee,ef,eg,eh,ei,ej,ek,el,em,en,eo,ep,eq,er,es,et,eu,ev,ew,ex,ey,ez,eA,eC,eD,eE,eF,eH,eI,eL,eM,eN,eO],[]⟩ wr:=by
 refine wp_loop (pS p aN B ct bV d ps V T aw aF bc QA cc qc bR) CC ?_ (λa j hI=>Dx p aN B ct bV d ps V T aw aF bc QA cc qc bR i k b2 cj bU bp bJ I Q dG hQ0 x a j hI);unfold pS
 iterate 248 apply Exists.intro
 exact⟨hI,rfl⟩
theorem m5{w:World}{P:Nat->Prop}:∀l:List ByteArray,D.aO w P (l.map D.s) (l.map Value.string)
 | []=>by simp only[Iy,D.aO]
 | x::l=>by simp only[Ie];exact b9.2 ⟨_,rfl,m5 l⟩
theorem wF{w:World}{P:Nat->Prop}:∀(l:IQ) (xs:List Value),D.aO w P (l.map D.s) xs->xs=l.map Value.string
 | [],xs,h=>by simpa only[Iy,D.aO] using h
 | x::l,xs,h=>by
  simp only[Ie] at h;obtain⟨y,rfl,J⟩:=b9.1 h;rw[Ie,wF l y J]
theorem ta{w:World}{A:IP}{n:Nat}{l:IQ}(h:Sl w P A n (l.map D.s)):Src w 1 A n (l.map Value.string):=by
 obtain⟨xs,aY,hs⟩:=h.src (z:=1) (λd hd=>by obtain⟨x,_,rfl⟩:=Iz.1 hd;rfl)
 rwa [wF l xs aY] at hs
theorem tp(p:jW)(aF:Nat)(Q:∀R,R<aF->Fm p R):Fm p aF:=by
 intro d most V T P bH a2 bc ps QA cc qc bR w hd m hw hN b0 I cq bp;obtain⟨s,wb,bu,bM,br,sl,GA,gn,gc,MA,mn,mc,FA,fn,fc,M,F,ar⟩:=p;have aZ:=hw.ne;have ck:=hw.src.lt;have fg:=hw.blk.lt;have eJ:V.length=bH:=by have:=hN.1;simpa using this
 simp only at aZ ck fg;have H:=cK hw hN cq I Q;clear hw hN cq I Q;go_enter func31,ntmps31;go_upto_region 2 with(fail);generalize ba:World.alloc _ _=W;have aw:=bm ba;have b5:=aU ba;have cE:W.heap.size=w.heap.size+1:=by rw[<-ba];simp
 have bg:Gr (λ_=>False) (w.heap.size+1) 9 1 (W.alloc (.cells #[] 9)) (some ⟨W.heap.size,0,none⟩) 0 0 []:=(Gr.lit (w:=W) (n:=0) (l:=[]) rfl (by rfl) ad (by simp only[D.aO])).base ad;rw[cE] at bg;have ao:Src (W.alloc (.cells #[] 9)) 1 P bH (V.map Value.string):=ta (Sl.dh H.2.1 ((aw.mono λ_ h=>h.elim).alloc _));have g:P=none->bH=0:=λh=>by subst h;exact Sl.none_ H.2.1
 have cb:w.heap.size+1<=(W.alloc (.cells #[] 9)).heap.size:=by simp;omega
 have ay:=ai aw b5;clear ba aw b5;go_upto_region 3 with(at_builtin;refine pJ j2 rfl (.tmp 17) (.tmp 18) rfl bg (m5 V) (by simpa using eJ) ao g rfl rfl ad ad cb ?_;intro cl c3 b4 f1 aq bA o;have b1:=ai f1 aq;clear f1 aq bA o);have aG:Ext W b4:=(IK.alloc _:Ext W (W.alloc (.cells #[] 9))).eA (b1.2.below (by simp) λk ap h=>by
  simp[Value.ownBlock] at h;omega)
 have dF:=H.1.aj (ay.1.trans aG);obtain⟨aI,aj,af⟩:=dF.blk.two;have bI:=aL dF aG b1.1;clear dF aG b1 bg ao g;go_wp2_with(fail);refine(aX b4 s bu bM br sl ((most:Int)+1) bI.1.src ad ad).mono ?_;rintro e eG ⟨cm,rfl,bK,b7,h,he⟩;have ag:Fr (λb=>b=s) w eG:=((ay.1.trans bI.2.1).mono λ_ h=>h.elim).trans he.fr;have i:=bI.1.next h he.fr;have z:=bI.2.2.dh he.fr λb O _=>⟨λh=>h,ad⟩
 simp only[It,IC] at z;have f:=(ay.2.aj bI.2.1).on he.fr ad;have a5:aF<=24:=H.1.ke;have c6:=ae (show Gw ⟨s,wb,bu,bM,br,sl,GA,gn,gc,MA,mn,mc,FA,fn,fc,M,F,ar⟩ w.heap.size (w.heap.size+1) (.agg #[.string bc,.slice QA cc qc,bR]) (.int .i64 (most:Int)) d ps V T w aF bc QA cc qc bR cl bH c3 none 0 0 cm eG from
  ⟨V,[],aF,ad,⟨i.src,i.blk,ag.mono λ_ h=>.inl h,a5⟩,f,⟨Gr.strs z,Gr.nil _ _ _ _ _,λb _ h=>by cases h⟩,Made.nil _ _ _ _ _,λx hx=>Ii.2 (.inl hx),b0⟩)
 clear h he ag i z f aI aj af bI;skip
 go_wp2_with(fail);refine Fj ⟨s,wb,bu,bM,br,sl,GA,gn,gc,MA,mn,mc,FA,fn,fc,M,F,ar⟩ w.heap.size (w.heap.size+1) (.agg #[.string bc,.slice QA cc qc,bR]) (.int .i64 (most:Int)) d ps V T w aF bc QA cc qc bR H.1 H.2.2.1 (Hx _) ad (Hx _) bp hd H.2.2.2.1 H.2.2.2.2 _ ?hQ ?hX cl bH c3 none 0 0 cm eG c6.o
 case hQ=>exact λ_ _ d _ _ h=>by cases d<;>exact h
 case hX=>
  intro r wf hI;unfold pS at hI;obtain⟨Z,aM,au,aD,Fp,aH,hI⟩:=hI
  iterate 242 obtain⟨_,hI⟩:=hI
  obtain⟨⟨a1,ls,L,_,hC,aB,bS,a6,hV,j⟩,rfl⟩:=hI;have bV:=aL hC bS a6;clear hC aB bS a6 hV j c6;go_wp2;go_ret;obtain⟨hC,bS,a6⟩:=bV.o;exact⟨ls,L,aD,Fp,aH,rfl,a6,bS.two.cap.1,bS.two.sl (λb O hp=>⟨by have:=hp.1;omega,O⟩) (λb O hp=>⟨ad,O⟩),hC.wr H.1,hC.fr⟩
theorem vq(p:jW):∀L,Fm p L:=λL=>by
 induction L using Nat.strongRecOn with
 | _ L aa=>exact tp p L aa
def jv(n:Nat):Code->Option Code
 | .seq a b=>match a with
  | .region k _ _=>if k=n then some (.seq a b) else jv n b
  | .seq x y=>match jv n (.seq x y) with
   | some c=>some c
   | none=>jv n b
  | _=>jv n b
 | _=>none
noncomputable def uI(n:Nat):Code:=match (Tryz.f16.body.bind (jv n)).getD .skip with
 | .seq a _=>a
 | c=>c
noncomputable def mZ(n:Nat):Code:=match (Tryz.f16.body.bind (jv n)).getD .skip with
 | .seq _ b=>b
 | _=>.skip
noncomputable def Em(n:Nat):Code:=(Tryz.f16.body.bind (jv n)).getD .skip
def jO(w:World)(e:Ending)(ab:World):Prop:=∃(p:bC) (GA:IP) (gn gc:Nat) (MA:IP) (mn mc:Nat) (FA:IP) (fn fc:Nat),e=.returned (.agg #[.slice GA gn gc,.slice MA mn mc,.slice FA fn fc])/\pH p/\gn<=gc/\mn<=mc/\fn<=fc/\
 Sl ab (fresh w ab) GA gn (p.globals.map hR)/\Sl ab (fresh w ab) MA mn (p.af.map er)/\Sl ab (fresh w ab) FA fn (p.funcs.map c8)/\Ext w ab
def mG(M:List bJ):Prop:=∀i m,M[i]?=some m->m.name=h1 i/\0<=m.size/\m.size<=3/\(m.re=true->m.size=0)
structure pO(S w:World)(A:IP)(n c:Nat)(l:List Int)(ar:Bool)(MA:IP)(mn mc:Nat)(M:List bJ):Prop where
 src:b1 w (S.heap.size+1) A n c l
 blk:an w (S.heap.size+1+1) 93 #[.pointer (some ⟨S.heap.size+1,0,none⟩),.slice none 0 0,.slice MA mn mc,.slice none 0 0,.int .i64 24,.bool ar]
 res:an w S.heap.size 27 #[.slice none 0 0,.slice none 0 0,.slice none 0 0]
 ms:Gr (λ_=>False) (S.heap.size+1+1+1) 97 3 w MA mn mc (M.map er)
 nm:mn<=4
 ok:mG M
 ext:Ext S w
section
variable {S w ab:World} {A:IP} {n c:Nat} {l:List Int} {ar:Bool} {MA:IP} {mn mc:Nat} {M:List bJ}
theorem pO.next(h:pO S w A n c l ar MA mn mc M)(hs:b1 ab (S.heap.size+1) A n c l)(O:Fr (λb=>b=S.heap.size+1) w ab):pO S ab A n c l ar MA mn mc M:=
 ⟨hs,h.blk.on O ad,h.res.on O ad,h.ms.dh O (λb O _=>⟨λh=>h,ad⟩),h.nm,h.ok,Fr.low (M:=λb=>b=S.heap.size+1) ((h.ext.mono λ_ h=>h.elim).trans O) λk ap=>ad⟩
theorem pO.aj(h:pO S w A n c l ar MA mn mc M)(O:Ext w ab):pO S ab A n c l ar MA mn mc M:=h.next (h.src.cz O λ_ _ h=>h) (O.mono λ_ h=>h.elim)
theorem pO.fresh(h:pO S w A n c l ar MA mn mc M){g:Nat}(aM:S.heap.size+1+1<g)(bu:(Value.slice MA mn mc).ownBlock≠some g)(O:Fr (λb=>b=g) w ab):pO S ab A n c l ar MA mn mc M:=
 ⟨h.src.cz O (λb O h=>ad),h.blk.on O ad,h.res.on O ad,h.ms.cU O.size (λb al hp=>O.block b al (hp.elim (λh=>h.elim) λhp j=>by subst j;exact bu hp)),h.nm,h.ok,Fr.low (M:=λb=>b=g) ((h.ext.mono λ_ h=>h.elim).trans O) λk ap=>ad⟩
theorem pO.add(h:pO S w A n c l ar MA mn mc M){et:IP}{eA:Nat}{m:bJ}(aM:Gr (λ_=>False) (S.heap.size+1+1+1) 97 3 ab et (mn+1) eA (M.map er++[er m]))(aA:Fr (λb=>(Value.slice MA mn mc).ownBlock=some b) w ab)
  (hn:mn+1<=4) (cc:mG (M++[m])):pO S (ab.setCell ⟨S.heap.size+1+1,2,none⟩ (.slice et (mn+1) eA)) A n c l ar et (mn+1) eA (M++[m]):=by
 have bu:∀b,(Value.slice MA mn mc).ownBlock=some b->S.heap.size+1+1+1<=b:=λb O=>(h.ms.lt O).1;have az:Fr (λb=>b=S.heap.size+1+1) ab (ab.setCell ⟨S.heap.size+1+1,2,none⟩ (.slice et (mn+1) eA)):=(Fr.refl (λb=>b=S.heap.size+1+1) ab).setCell (.inl rfl) _;refine⟨(h.src.cz aA λb O aG=>by have:=bu b aG;omega).cz az (λb O aG=>ad),(h.blk.on aA λaG=>by have:=bu _ aG;omega).aI 2 _,(h.res.on aA λaG=>by have:=bu _ aG;omega).on az ad,?_,hn,cc,
  Fr.low (M:=λb=>b=S.heap.size+1+1) ((Fr.low (M:=λb=>(Value.slice MA mn mc).ownBlock=some b) ((h.ext.mono λ_ h=>h.elim).trans aA) λk ap=>by have:=bu k ap;omega).mono (λ_ h=>h.elim) |>.trans az) λk ap=>ad⟩
 rw[Ig,Ie,Iy];exact aM.dh az (λb O _=>⟨λh=>h,ad⟩)
end
theorem mG.snoc{M:List bJ}(h:mG M)(ak:M.length=i){re:Bool}{sz:Int}(h0:0<=sz)(aR:sz<=3)(bc:re=true->sz=0):mG (M++[⟨h1 i,re,sz⟩]):=by
 intro k m hm;by_cases ap:k<M.length
 .rw[List.getElem?_append_left ap] at hm;exact h k m hm
 .rw[List.getElem?_append_right ad] at hm;have bM:k - M.length=0:=by
   exact tz
  rw[bM] at hm;simp at hm;subst hm;have:k=i:=ad;subst this;exact⟨rfl,h0,aR,bc⟩
def Cy(S:World)(gN:Value)(Q:Exit->Act->World->Prop)(K:Act->World->Prop):Prop:=∀(A:IP) (n c:Nat) (l:List Int) (ar:Bool) (MA:IP) (mn mc:Nat) (M:List bJ) {hp hq gF gL o u8 gG eP go gp ay ce ah u16 br cw eQ eR eS eT eU eW eX eY eZ e3 e4 e5 e6 u32 e7 e8 e9 fa fb fd fe ff fh fi fj fk fl fm fo fp fq fr fs ft fu fv fw fx fy fz fA fB fC fD fE u64 fF fG fH fI fJ fK fL fM fN fQ fR fS fT fU fV fW fX fY f3 f4 f5 f6 f7 f8 f9 ga gb gd ge gf gg gh gi gk gl H am aH aP aQ a7 ba be bf bi bm bu bC bM bO bQ bT bW bX b6 cn co cp cq cu cv cx cy cz cA cB cC cD cE cF cG cH cI cJ cL cM cN cO cP cQ cR cS cU cV cW cX cY cZ c4 c5 c7 c8 c9 da db dc dd de df dg dh di dj dk dl dm dn dp dr ds dt dv dw dx dy dB dC dD dE dF dH dI dJ dK dL dM dN dO dP dQ dR dT dU dV dX dY dZ d0 d1 d2 d3 d4 d5 d6 d7 d8 d9 ea eb ec ed ee ef eg eh ei ej ek el em en eo ep eq er es et eu ev ew ex ey ez eA eC eD eE eF eH eI eL eM eN eO bp gr gs gt gu gv gw gx gy gz gA gB gC gD gE:Value} (w:World),1<=mn->pO S w A n c l ar MA mn mc M->
 Code.wp prog (uI 13) (Exit.then K Q) ⟨#[gN,hp,.pointer (some ⟨S.heap.size,0,none⟩),.pointer (some ⟨S.heap.size+1+1,0,none⟩),hq,gF,gL,o,u8,gG,eP,go,gp,ay,ce,ah,u16,br,cw,eQ,eR,eS,eT,eU,eW,eX,eY,eZ,e3,e4,e5,e6,u32,e7,e8,e9,fa,fb,fd,fe,ff,fh,fi,fj,fk,fl,fm,fo,fp,fq,fr,fs,ft,fu,fv,fw,fx,fy,fz,fA,fB,fC,fD,fE,u64,fF,fG,fH,fI,fJ,fK,fL,fM,fN,fQ,fR,fS,fT,fU,fV,fW,fX,fY,f3,f4,f5,f6,f7,f8,f9,ga,gb,gd,ge,gf,gg,gh,gi,gk,gl,H,am,aH,aP,aQ,a7,ba,be,bf,bi,bm,bu,bC,bM,bO,bQ,bT,bW,bX,b6,cn,co,cp,cq,cu,cv,cx,cy,cz,cA,cB,cC,cD,cE,cF,cG,cH,cI,cJ,cL,cM,cN,cO,cP,cQ,cR,cS,cU,cV,cW,cX,cY,cZ,c4,c5,c7,c8,c9,da,db,dc,dd,de,df,dg,dh,di,dj,dk,dl,dm,dn,dp,dr,ds,dt,dv,dw,dx,dy,dB,dC,dD,dE,dF,dH,dI,dJ,dK,dL,dM,dN,dO,dP,dQ,dR,dT,dU,dV,dX,dY,dZ,d0,d1,d2,d3,d4,d5,d6,d7,d8,d9,ea,eb,ec,ed,ee,ef,eg,eh,ei,ej,ek,el,em,en,eo,ep,eq,er,es,et,eu,ev,ew,ex,ey,ez,eA,eC,eD,eE,eF,eH,eI,eL,eM,eN,eO,bp,gr,gs,gt,gu,gv,gw,gx,gy,gz,gA,gB,gC,gD,gE],[]⟩ w
theorem cJ.Gg{α:Type}{f:α->List Value}{sz:Nat}{w:World}{B n m:Nat}{A:IP}{l:List α}(h:cJ (EF f) sz w B A n l)(hm:m<=n):cJ (EF f) sz w B A m (l.take m):=by
 refine⟨by have:=h.1;simp;omega,λh0=>?_⟩;obtain⟨b,o,bj,O,hc⟩:=h.2 ad;exact⟨b,o,bj,O,λk x hx=>hc k x ((List.getElem?_take_of_lt (i:=k) (by have:=(List.getElem?_eq_some_iff.1 hx).1;simp at this;omega)).symm.trans hx)⟩
theorem AQ(m:Nat)(A:IP)(n c:Nat)(l:List Int)(w:World)(hm:m<=1000)(h:cJ (EF cD) 1 w w.heap.size A n l)(hc:n<=c) :
  Calls prog 29 #[.slice A n c,.int .i64 (m:Int)] w λe ab=>(∃aE a0 L,e=.returned (.slice aE a0 L)/\a0<=m/\∃ax,cJ (EF cD) 1 w w.heap.size aE a0 ax)/\w=ab:=by
 have H:=ae h;by_cases hn:n<=m
 .have q:decide ((n:Int) > (m:Int))=false:=by simp;omega
  clear h;go_enter func29,ntmps29;go_wp2;go_ret;exact⟨⟨A,n,c,rfl,hn,l,H.o⟩,rfl⟩
 .obtain⟨b,o,rfl,O⟩:=h.some_ ad;have q:decide ((n:Int) > (m:Int))=true:=by simp;omega
  have bq:(0:Int)<=(m:Int):=ad;have cl:(m:Int)<=(c:Int):=ad;clear h;go_enter func29,ntmps29;go_wp2;go_ret;exact⟨⟨_,m,_,rfl,Hx _,_,H.Gg ad⟩,rfl⟩
theorem By(ak:i<4):strOf [byteOf (97+(i:Int))]=h1 i:=by
 have h:∀k:Fin 4,strOf [byteOf (97+((k.val:Nat):Int))]=h1 k.val:=by decide
 exact h ⟨i,ak⟩
theorem tP:b2 prog 23 100 (.agg #[.string ⟨#[]⟩,.int .i64 0]) 2 24:=b2.mk' Tryz.underlying23 (by kernel_rfl) rfl ad
def qO(G:List (ByteArray×Int)):Prop:=∀i g,G[i]?=some g->g.1=dz i∧-2<=g.2/\g.2<=2
theorem qO.snoc{G:List (ByteArray×Int)}(h:qO G)(ak:G.length=i){v:Int}(h0:-2<=v)(aR:v<=2):qO (G++[(dz i,v)]):=by
 intro k m hm;by_cases ap:k<G.length
 .rw[List.getElem?_append_left ap] at hm;exact h k m hm
 .rw[List.getElem?_append_right ad] at hm;have bM:k - G.length=0:=by
   exact tz
  rw[bM] at hm;simp at hm;subst hm;have:k=i:=ad;subst this;exact⟨rfl,h0,aR⟩
structure vy(S:World)(u:Nat)(w:World)(A:IP)(n c:Nat)(l:List Int)(ar:Bool)(MA:IP)(mn mc:Nat)(M:List bJ)(GA:IP)(gn gc:Nat)(G:List (ByteArray×Int))(av:IP)(ax:Nat):Prop where
 src:b1 w (S.heap.size+1) A n c l
 blk:an w (S.heap.size+1+1) 93 #[.pointer (some ⟨S.heap.size+1,0,none⟩),.slice GA gn gc,.slice MA mn mc,.slice none 0 0,.int .i64 24,.bool ar]
 res:an w S.heap.size 27 #[.slice none 0 0,.slice none 0 0,.slice none 0 0]
 ms:Sl w (λb=>S.heap.size+1+1+1<=b/\b<u) MA mn (M.map er)
 mc:mn<=mc
 rows:kV u 100 2 9 1 w GA gn gc (G.map hR) av gn ax ((G.map (·.1)).map D.s)
 nm:1<=mn/\mn<=4
 ok:mG M
 ng:gn<=2
 xQ:qO G
 ext:Ext S w
 hD:S.heap.size+1+1+1<=u/\u<=w.heap.size
section
variable {S w ab:World} {u:Nat} {A:IP} {n c:Nat} {l:List Int} {ar:Bool} {MA:IP} {mn mc:Nat} {M:List bJ} {GA:IP} {gn gc:Nat} {G:List (ByteArray×Int)} {av:IP} {ax:Nat}
theorem pO.GO(h:pO S w A n c l ar MA mn mc M)(ac:1<=mn):vy S w.heap.size w A n c l ar MA mn mc M none 0 0 [] none 0:=
 ⟨h.src,h.blk,h.res,h.ms.sl (λ_ _ h=>h.elim) (λb O aS=>⟨aS,O⟩),h.ms.cap.1,kV.nil _ _ _ _ _ _,⟨ac,h.nm⟩,h.ok,ad,(λi g h=>by cases h),h.ext,by have:=h.blk.lt;omega,Hx _⟩
theorem vy.next(h:vy S u w A n c l ar MA mn mc M GA gn gc G av ax)(hs:b1 ab (S.heap.size+1) A n c l)(O:Fr (λb=>b=S.heap.size+1) w ab):vy S u ab A n c l ar MA mn mc M GA gn gc G av ax:=by
 have hD:=h.hD;exact⟨hs,h.blk.on O ad,h.res.on O ad,h.ms.al λb hp=>O.block b (aC hp.2) (aC hp.1),h.mc,h.rows.dh O (λb O _=>ad),h.nm,h.ok,h.ng,h.xQ,Fr.low (M:=λb=>b=S.heap.size+1) ((h.ext.mono λ_ h=>h.elim).trans O) λk ap=>ad,hD.1,by have:=O.size;omega⟩
theorem vy.aj(h:vy S u w A n c l ar MA mn mc M GA gn gc G av ax)(O:Ext w ab):vy S u ab A n c l ar MA mn mc M GA gn gc G av ax:=h.next (h.src.cz O λ_ _ h=>h) (O.mono λ_ h=>h.elim)
theorem vy.add(h:vy S u w A n c l ar MA mn mc M GA gn gc G av ax){a4 Z:IP}{aW au:Nat}{g:ByteArray×Int}(aY:kV u 100 2 9 1 ab a4 (gn+1) aW ((G++[g]).map hR) Z (gn+1) au (((G++[g]).map (·.1)).map D.s))
  (aA:Fr (λb=>(Value.slice GA gn gc).ownBlock=some b\/(Value.slice av gn ax).ownBlock=some b) w ab) (hn:gn+1<=2) (cc:qO (G++[g])) :
  vy S u (ab.setCell ⟨S.heap.size+1+1,1,none⟩ (.slice a4 (gn+1) aW)) A n c l ar MA mn mc M a4 (gn+1) aW (G++[g]) Z au:=by
 have hD:=h.hD;have bu:∀b,((Value.slice GA gn gc).ownBlock=some b\/(Value.slice av gn ax).ownBlock=some b)->u<=b:=λb O=>by
  rcases O with O|O
  .exact(h.rows.one.lt O).1
  .exact(h.rows.two.lt O).1
 have az:Fr (λb=>b=S.heap.size+1+1) ab (ab.setCell ⟨S.heap.size+1+1,1,none⟩ (.slice a4 (gn+1) aW)):=(Fr.refl (λb=>b=S.heap.size+1+1) ab).setCell (.inl rfl) _;have hs:=aA.size;have bz:=az.size;refine⟨(h.src.cz aA λb O aG=>by have:=bu b aG;omega).cz az (λb O aG=>ad),(h.blk.on aA λaG=>by have:=bu _ aG;omega).aI 1 _,(h.res.on aA λaG=>by have:=bu _ aG;omega).on az ad,
  h.ms.al λb hp=>(az.block b (aC hp.2) (aC hp.1)).trans (aA.block b (aC hp.2) λaG=>by have:=bu b aG;have:=hp.2;omega),h.mc,aY.dh az (λb O _=>ad),h.nm,h.ok,hn,cc,?_,hD.1,ad⟩
 have ac:Ext S ab:=Fr.low (M:=λb=>(Value.slice GA gn gc).ownBlock=some b\/(Value.slice av gn ax).ownBlock=some b) ((h.ext.mono λ_ h=>h.elim).trans aA) λk ap=>by have:=bu k ap;omega
 exact x3
end
def Cz(S:World)(gN:Value)(Q:Exit->Act->World->Prop)(K:Act->World->Prop):Prop:=∀(u:Nat) (A:IP) (n c:Nat) (l:List Int) (ar:Bool) (MA:IP) (mn mc:Nat) (M:List bJ) (GA:IP) (gn gc:Nat) (G:List (ByteArray×Int)) (av:IP) (ax:Nat) {hp hq gF gL u8 gG eP go gp ay ce ah u16 br cw eQ eR eS eT eU eW eX eY eZ e3 e4 e5 e6 u32 e7 e8 e9 fa fb fd fe ff fh fi fj fk fl fm fo fp fq fr fs ft fu fv fw fx fy fz fA fB fC fD fE u64 fF fG fH fI fJ fK fL fM fN fQ fR fS fT fU fV fW fX fY f3 f4 f5 f6 f7 f8 f9 ga gb gd ge gf gg gh gi gk gl H am aH aP aQ a7 ba be bf bi bm bu bC bM bO bQ bT bW bX b6 cn co cp cq cu cv cx cy cz cA cB cC cD cE cF cG cH cI cJ cL cM cN cO cP cQ cR cS cU cV cW cX cY cZ c4 c5 c7 c8 c9 da db dc dd de df dg dh di dj dk dl dm dn dp dr ds dt dv dw dx dy dB dC dD dE dF dH dI dJ dK dL dM dN dO dP dQ dR dT dU dV dX dY dZ d0 d1 d2 d3 d4 d5 d6 d7 d8 d9 ea eb ec ed ee ef eg eh ei ej ek el em en eo ep eq er es et eu ev ew ex ey ez eA eC eD eE eF eH eI eL eM eN eO bp gr gs gt gu gv gw gx gy gz gA gB gC gD gE:Value} (w:World),vy S u w A n c l ar MA mn mc M GA gn gc G av ax->
 Code.wp prog (uI 19) (Exit.then K Q) ⟨#[gN,hp,.pointer (some ⟨S.heap.size,0,none⟩),.pointer (some ⟨S.heap.size+1+1,0,none⟩),hq,gF,gL,.slice av gn ax,u8,gG,eP,go,gp,ay,ce,ah,u16,br,cw,eQ,eR,eS,eT,eU,eW,eX,eY,eZ,e3,e4,e5,e6,u32,e7,e8,e9,fa,fb,fd,fe,ff,fh,fi,fj,fk,fl,fm,fo,fp,fq,fr,fs,ft,fu,fv,fw,fx,fy,fz,fA,fB,fC,fD,fE,u64,fF,fG,fH,fI,fJ,fK,fL,fM,fN,fQ,fR,fS,fT,fU,fV,fW,fX,fY,f3,f4,f5,f6,f7,f8,f9,ga,gb,gd,ge,gf,gg,gh,gi,gk,gl,H,am,aH,aP,aQ,a7,ba,be,bf,bi,bm,bu,bC,bM,bO,bQ,bT,bW,bX,b6,cn,co,cp,cq,cu,cv,cx,cy,cz,cA,cB,cC,cD,cE,cF,cG,cH,cI,cJ,cL,cM,cN,cO,cP,cQ,cR,cS,cU,cV,cW,cX,cY,cZ,c4,c5,c7,c8,c9,da,db,dc,dd,de,df,dg,dh,di,dj,dk,dl,dm,dn,dp,dr,ds,dt,dv,dw,dx,dy,dB,dC,dD,dE,dF,dH,dI,dJ,dK,dL,dM,dN,dO,dP,dQ,dR,dT,dU,dV,dX,dY,dZ,d0,d1,d2,d3,d4,d5,d6,d7,d8,d9,ea,eb,ec,ed,ee,ef,eg,eh,ei,ej,ek,el,em,en,eo,ep,eq,er,es,et,eu,ev,ew,ex,ey,ez,eA,eC,eD,eE,eF,eH,eI,eL,eM,eN,eO,bp,gr,gs,gt,gu,gv,gw,gx,gy,gz,gA,gB,gC,gD,gE],[]⟩ w
theorem rC{w:World}{x:ByteArray×Int}{cs:List Value}:(hR x).rep w P cs↔cs=[.string x.1,.int .i64 x.2]:=by
 unfold hR;rw[bw,b9];exact Ax
theorem pG{P:Program}{ops:Array Oper}{Q:Exit->Act->World->Prop}{R:World->World->Prop}{tails:List Nat}{j k:Nat}{f:Nat->PT}{a:Act}{w:World}(h:nK P ops Q R tails i (f i) a w)(J:nK P ops Q R tails j (f j) a w)(aR:nK P ops Q R tails k (f k) a w):di P ops Q R tails (.pick [i,j,k] f) a w:=λm hm=>by
 simp only[Iq,List.not_mem_nil,or_false] at hm;rcases hm with rfl|rfl|rfl
 .exact h
 .exact J
 .exact aR
theorem Bd(ak:i<3)(O:IntKind.u8.wrap (IntKind.i64.wrap (48+(i:Int)))=bv):(⟨#[103]⟩++strOf [byteOf bv]:ByteArray)=dz i:=by
 subst O;have h:∀k:Fin 3,(⟨#[103]⟩++strOf [byteOf (IntKind.u8.wrap (IntKind.i64.wrap (48+((k.val:Nat):Int))))]:ByteArray)=dz k.val:=by decide
 exact h ⟨i,ak⟩
theorem eV(V:World)(g:Nat)(v1:Int)(h0:V.cell? ⟨g,0,none⟩=some (.int .u8 v1)) :
  (convert 95 9 (.slice (some ⟨g,0,none⟩) 1 1)).run prog V=.ok (.string (strOf [byteOf v1])) V:=by
 have:=run_convert_bytes_arg (P:=prog) V 95 5 Tryz.underlying95 Tryz.underlying5 g 0 1 1 [v1] rfl (λi ak=>by
  obtain rfl:i=0:=ad;exact h0) 9 Tryz.underlying9
 rw[this];rfl
theorem EH:b2 prog 25 104 (.agg #[.string ⟨#[]⟩,.slice none 0 0,.slice none 0 0]) 3 64:=b2.mk' Tryz.underlying25 (by kernel_rfl) rfl ad
theorem AG:b2 prog 101 106 (.agg #[.string ⟨#[]⟩,.bool false]) 2 24:=b2.mk' Tryz.underlying101 (by kernel_rfl) rfl ad
def pR(F:List aE):Prop:=∀i f,F[i]?=some f->f.name=iU i/\(∃n,n<=2/\f.params.map (·.1)=eG n)/\(i=0->f.params=[])/\f.body=.nil
theorem pR.snoc{F:List aE}(h:pR F)(ak:F.length=i){n:Nat}(hn:n<=2)(hp:ps.map (·.1)=eG n)(h0:i=0->ps=[]):pR (F++[⟨iU i,ps,.nil⟩]):=by
 intro k m hm;by_cases ap:k<F.length
 .rw[List.getElem?_append_left ap] at hm;exact h k m hm
 .rw[List.getElem?_append_right ad] at hm;have bM:k - F.length=0:=by
   exact tz
  rw[bM] at hm;simp at hm;subst hm;have:k=i:=ad;subst this;exact⟨rfl,⟨n,hn,hp⟩,h0,rfl⟩
theorem Dj{w:World}{nm:ByteArray}{PA:IP}{pn pc:Nat}(hc:pn<=pc)(h:Sl w P PA pn (ps.map ch)):(c8 ⟨nm,ps,.nil⟩).rep w P [.string nm,.slice PA pn pc,.slice none 0 0]:=by
 unfold c8;rw[bw];exact b9.2 ⟨_,rfl,aA.2 ⟨PA,pn,pc,_,rfl,hc,h,aA.2 ⟨none,0,0,[],rfl,Hx _,Sl.bH _,aM.2 rfl⟩⟩⟩
structure xV(S:World)(u:Nat)(w:World)(A:IP)(n c:Nat)(l:List Int)(ar:Bool)(MA:IP)(mn mc:Nat)(M:List bJ)(GA:IP)(gn gc:Nat)(G:List (ByteArray×Int))(av:IP)(ax:Nat)(FA:IP)(fn fc:Nat)(F:List aE):Prop where
 src:b1 w (S.heap.size+1) A n c l
 blk:an w (S.heap.size+1+1) 93 #[.pointer (some ⟨S.heap.size+1,0,none⟩),.slice GA gn gc,.slice MA mn mc,.slice FA fn fc,.int .i64 24,.bool ar]
 res:an w S.heap.size 27 #[.slice none 0 0,.slice none 0 0,.slice none 0 0]
 ms:Sl w (λb=>S.heap.size+1+1+1<=b/\b<u) MA mn (M.map er)
 gs:Sl w (λb=>S.heap.size+1+1+1<=b/\b<u) GA gn (G.map hR)
 vs:Sl w (λb=>S.heap.size+1+1+1<=b/\b<u) av gn ((G.map (·.1)).map D.s)
 fs:Gr (λb=>u<=b) u 104 3 w FA fn fc (F.map c8)
 mc:mn<=mc
 gc:gn<=gc
 nm:1<=mn/\mn<=4
 ok:mG M
 ng:gn<=2
 xQ:qO G
 nf:fn<=4
 GI:pR F
 ext:Ext S w
 hD:S.heap.size+1+1+1<=u/\u<=w.heap.size
section
variable {S w ab:World} {u io:Nat} {A:IP} {n c:Nat} {l:List Int} {ar:Bool} {MA:IP} {mn mc:Nat} {M:List bJ} {GA:IP} {gn gc:Nat} {G:List (ByteArray×Int)} {av:IP} {ax:Nat} {FA:IP} {fn fc:Nat} {F:List aE}
theorem vy.GP(h:vy S io w A n c l ar MA mn mc M GA gn gc G av ax):xV S w.heap.size w A n c l ar MA mn mc M GA gn gc G av ax none 0 0 []:=by
 have hD:=h.hD;exact⟨h.src,h.blk,h.res,h.ms.mono λb hp=>⟨hp.1,by have:=hp.2;omega⟩,h.rows.one.sl (λb O hp=>⟨by have:=hp.1;omega,O⟩) (λb O aS=>⟨ad,O⟩),h.rows.two.sl (λb O hp=>⟨by have:=hp.1;omega,O⟩) (λb O aS=>⟨ad,O⟩),Gr.nil _ _ _ _ _,h.mc,h.rows.one.cap.1,h.nm,h.ok,h.ng,h.xQ,ad,(λi f h=>by cases h),h.ext,ad,Hx _⟩
theorem xV.next(h:xV S u w A n c l ar MA mn mc M GA gn gc G av ax FA fn fc F)(hs:b1 ab (S.heap.size+1) A n c l)(O:Fr (λb=>b=S.heap.size+1) w ab):xV S u ab A n c l ar MA mn mc M GA gn gc G av ax FA fn fc F:=by
 have hD:=h.hD;have ap:∀b,(S.heap.size+1+1+1<=b/\b<u)->ab.heap[b]?=w.heap[b]?:=λb hp=>O.block b (aC hp.2) (aC hp.1);exact⟨hs,h.blk.on O ad,h.res.on O ad,h.ms.al ap,h.gs.al ap,h.vs.al ap,h.fs.dh O (λb O _=>⟨ad,ad⟩),h.mc,h.gc,h.nm,h.ok,h.ng,h.xQ,h.nf,h.GI,Fr.low (M:=λb=>b=S.heap.size+1) ((h.ext.mono λ_ h=>h.elim).trans O) λk ap=>ad,hD.1,by have:=O.size;omega⟩
theorem xV.add(h:xV S u w A n c l ar MA mn mc M GA gn gc G av ax FA fn fc F){cW:IP}{cI:Nat}{f:aE}(aM:Gr (λb=>u<=b) u 104 3 ab cW (fn+1) cI (F.map c8++[c8 f]))(aA:Fr (λb=>(Value.slice FA fn fc).ownBlock=some b) w ab)
  (hn:fn+1<=4) (cc:pR (F++[f])):xV S u (ab.setCell ⟨S.heap.size+1+1,3,none⟩ (.slice cW (fn+1) cI)) A n c l ar MA mn mc M GA gn gc G av ax cW (fn+1) cI (F++[f]):=by
 have hD:=h.hD;have bu:∀b,(Value.slice FA fn fc).ownBlock=some b->u<=b:=λb O=>(h.fs.lt O).1;have az:Fr (λb=>b=S.heap.size+1+1) ab (ab.setCell ⟨S.heap.size+1+1,3,none⟩ (.slice cW (fn+1) cI)):=(Fr.refl (λb=>b=S.heap.size+1+1) ab).setCell (.inl rfl) _;have hs:=aA.size;have bz:=az.size;have ap:∀b,(S.heap.size+1+1+1<=b/\b<u)->(ab.setCell ⟨S.heap.size+1+1,3,none⟩ (.slice cW (fn+1) cI)).heap[b]?=w.heap[b]?:=λb hp=>(az.block b (aC hp.2) (aC hp.1)).trans (aA.block b (aC hp.2) λaG=>by have:=bu b aG;have:=hp.2;omega);refine⟨(h.src.cz aA λb O aG=>by have:=bu b aG;omega).cz az (λb O aG=>ad),(h.blk.on aA λaG=>by have:=bu _ aG;omega).aI 3 _,(h.res.on aA λaG=>by have:=bu _ aG;omega).on az ad,h.ms.al ap,h.gs.al ap,h.vs.al ap,?_,h.mc,h.gc,h.nm,h.ok,h.ng,h.xQ,hn,cc,?_,hD.1,ad⟩
 .rw[Ig,Ie,Iy];exact aM.dh az (λb O _=>⟨ad,ad⟩)
 .have ac:Ext S ab:=Fr.low (M:=λb=>(Value.slice FA fn fc).ownBlock=some b) ((h.ext.mono λ_ h=>h.elim).trans aA) λk ap=>by have:=bu k ap;omega
  exact x3
end
def CA(S:World)(gN:Value)(Q:Exit->Act->World->Prop)(K:Act->World->Prop):Prop:=∀(u:Nat) (A:IP) (n c:Nat) (l:List Int) (ar:Bool) (MA:IP) (mn mc:Nat) (M:List bJ) (GA:IP) (gn gc:Nat) (G:List (ByteArray×Int)) (av:IP) (ax:Nat) (FA:IP) (fn fc:Nat) (F:List aE) {hp hq gF gL u8 gG eP go gp ay ce ah u16 br cw eQ eR eS eT eU eW eX eY eZ e3 e4 e5 e6 u32 e7 e8 e9 fa fb fd fe ff fh fi fj fk fl fm fo fp fq fr fs ft fu fv fw fx fy fz fA fB fC fD fE u64 fF fG fH fI fJ fK fL fM fN fQ fR fS fT fU fV fW fX fY f3 f4 f5 f6 f7 f8 f9 ga gb gd ge gf gg gh gi gk gl H am aH aP aQ a7 ba be bf bi bm bu bC bM bO bQ bT bW bX b6 cn co cp cq cu cv cx cy cz cA cB cC cD cE cF cG cH cI cJ cL cM cN cO cP cQ cR cS cU cV cW cX cY cZ c4 c5 c7 c8 c9 da db dc dd de df dg dh di dj dk dl dm dn dp dr ds dt dv dw dx dy dB dC dD dE dF dH dI dJ dK dL dM dN dO dP dQ dR dT dU dV dX dY dZ d0 d1 d2 d3 d4 d5 d6 d7 d8 d9 ea eb ec ed ee ef eg eh ei ej ek el em en eo ep eq er es et eu ev ew ex ey ez eA eC eD eE eF eH eI eL eM eN eO bp gr gs gt gu gv gw gx gy gz gA gB gC gD gE:Value} (w:World),1<=fn->xV S u w A n c l ar MA mn mc M GA gn gc G av ax FA fn fc F->
 Code.wp prog (uI 32) (Exit.then K Q) ⟨#[gN,hp,.pointer (some ⟨S.heap.size,0,none⟩),.pointer (some ⟨S.heap.size+1+1,0,none⟩),hq,gF,gL,.slice av gn ax,u8,gG,eP,go,gp,ay,ce,ah,u16,br,cw,eQ,eR,eS,eT,eU,eW,eX,eY,eZ,e3,e4,e5,e6,u32,e7,e8,e9,fa,fb,fd,fe,ff,fh,fi,fj,fk,fl,fm,fo,fp,fq,fr,fs,ft,fu,fv,fw,fx,fy,fz,fA,fB,fC,fD,fE,u64,fF,fG,fH,fI,fJ,fK,fL,fM,fN,fQ,fR,fS,fT,fU,fV,fW,fX,fY,f3,f4,f5,f6,f7,f8,f9,ga,gb,gd,ge,gf,gg,gh,gi,gk,gl,H,am,aH,aP,aQ,a7,ba,be,bf,bi,bm,bu,bC,bM,bO,bQ,bT,bW,bX,b6,cn,co,cp,cq,cu,cv,cx,cy,cz,cA,cB,cC,cD,cE,cF,cG,cH,cI,cJ,cL,cM,cN,cO,cP,cQ,cR,cS,cU,cV,cW,cX,cY,cZ,c4,c5,c7,c8,c9,da,db,dc,dd,de,df,dg,dh,di,dj,dk,dl,dm,dn,dp,dr,ds,dt,dv,dw,dx,dy,dB,dC,dD,dE,dF,dH,dI,dJ,dK,dL,dM,dN,dO,dP,dQ,dR,dT,dU,dV,dX,dY,dZ,d0,d1,d2,d3,d4,d5,d6,d7,d8,d9,ea,eb,ec,ed,ee,ef,eg,eh,ei,ej,ek,el,em,en,eo,ep,eq,er,es,et,eu,ev,ew,ex,ey,ez,eA,eC,eD,eE,eF,eH,eI,eL,eM,eN,eO,bp,gr,gs,gt,gu,gv,gw,gx,gy,gz,gA,gB,gC,gD,gE],[]⟩ w
theorem A5(ak:i<4)(h0:i≠0)(O:bv=48+(i:Int)):(⟨#[102]⟩++strOf [byteOf bv]:ByteArray)=iU i:=by
 subst O;have h:∀k:Fin 4,k.val≠0->(⟨#[102]⟩++strOf [byteOf (48+((k.val:Nat):Int))]:ByteArray)=iU k.val:=by decide
 exact h ⟨i,ak⟩ h0
theorem BI(ak:i<3)(O:IntKind.u8.wrap (IntKind.i64.wrap (48+(i:Int)))=bv):(⟨#[112]⟩++strOf [byteOf bv]:ByteArray)=sL i:=by
 subst O;have h:∀k:Fin 3,(⟨#[112]⟩++strOf [byteOf (IntKind.u8.wrap (IntKind.i64.wrap (48+((k.val:Nat):Int))))]:ByteArray)=sL k.val:=by decide
 exact h ⟨i,ak⟩
end Go.Proofs.YtajlmkkidmjgoaaGreatDoor

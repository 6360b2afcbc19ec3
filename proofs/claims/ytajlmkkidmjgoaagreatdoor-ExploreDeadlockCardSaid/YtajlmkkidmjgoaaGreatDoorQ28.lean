/- Part 28 of the proof. No condition of its own. -/
import Derived.Test.YtajlmkkidmjgoaaGreatDoorQ12
import Derived.Test.YtajlmkkidmjgoaaGreatDoorQ20
import Derived.Test.YtajlmkkidmjgoaaGreatDoorQ22
namespace Go.Proofs.YtajlmkkidmjgoaaGreatDoor
open Go.RowKit Go.Proofs.Tryz
set_option maxRecDepth 1000000
set_option maxHeartbeats 25600000
set_option linter.unusedVariables false
variable{B L bL cg n on:Nat}{M P:Nat->Prop}{p:Prop}{S V ab w:World}{r:eC}
theorem q0:b2 prog 151 195 (.agg #[.bool false,.string ⟨#[]⟩,.slice none 0 0,.int .i64 0,.int .i64 0,.string ⟨#[]⟩,.slice none 0 0]) 7 104:=b2.mk' Tryz.underlying151 (by kernel_rfl) rfl ad
theorem wx{IA:IP}{i ic:Nat}(h:Sl w P IA i (r.idx.toList.map a7))(hc:i<=ic):(ep (.mx r)).rep w P [.bool true,.string r.name,.slice IA i ic,.int .i64 0,.int .i64 0,.string ⟨#[]⟩,.slice none 0 0]:=by
 unfold ep;rw[bw];exact eS.2 ⟨_,rfl,gy.2 ⟨[.string r.name,.slice IA i ic],_,rfl,iT.2 ⟨IA,i,ic,rfl,hc,h⟩,D.bo.2 (eP.2 ⟨none,0,rfl⟩)⟩⟩
theorem Di{x:VE}{cy:IP}{cp cD:Nat}(h:Sl w P cy cp (x.args.map a7))(hc:cp<=cD):(ep (.ex x)).rep w P [.bool false,.string ⟨#[]⟩,.slice none 0 0,.int .i64 x.aZ,.int .i64 x.numOf,.string x.bg,.slice cy cp cD]:=by
 unfold ep;rw[bw];refine eS.2 ⟨_,rfl,gy.2 ⟨[.string ⟨#[]⟩,.slice none 0 0],_,rfl,?_,D.bo.2 (aW.2 ⟨cy,cp,cD,rfl,hc,h⟩)⟩⟩;exact Ea
theorem na{G:Env}{V:IQ}{q:ByteArray×Bool}{a:cW}:∀(ps:List (ByteArray×Bool)) (aJ:List cW),h9 G V ps aJ->Gq G V q a->h9 G V (ps++[q]) (aJ++[a])
 | [],[],_,h=>⟨h,trivial⟩
 | _::ps,_::aJ,h,J=>⟨h.1,na ps aJ h.2 J⟩
 | [],_::_,h,_=>h.elim
 | _::_,[],h,_=>h.elim
def Fu(w:World)(p:jW)(V:IQ)(ps gs:List (ByteArray×Bool))(e:Ending)(ab:World):Prop:=
 ∃(aJ:List cW) (KA:IP) (k kc:Nat),e=.returned (.slice KA k kc)/\(∀fs,h9 ⟨p.M,ps,fs⟩ V gs aJ)/\k<=kc/\Sl ab (fresh w ab) KA k (aJ.map ep)/\b1 ab p.s p.A p.n p.c p.l/\Fr (λb=>b=p.s) w ab
theorem xL(p:jW)(left:Nat)(V:IQ)(P:IP)(bH a2:Nat)(bc:ByteArray)(ps:List (ByteArray×Bool))(QA:IP)(cc qc:Nat)(bR:Value)(m:ByteArray)(gs:List (ByteArray×Bool))(bE:IP)(bM br:Nat)(u:Value)(w:World)(h:fZ w p left)(hN:mH w p.s V P bH)(L:bH<=1000)
  (cq:Sl w (off (λb=>b=p.s) w) QA cc (ps.map ch)) (bp:cc<=2) (bY:Sl w (off (λb=>b=p.s) w) bE bM (gs.map ch)) (aE:bM<=2) :
  Calls prog 49 #[.pointer (some ⟨p.wb,0,none⟩),.agg #[.string bc,.slice QA cc qc,bR],.agg #[.string m,.slice bE bM br,u],.slice P bH a2] w (Fu w p V ps gs):=by
 obtain⟨s,wb,A,n,c,l,GA,gn,gc,MA,mn,mc,FA,fn,fc,M,F,ar⟩:=p;have al:=h.blk.lt;have b8:=h.src.lt;have cg:gs.length=bM:=by have:=bY.1;simpa using this
 simp only at al b8;have H:=bF h hN cq bY;clear h hN cq bY;go_enter func49,ntmps49;go_wp2_with(fail);generalize ba:World.alloc _ _=W;have aw:=hJ ba;have co:=fA ba;have bU:=fB ba;have cE:W.heap.size=w.heap.size+1+1:=by rw[<-ba];simp
 have ay:=bF (H.1.aj aw) (aw.mono (M':=λb=>b=s) λ_ h=>h.elim) co bU;clear ba aw co bU;go_loopw [9,10] (λaR ci wr=>∃(j:Nat) (ce:IP) (rc:Nat) (aJ:List cW),j<=bM/\ci=.int .i64 j/\aR=.slice ce j rc/\(∀fs,h9 ⟨M,ps,fs⟩ V (gs.take j) aJ)/\fZ wr ⟨s,wb,A,n,c,l,GA,gn,gc,MA,mn,mc,FA,fn,fc,M,F,ar⟩ left/\Fr (λb=>b=s) w wr/\an wr w.heap.size 104 #[.string bc,.slice QA cc qc,bR]/\an wr (w.heap.size+1) 104 #[.string m,.slice bE bM br,u]/\
  Gr (λb=>w.heap.size<=b) (w.heap.size+1+1) 195 7 wr ce j rc (aJ.map ep)) (λ_ ci _=>bM - (intOf ci).toNat)
 case atStart=>exact⟨0,none,0,[],Ix _,rfl,rfl,λfs=>trivial,ay.1,ay.2.1,ay.2.2.1,ay.2.2.2,Gr.nil _ _ _ _ _⟩
 case round=>
  obtain⟨j,ce,rc,aJ,a1,rfl,rfl,cw,aa,hF,bo,bw,bS⟩:=hrel;clear ay;have a8:=cK aa hF bo bw bS;have aq:=ae cw;obtain⟨d0,aP,aQ⟩:=bw.two;obtain⟨e0,bn,a0⟩:=bo.two;by_cases du:j<bM
  .obtain⟨b,o,q,cs,eM,O,hm,aY,bd,hc⟩:=Sl.gH (z:=2) (Sl.dh H.2.2.2 hF) (λ_=>rfl) du;subst eM;obtain rfl:=rE.1 aY;have c1:=hc 1 _ rfl;have eV:=ae hm;have eG:(0:Int)<=(j:Int):=ad;have f0:(j:Int)<(bM:Int):=ad;have gp:=hF.size;clear aY hc bd hm O aa hF bo bw bS cw;obtain⟨q1,dq⟩:=q;simp only at c1
   cases dq with
   | true=>
    go_wp2_with(fail);refine(pM ⟨s,wb,A,n,c,l,GA,gn,gc,MA,mn,mc,FA,fn,fc,M,F,ar⟩ left V P bH a2 bc ps QA cc qc bR wr a8.1 (H.2.1.on a8.2.1) L (Sl.dh H.2.2.1 a8.2.1) bp).mono ?_;rintro e aT ⟨r,IA,i,ic,rfl,ah,Z,au,ao,ag⟩;simp only at ah ao ag;have bI:=a8.2.2.2.2.dh ag (λb O _=>⟨ad,ad⟩);have hd:(ep (.mx r)).rep aT (kJ (λb=>w.heap.size<=b) aT (.slice ce j rc)) [.bool true,.string r.name,.slice IA i ic,.int .i64 0,.int .i64 0,.string ⟨#[]⟩,.slice none 0 0]:=
     wx (au.mono λb O=>⟨by have:=O.1;omega,O.2,λh=>by have:=(a8.2.2.2.2.lt h).2;have:=O.1;omega⟩) Z
    have bi:=eU (a8.1.next ao ag) (a8.2.1.trans ag) (a8.2.2.1.on ag ad) (a8.2.2.2.1.on ag ad) bI hd;have g:=ae ah;have cb:w.heap.size+1+1<=aT.heap.size:=by have:=ag.size;omega
    clear d0 aP aQ e0 bn a0 c1 bI hd ag ao au Z ah a8;go_wp2_with((at_builtin;refine bN q0 rfl (.tmp 24) (.tmp 30) rfl bi.2.2.2.2.1 bi.2.2.2.2.2 rfl rfl rfl ad ad cb ?_;intro aZ c2 b4 bb az b5 cf;have b2:=ai bb az;clear bb az b5 cf));have bq:∀b,(Value.slice ce j rc).ownBlock=some b->w.heap.size+1+1<=b:=λb O=>(bi.2.2.2.2.1.lt O).1;have aG:Fr (λb=>b=s) w b4:=bi.2.1.eA (b2.2.below bi.2.1.size λk ap h=>by have:=bq k h;omega);have cF:fZ b4 ⟨s,wb,A,n,c,l,GA,gn,gc,MA,mn,mc,FA,fn,fc,M,F,ar⟩ left:=(H.1).next (bi.1.src.cz b2.2 λb O h=>by have:=bq b h;simp only at O;omega) aG;have bV:=cK cF aG (bi.2.2.1.on b2.2 (λh=>by have:=bq _ h;omega)) (bi.2.2.2.1.on b2.2 (λh=>by have:=bq _ h;omega)) b2.1;clear bq aG cF;go_roundw
    case rel=>
     refine⟨j+1,aZ,c2,aJ++[.mx r],ad,by go_num,rfl,λfs=>?_,bV.1,bV.2.1,bV.2.2.1,bV.2.2.2.1,by rw[Ig];exact bV.2.2.2.2⟩;rw[List.take_add_one,eV.o];exact na _ _ (aq.o fs) ⟨rfl,g.o fs⟩
    case measure=>exact aF
   | false=>
    go_wp2_with(fail);refine(jk ⟨s,wb,A,n,c,l,GA,gn,gc,MA,mn,mc,FA,fn,fc,M,F,ar⟩ left V P bH a2 wr a8.1 (H.2.1.on a8.2.1) L).mono ?_;rintro e aT ⟨x,cy,cp,cD,rfl,ah,Z,au,ao,ag⟩;simp only at ao ag;have bI:=a8.2.2.2.2.dh ag (λb O _=>⟨ad,ad⟩);have hd:(ep (.ex x)).rep aT (kJ (λb=>w.heap.size<=b) aT (.slice ce j rc)) [.bool false,.string ⟨#[]⟩,.slice none 0 0,.int .i64 x.aZ,.int .i64 x.numOf,.string x.bg,.slice cy cp cD]:=
     Di (au.mono λb O=>⟨by have:=O.1;omega,O.2,λh=>by have:=(a8.2.2.2.2.lt h).2;have:=O.1;omega⟩) Z
    have bi:=eU (a8.1.next ao ag) (a8.2.1.trans ag) (a8.2.2.1.on ag ad) (a8.2.2.2.1.on ag ad) bI hd;have g:=ae ah;have cb:w.heap.size+1+1<=aT.heap.size:=by have:=ag.size;omega
    clear d0 aP aQ e0 bn a0 c1 bI hd ag ao au Z ah a8;go_wp2_with((at_builtin;refine bN q0 rfl (.tmp 32) (.tmp 37) rfl bi.2.2.2.2.1 bi.2.2.2.2.2 rfl rfl rfl ad ad cb ?_;intro aZ c2 b4 bb az b5 cf;have b2:=ai bb az;clear bb az b5 cf));have bq:∀b,(Value.slice ce j rc).ownBlock=some b->w.heap.size+1+1<=b:=λb O=>(bi.2.2.2.2.1.lt O).1;have aG:Fr (λb=>b=s) w b4:=bi.2.1.eA (b2.2.below bi.2.1.size λk ap h=>by have:=bq k h;omega);have cF:fZ b4 ⟨s,wb,A,n,c,l,GA,gn,gc,MA,mn,mc,FA,fn,fc,M,F,ar⟩ left:=(H.1).next (bi.1.src.cz b2.2 λb O h=>by have:=bq b h;simp only at O;omega) aG;have bV:=cK cF aG (bi.2.2.1.on b2.2 (λh=>by have:=bq _ h;omega)) (bi.2.2.2.1.on b2.2 (λh=>by have:=bq _ h;omega)) b2.1;clear bq aG cF;go_roundw
    case rel=>
     refine⟨j+1,aZ,c2,aJ++[.ex x],ad,by go_num,rfl,λfs=>?_,bV.1,bV.2.1,bV.2.2.1,bV.2.2.2.1,by rw[Ig];exact bV.2.2.2.2⟩;rw[List.take_add_one,eV.o];exact na _ _ (aq.o fs) ⟨rfl,g.o⟩
    case measure=>exact aF
  .obtain rfl:j=bM:=ad;clear aa hF bo bw bS cw;go_wp2_with(fail);go_ret;have ac:=aq.o;rw[Ih ad] at ac;exact⟨aJ,ce,j,rc,rfl,ac,a8.2.2.2.2.cap.1,a8.2.2.2.2.sl (λb h hp=>⟨hp,h⟩) (λb h hp=>⟨ad,h⟩),a8.1.src,a8.2.1⟩
def kG(n:Nat):Code->Option Code
 | .block k c=>if k=n then some c else kG n c
 | .seq a b=>match kG n a with
  | some c=>some c
  | none=>kG n b
 | .loop c=>kG n c
 | .scope c=>kG n c
 | _=>none
noncomputable def vp:Code:=((Tryz.f31.body.bind fD).getD .skip)
noncomputable def Cc:Code:=((kG 2 vp).getD .skip)
noncomputable def Fb:Code:=match Cc with
 | .seq a _=>a
 | c=>c
noncomputable def Ff:Code:=match Cc with
 | .seq _ b=>b
 | _=>.skip
def jW.env(p:jW)(ps:List (ByteArray×Bool)):Env:=⟨p.M,ps,p.F.map λf=>(f.name,f.params)⟩
structure nS(p:jW)(S w:World)(L:Nat):Prop where
 src:b1 w p.s p.A p.n p.c p.l
 blk:an w p.wb 93 #[.pointer (some ⟨p.s,0,none⟩),.slice p.GA p.gn p.gc,.slice p.MA p.mn p.mc,.slice p.FA p.fn p.fc,.int .i64 L,.bool p.ar]
 fr:Fr p.MW S w
 le:L<=24
theorem nS.wr{p:jW}(h0:fZ S p cg)(h:nS p S w L):fZ w p L:=
 ⟨h.src,h.blk,h0.ne,Sl.dh h0.ms h.fr,Sl.dh h0.fs h.fr,h0.nm,h0.nf,h0.gh,h0.hW,h.le⟩
theorem nS.next{p:jW}(h:nS p S w L)(aZ:p.s<p.wb)(hs:b1 ab p.s p.A p.n p.c p.l)(O:Fr (λb=>b=p.s) w ab):nS p S ab L:=
 ⟨hs,h.blk.on O ad,h.fr.trans (O.mono λ_ h=>.inl h),h.le⟩
theorem nS.aj{p:jW}(h:nS p S w L)(aZ:p.s<p.wb)(O:Ext w ab):nS p S ab L:=h.next aZ (h.src.cz O λ_ _ h=>h) (O.mono λ_ h=>h.elim)
theorem nS.fresh{p:jW}(h:nS p S w L)(h0:fZ S p cg)(O:Fr M w ab)(a6:∀b,M b->S.heap.size<=b):nS p S ab L:=by
 have ac:=h0.src.lt;have J:=h0.blk.lt;exact⟨h.src.cz O λb bo hm=>by have:=a6 b hm;omega,h.blk.on O λhm=>by have:=a6 _ hm;omega,h.fr.eA (O.below h.fr.size λk ap hm=>by have:=a6 k hm;omega),h.le⟩
theorem nS.E4{p:jW}{R:Nat}(h:nS p S w L)(hw:fZ ab p R)(O:Fr p.MW w ab):nS p S ab R:=⟨hw.src,hw.blk,h.fr.trans O,hw.ke⟩
def DE(p:jW)(d:Nat)(V T:IQ)(ps:List (ByteArray×Bool))(L:Nat)(w:World)(e:Ending)(ab:World):Prop:=
 ∃(ls:List ay) (R:Nat) (bw:IP) (on bL:Nat),e=.returned (.slice bw on bL)/\Made (p.env ps) d V T L R ls/\on<=bL/\Sl ab (fresh w ab) bw on (ls.map a3)/\fZ ab p R/\Fr p.MW w ab
def Fm(p:jW)(L:Nat):Prop:=∀(d most:Nat) (V T:IQ) (P:IP) (bH a2:Nat) (bc:ByteArray) (ps:List (ByteArray×Bool)) (QA:IP) (cc qc:Nat) (bR:Value) (w:World),d<=2->most<=6->fZ w p L->Sl w (off p.MW w) P bH (V.map D.s)->V.length+L<=60->lQ T L->
 Sl w (off p.MW w) QA cc (ps.map ch)->cc<=2->Calls prog 31 #[.pointer (some ⟨p.wb,0,none⟩),.agg #[.string bc,.slice QA cc qc,bR],.slice P bH a2,.int .i64 (d:Int),.int .i64 (most:Int)] w (DE p d V T ps L w)
def gE(p:jW)(aN B:Nat)(ct bV:Value)(d:Nat)(ps:List (ByteArray×Bool))(V T:IQ)(ls:List ay)(N:Int)(S:World)(L:Nat)(aw:World)(bc:ByteArray)(QA:IP)(cc qc:Nat)(bR:Value)(av:IP)(bq ax:Nat)(bw:IP)(on bL:Nat)(w:World):Prop:=∃(a1:IQ) (m:List ay) (st:ay) (a0:Nat) (cs:List Value),
 nS p aw w a0/\an w aN 104 #[.string bc,.slice QA cc qc,bR]/\kV B 9 1 153 11 w av bq ax (a1.map D.s) bw on bL ((ls++m).map a3)/\an w S.heap.size 153 cs.toArray/\(a3 st).rep w (kJ (λb=>B<=b/\(Value.slice av bq ax).ownBlock≠some b) w (.slice bw on bL)) cs/\
 eJ (p.env ps) d (V++decls ls) (T++decls ls) (.ez (m++[st]))/\(∀n∈(ak.ez (m++[st])).all,∃k,a0<=k/\k<L+1/\n=gR k)/\(ak.ez (m++[st])).num<=2*(L+1 - a0)/\a0<=L/\a1 ⊆ V++decls (ls++(m++[st]))/\a1.length+a0<=60/\on<=12000
def la(p:jW)(aN B:Nat)(ct bV:Value)(d:Nat)(ps:List (ByteArray×Bool))(V T:IQ)(ls:List ay)(N:Int)(S:World)(L:Nat)(aw:World)(bc:ByteArray)(QA:IP)(cc qc:Nat)(bR:Value)(a:Act)(w:World):Prop:=∃(av:IP) (bq ax:Nat) (bw:IP) (on bL:Nat) (gF o u8 gG eP ah u16 br cw eQ eR eS eT eU eW eX eY eZ e3 e4 e5 e6 u32 e7 e8 e9 fa fb fd fe ff fh fi fj fk fl fm fo fp fq fr fs ft fu fv fw fx fy fz fA fB fC fD fE u64 fF fG fH fI fJ fK fL fM fN fQ fR fS fT fU fV fW fX fY f3 f4 f5 f6 f7 f8 f9 ga gb gd ge gf gg gh gi gk gl H am aH aP aQ a7 ba be bf bi bm bu bC bM bO bQ bT bW bX b6 cn co cp cq cu cv cx cy cz cA cB cC cD cE cF cG cH cI cJ cL cM cN cO cP cQ cR cS cU cV cW cX cY cZ c4 c5 c7 c8 c9 da db dc dd de df dg dh di dj dk dl dm dn dp dr ds dt dv dw dx dy dB dC dD dE dF dH dI dJ dK dL dM dN dO dP dQ dR dT dU dV dX dY dZ d0 d1 d2 d3 d4 d5 d6 d7 d8 d9 ea eb ec ed ee ef eg eh ei ej ek el em en eo ep eq er es et eu ev ew ex ey ez eA eC eD eE eF eH eI eL eM eN eO ce:Value),gE p aN B ct bV d ps V T ls N S L aw bc QA cc qc bR av bq ax bw on bL w/\a=⟨#[.pointer (some ⟨p.wb,0,none⟩),ct,.slice av bq ax,.int .i64 (d:Int),bV,gF,.pointer (some ⟨aN,0,none⟩),o,u8,gG,eP,.slice bw on bL,.int .i64 N,.pointer (some ⟨S.heap.size,0,none⟩),ce,ah,u16,br,cw,eQ,eR,eS,eT,eU,eW,eX,eY,eZ,e3,e4,e5,e6,u32,e7,e8,e9,fa,fb,fd,fe,ff,fh,fi,fj,fk,fl,fm,fo,fp,fq,fr,fs,ft,fu,fv,fw,fx,fy,fz,fA,fB,fC,fD,fE,u64,fF,fG,fH,fI,fJ,fK,fL,fM,fN,fQ,fR,fS,fT,fU,fV,fW,fX,fY,f3,f4,f5,f6,f7,f8,f9,ga,gb,gd,ge,gf,gg,gh,gi,gk,gl,H,am,aH,aP,aQ,a7,ba,be,bf,bi,bm,bu,bC,bM,bO,bQ,bT,bW,bX,b6,cn,co,cp,cq,cu,cv,cx,cy,cz,cA,cB,cC,cD,cE,cF,cG,cH,cI,cJ,cL,cM,cN,cO,cP,cQ,cR,cS,cU,cV,cW,cX,cY,cZ,c4,c5,c7,c8,c9,da,db,dc,dd,de,df,dg,dh,di,dj,dk,dl,dm,dn,dp,dr,ds,dt,dv,dw,dx,dy,dB,dC,dD,dE,dF,dH,dI,dJ,dK,dL,dM,dN,dO,dP,dQ,dR,dT,dU,dV,dX,dY,dZ,d0,d1,d2,d3,d4,d5,d6,d7,d8,d9,ea,eb,ec,ed,ee,ef,eg,eh,ei,ej,ek,el,em,en,eo,ep,eq,er,es,et,eu,ev,ew,ex,ey,ez,eA,eC,eD,eE,eF,eH,eI,eL,eM,eN,eO],[]⟩
theorem gE.simple(p:jW)(aN B:Nat)(ct bV:Value)(d:Nat)(ps:List (ByteArray×Bool))(V T:IQ)(ls:List ay)(N:Int)(L:Nat)(aw:World)(bc:ByteArray)(QA:IP)(cc qc:Nat)(bR:Value){a1:IQ}{av:IP}{bq ax:Nat}{bw:IP}(h0:fZ S p cg)(dq:p.wb<aN)(cj:aN<B)(bS:kV B 9 1 153 11 S av bq ax (a1.map D.s) bw on bL (ls.map a3))
  (hV:a1 ⊆ V++decls ls) (b0:a1.length+L+1<=60) (c2:on<=10000) (aS:B<=S.heap.size) {X:World} {a0:Nat} {st:ay} {cs:List Value} (hC:nS p S X a0) (b1:an X S.heap.size 153 cs.toArray) (aY:(a3 st).rep X (fresh S X) cs)
  (ah:Dy (p.env ps) d (V++decls ls) (T++decls ls) st) (y:∀n∈st.all,∃k,a0<=k/\k<L+1/\n=gR k) (K:st.num<=2*(L+1 - a0)) (hle:a0<=L) (a:Fr p.MW aw S) (c:an S aN 104 #[.string bc,.slice QA cc qc,bR]):gE p aN B ct bV d ps V T ls N S L aw bc QA cc qc bR av bq ax bw on bL X:=by
 have aZ:=h0.ne;refine⟨a1,[],st,a0,cs,⟨hC.src,hC.blk,a.trans hC.fr,hC.le⟩,c.on hC.fr (λh=>by rcases h with h|h<;>omega),?_,b1,?_,?_,?_,?_,hle,?_,ad,ad⟩
 .rw[IB];exact bS.dh hC.fr λb O _=>by rcases O with O|O<;>omega
 .exact D.aH (λb O=>⟨⟨by have:=O.1;omega,λh=>by have:=(bS.one.lt h).2;have:=O.1;omega⟩,O.2,λh=>by have:=(bS.two.lt h).2;have:=O.1;omega⟩) _ _ aY
 .exact rT.2 ah
 .rw[IC,all_cons];intro n hn;rcases Ii.1 hn with hn|hn
  .exact y n hn
  .simp[ak.ez,ak.all] at hn
 .rw[IC,rv];exact K
 .intro x hx;have:=hV hx;exact ym
theorem BS{f:aE}{cs:List Value}(h:(c8 f).rep w P cs):∃(A:IP) (n c:Nat) (A2:IP) (cd c2:Nat),cs=[.string f.name,.slice A n c,.slice A2 cd c2]/\n<=c/\Sl w P A n (f.params.map ch):=by
 unfold c8 at h;rw[bw,b9] at h;obtain⟨y,rfl,h⟩:=h;obtain⟨A,n,c,bp,rfl,hc,hs,h⟩:=aA.1 h;obtain⟨A2,cd,c2,aJ,rfl,cf,bz,h⟩:=aA.1 h;rw[aM] at h;subst h;exact⟨A,n,c,A2,cd,c2,rfl,hc,hs⟩
theorem nU:b2 prog 102 153 (.agg #[.int .i64 0,.string ⟨#[]⟩,.int .i64 0,.int .i64 0,.string ⟨#[]⟩,.slice none 0 0,.string ⟨#[]⟩,.slice none 0 0,.slice none 0 0,.slice none 0 0,.slice none 0 0]) 11 192:=b2.mk' Tryz.underlying102 (by kernel_rfl) rfl ad
theorem CK{G:Env}{d:Nat}{a1 ab T:IQ}{P:List ay}(aY:rU G a1 r)(hV:a1 ⊆ ab)(ac:eJ G 0 a1 T (.ez P)):eJ G d ab T (.ez ((.lock false r::P)++[.lock true r])):=by
 rw[Ip,mD];refine⟨kq hV aY,?_⟩;simp only[ay.decl,IB];exact rS.2 ⟨cV _ 0 d a1 _ _ _ hV (λ_ _ h=>h) (Ix _) ac,rT.2 (kq (λx hx=>Ii.2 (.inl (hV hx))) aY)⟩
theorem bh{P:Program}{ops:Array Oper}{Q:Exit->Act->World->Prop}{R:World->World->Prop}{tails:List Nat}{rest:PT}{a:Act}{W:World}(C:World->Prop)(hC:C W)(h:∀V,C V->di P ops Q R tails rest a V):di P ops Q R tails rest a W:=h W hC
structure pQ(p:jW)(S wr:World)(L:Nat)(cs:Array Value)(V:World):Prop where
 c:nS p S V L
 s:an V S.heap.size 153 cs
 f:Fr (λb=>b=p.s\/b=S.heap.size) wr V
theorem pQ.aj{p:jW}{S wr V ab:World}{L:Nat}{cs:Array Value}(h:pQ p S wr L cs V)(aZ:p.s<p.wb)(O:Ext V ab):pQ p S wr L cs ab:=⟨h.c.aj aZ O,h.s.aj O,h.f.trans (O.mono λ_ h=>h.elim)⟩
theorem pQ.call{p:jW}{wr:World}{cs:Array Value}(h:pQ p S wr L cs V)(aZ:p.s<p.wb)(dQ:p.s<S.heap.size)(hs:b1 ab p.s p.A p.n p.c p.l)(O:Fr (λb=>b=p.s) V ab):pQ p S wr L cs ab:=⟨h.c.next aZ hs O,h.s.on O ad,h.f.trans (O.mono λ_ h=>.inl h)⟩
theorem pQ.aI{p:jW}{S wr V:World}{L cg:Nat}{cs:Array Value}(h:pQ p S wr L cs V)(h0:fZ S p cg)(i:Nat)(v:Value):pQ p S wr L (cs.setIfInBounds i v) (V.setCell ⟨S.heap.size,i,none⟩ v):=
 ⟨h.c.fresh (M:=λb=>b=S.heap.size) h0 ((Fr.refl (λb=>b=S.heap.size) V).setCell (.inl rfl) _) (λb O=>ad),h.s.aI i v,h.f.setCell (.inl (.inr rfl)) _⟩
theorem lY(V:World)(g:Nat)(v1 v2:Int)(h0:V.cell? ⟨g,0,none⟩=some (.int .u8 v1))(ac:V.cell? ⟨g,1,none⟩=some (.int .u8 v2)) :
  (convert 95 9 (.slice (some ⟨g,0,none⟩) 2 2)).run prog V=.ok (.string (strOf [byteOf v1,byteOf v2])) V:=by
 have:=run_convert_bytes_arg (P:=prog) V 95 5 Tryz.underlying95 Tryz.underlying5 g 0 2 2 [v1,v2] rfl (λi ak=>by
  obtain rfl|rfl:i=0\/i=1:=ad
  .exact h0
  .exact ac) 9 Tryz.underlying9
 rw[this];rfl
theorem tj{r t:Int}(br:L<=24)(ac:IntKind.u8.wrap (IntKind.i64.wrap (97+(L:Int)))=r)(J:IntKind.u8.wrap (IntKind.i64.wrap (97+Int.tmod (IntKind.i64.wrap 0) 26))=t):(⟨#[118]⟩++strOf [byteOf r,byteOf t]:ByteArray)=gR L:=by
 subst ac J;have h:∀k:Fin 25,(⟨#[118]⟩++strOf [byteOf (IntKind.u8.wrap (IntKind.i64.wrap (97+((k.val:Nat):Int)))),byteOf (IntKind.u8.wrap (IntKind.i64.wrap (97+Int.tmod (IntKind.i64.wrap 0) 26)))]:ByteArray)=gR k.val:=by decide
 exact h ⟨L,ad⟩
theorem s9{w:World}{P Q:Nat->Prop}:∀{l:IQ} {xs:List Value},D.aO w P (l.map D.s) xs->D.aO w Q (l.map D.s) xs
 | [],xs,h=>by simpa only[Iy,D.aO] using h
 | e::l,xs,h=>by
  rw[Ie] at h ⊢;obtain⟨y,rfl,a4⟩:=b9.1 h;exact b9.2 ⟨y,rfl,s9 a4⟩
theorem Gr.strs{Q:Nat->Prop}{e:TypeId}{A:IP}{c:Nat}{l:IQ}(h:Gr P B e 1 w A n c (l.map D.s)):Gr Q B e 1 w A n c (l.map D.s):=by
 obtain⟨hl,xs,ac,J⟩:=h;exact⟨hl,xs,ac,s9 J⟩
theorem ub(s:ay):(a3 s).sz=11:=by
 cases s<;>simp[a3,gi,D.sz,D.xC,cY,jl,fJ,j9]
theorem lI:jl.rep w P [.int .i64 0,.int .i64 0,.string ⟨#[]⟩,.slice none 0 0]:=eP.2 ⟨none,0,rfl⟩
theorem km:fJ.rep w P [.string ⟨#[]⟩,.slice none 0 0]:=by
 exact Ea
theorem eg{k:Int}{nm:ByteArray}{e r:D}{aJ th el:List D}{e0 e1 e2 e3 bD r1:Value}{cF A2 cl:IP}{n1 cd bY c1 c2 c3:Nat}(he:e.rep w P [e0,e1,e2,e3])(aY:r.rep w P [bD,r1])(ac:Sl w P cF n1 aJ)(ar:n1<=c1)(J:Sl w P A2 cd th)(dc:cd<=c2)(aR:Sl w P cl bY el)(aS:bY<=c3):
  (gi k nm e r aJ th el).rep w P [.int .i64 k,.string nm,e0,e1,e2,e3,bD,r1,.slice cF n1 c1,.slice A2 cd c2,.slice cl bY c3]:=by
 unfold gi;rw[bw];exact a2.2 ⟨_,rfl,b9.2 ⟨_,rfl,gy.2 ⟨[e0,e1,e2,e3],_,rfl,he,gy.2 ⟨[bD,r1],_,rfl,aY,aA.2 ⟨cF,n1,c1,_,rfl,ar,ac,aA.2 ⟨A2,cd,c2,_,rfl,dc,J,aA.2 ⟨cl,bY,c3,[],rfl,aS,aR,aM.2 rfl⟩⟩⟩⟩⟩⟩⟩
theorem kV.names{av:IP}{bq ax:Nat}{a1:IQ}{bw:IP}{l:List D}{e1 e2:TypeId}{a5:Nat}(h:kV B e1 1 e2 a5 w av bq ax (a1.map D.s) bw on bL l)(a6:∀b,M b->b<B):Sl w (off M w) av bq (a1.map D.s):=
 h.one.sl (λb O hp=>⟨O,λhm=>by have:=a6 b hm;have:=hp.1;omega⟩) (λb O hp=>⟨O,λhm=>by have:=a6 b hm;omega⟩)
def SK(k:Int)(d bq:Nat):Prop:=∀(p:jW) (aN B:Nat) (ct bV:Value) (ps:List (ByteArray×Bool)) (V T:IQ) (ls:List ay) (N:Int) (S:World) (L:Nat) (aw:World) (bc:ByteArray) (QA:IP) (cc qc:Nat) (bR:Value) (a1:IQ) (av:IP) (ax:Nat) (bw:IP) (on bL:Nat) (cg:Nat) (dq:p.wb<aN) (cj:aN<B) (aS:B<=S.heap.size) (bp:cc<=2) (wr:World) (aZ:p.s<p.wb) (ck:p.s<S.heap.size) (fg:p.wb<S.heap.size) (eJ:a1.length=bq) (gp:S.heap.size<=wr.heap.size) (bH:IS (fZ S p cg/\an S aN 104 #[.string bc,.slice QA cc qc,bR]/\Sl S (off p.MW S) QA cc (ps.map ch)/\kV B 9 1 153 11 S av bq ax (a1.map D.s) bw on bL (ls.map a3)/\Sl S (off p.MW S) av bq (a1.map D.s)/\∀b,p.MW b->b<B)) (bP:IS (nS p S wr L/\an wr aN 104 #[.string bc,.slice QA cc qc,bR]/\an wr S.heap.size 153 #[.int .i64 5,.string ⟨#[]⟩,.int .i64 0,.int .i64 0,.string ⟨#[]⟩,.slice none 0 0,.string ⟨#[]⟩,.slice none 0 0,.slice none 0 0,.slice none 0 0,.slice none 0 0])) (b0:a1.length+L+1<=60) (c2:on<=10000) (bJ:d<=2) (ce:IS (a1 ⊆ V++decls ls/\lQ (T++decls ls) (L+1)/\∀R,R<=L->Fm p R)) (aF:Nat) (bD:IS (fZ aw p aF/\Sl aw (off p.MW aw) QA cc (ps.map ch)/\Fr p.MW aw S)) (b2:aw.heap.size<=aN)
  (Q:Exit->Act->World->Prop) (hQ0:∀c a d v w,Q (.panic c) (a.put d v) w->Q (.panic c) a w) (hN:∀a w,la p aN B ct bV d ps V T ls N S L aw bc QA cc qc bR a w->Q .normal a w) (K:Act->World->Prop) (hK:∀a w,Code.wp prog Ff Q a w->K a w)
  {gF o u8 gG eP ah u16 br cw eQ eR eS eT eU eW eX eY eZ e3 e4 e5 e6 u32 e7 e8 e9 fa fb fd fe ff fh fi fj fk fl fm fo fp fq fr fs ft fu fv fw fx fy fz fA fB fC fD fE u64 fF fG fH fI fJ fK fL fM fN fQ fR fS fT fU fV fW fX fY f3 f4 f5 f6 f7 f8 f9 ga gb gd ge gf gg gh gi gk gl H am aH aP aQ a7 ba be bf bi bm bu bC bM bO bQ bT bW bX b6 cn co cp cq cu cv cx cy cz cA cB cC cD cE cF cG cH cI cJ cL cM cN cO cP cQ cR cS cU cV cW cX cY cZ c4 c5 c7 c8 c9 da db dc dd de df dg dh di dj dk dl dm dn dp dr ds dt dv dw dx dy dB dC dD dE dF dH dI dJ dK dL dM dN dO dP dQ dR dT dU dV dX dY dZ d0 d1 d2 d3 d4 d5 d6 d7 d8 d9 ea eb ec ed ee ef eg eh ei ej ek el em en eo ep eq er es et eu ev ew ex ey ez eA eC eD eE eF eH eI eL eM eN eO:Value},
  Code.wp prog Fb (Exit.then K Q) ⟨#[.pointer (some ⟨p.wb,0,none⟩),ct,.slice av bq ax,.int .i64 (d:Int),bV,gF,.pointer (some ⟨aN,0,none⟩),o,u8,gG,eP,.slice bw on bL,.int .i64 N,.pointer (some ⟨S.heap.size,0,none⟩),(.int .i64 k),ah,u16,br,cw,eQ,eR,eS,eT,eU,eW,eX,eY,eZ,e3,e4,e5,e6,u32,e7,e8,e9,fa,fb,fd,fe,ff,fh,fi,fj,fk,fl,fm,fo,fp,fq,fr,fs,ft,fu,fv,fw,fx,fy,fz,fA,fB,fC,fD,fE,u64,fF,fG,fH,fI,fJ,fK,fL,fM,fN,fQ,fR,fS,fT,fU,fV,fW,fX,fY,f3,f4,f5,f6,f7,f8,f9,ga,gb,gd,ge,gf,gg,gh,gi,gk,gl,H,am,aH,aP,aQ,a7,ba,be,bf,bi,bm,bu,bC,bM,bO,bQ,bT,bW,bX,b6,cn,co,cp,cq,cu,cv,cx,cy,cz,cA,cB,cC,cD,cE,cF,cG,cH,cI,cJ,cL,cM,cN,cO,cP,cQ,cR,cS,cU,cV,cW,cX,cY,cZ,c4,c5,c7,c8,c9,da,db,dc,dd,de,df,dg,dh,di,dj,dk,dl,dm,dn,dp,dr,ds,dt,dv,dw,dx,dy,dB,dC,dD,dE,dF,dH,dI,dJ,dK,dL,dM,dN,dO,dP,dQ,dR,dT,dU,dV,dX,dY,dZ,d0,d1,d2,d3,d4,d5,d6,d7,d8,d9,ea,eb,ec,ed,ee,ef,eg,eh,ei,ej,ek,el,em,en,eo,ep,eq,er,es,et,eu,ev,ew,ex,ey,ez,eA,eC,eD,eE,eF,eH,eI,eL,eM,eN,eO],[]⟩ wr
namespace zB
theorem ot(h:p:=by
 have b9:=bW.o;subst b9;exact gE.simple (st:=.call bb g.name aJ) ⟨s,wb,bu,bM,br,sl,GA,gn,gc,MA,mn,mc,_,fn,fc,M,F,ar⟩ aN B ct bV d ps V T ls N L aw bc QA cc qc bR bH.1 dq cj bH.2.2.2.1 ce.1 b0 c2 aS (U.fresh bH.1 aA λb O=>ad) bK (eg lI km ((cq.al λb O=>aA.block b O.2 (aC O.1)).mono λb O=>⟨by have:=O.1;omega,by have:=O.2;omega⟩) aU (Sl.bH _) (Hx _) (Sl.bH _) (Hx _)) ⟨g.params,Iz.2 ⟨g,bT.o,rfl⟩,m9 ce.1 _ _ (ah _)⟩ (λn hn=>by simp[ay.all] at hn) (by simp only[ay.num];omega) (Hx _) bD.2.2 bH.2.1
 ):p:=h
theorem qX(h:p:=by
 refine aB ?_;generalize b4:World.setCell _ _ _=Y;have aA:=CD b4;have bK:an Y S.heap.size 153 #[.int .i64 bN,.string g.name,.int .i64 0,.int .i64 0,.string ⟨#[]⟩,.slice none 0 0,.string ⟨#[]⟩,.slice none 0 0,.slice KA k kc,.slice none 0 0,.slice none 0 0]:=b4▸(a8.2.1.aI 1 _).aI 8 _;clear b4 d0 aP aQ;go_wp2_with(fail);obtain⟨U,_,ah,aU,cq,bz⟩:=a8.o;have b4:=aA.size;exact oq
 ):p:=h
theorem gj(h:p:=by
 refine cr ?_;generalize cl:World.setCell _ _ _=Z;obtain⟨bB,bl,a6⟩:=dG (M:=λb=>b=s) [.string g.name,.slice bE bC ci,.slice m ak ab] (by rfl) b5 ag gJ cl;have bh:S.heap.size<X.heap.size:=aV.2.1.lt;have b8:s<X.heap.size:=ad;have bS:b1 Z s bu bM br sl:=ao.cz a6 λb O h=>ad;have bn:=aV.1.next aZ bS bl;have a2:=eU bn (aV.2.1.on bl ad) (aV.2.2.1.on bl ad) bB ba bY;have bI:¬a4=s:=ad;have aR:=bl.size;clear cl bB bl a6 bS bn ba bY ag ao b5 bU aW bx;obtain⟨be,am,aH⟩:=a2.2.2.1.two;obtain⟨bU,aW,bx⟩:=a2.2.2.2.1.two;have cd:¬aN=s:=ad;have bG:bC<=2:=by
  have ac:=a2.2.2.2.2.2.1;have J:=bs g a2.2.2.2.2.1;simp at ac;omega
 go_upto_region 28 with(fail);refine eB (λb=>b=s) [(0,3),(1,0),(2,3),(3,0),(4,0),(5,3),(7,3),(6,1),(8,2),(9,3),(10,2)] ?_;refine pf ?_;refine m0 ?_;refine pf ?_
 iterate 2 refine m0 ?_
 iterate 2 refine pf ?_
 refine aD rfl (λK hK=>?_);go_simp;refine(xL ⟨s,wb,bu,bM,br,sl,GA,gn,gc,MA,mn,mc,_,fn,fc,M,F,ar⟩ L a1 av bq ax bc ps QA cc qc bR g.name g.params bE bC ci (.slice m ak ab) Z.drew ((a2.1.aj aZ IK.drew).wr bH.1) ((Sl.dh bH.2.2.2.2.1 (a2.1.aj aZ IK.drew).fr).mono λb O=>⟨O.1,λh=>O.2 (.inl h)⟩) ad ((Sl.dh bH.2.2.1 (a2.1.aj aZ IK.drew).fr).mono λb O=>⟨O.1,λh=>O.2 (.inl h)⟩) bp ((Sl.dh a2.2.2.2.2.2 (a2.1.aj aZ IK.drew).fr).mono λb O=>⟨O.1,λh=>O.2 (.inl h)⟩) bG).mono ?_;rintro e aT ⟨aJ,KA,k,kc,rfl,ah,aU,cq,ao,ag⟩;simp only at ah ao ag;have ai:Fr (λb=>b=s) Z aT:=Fr.aJ ag;have l:=a2.2.1.on ai ad;have a8:=eU (a2.1.next aZ ao ai) l ah aU cq ai.size;have bT:=ae a2.2.2.2.2.1;have ca:X.heap.size<=Z.drew.heap.size:=aR;refine dA hK (ag) ?_;clear hK K;clear be am aH bU aW bx ag ao cq aU ah ai;obtain⟨d0,aP,aQ⟩:=l.two;clear l;exact qW
 ):p:=h
theorem lg(h:p:=by
 have bO:=bH.1.nf;have bs:=bH.1.hW;simp only at bO bs;have gM:¬wb=s:=ad;obtain⟨b3,cU,bj,_⟩:=bH.1.fs.some_ bO.1;simp only at bj;subst bj;go_upto_region 27 with(fail);generalize hX:World.setCell _ _ _=X;have aA:Fr (λb=>b=S.heap.size) wr X:=by rw[<-hX];first|exact(Fr.refl (λb=>b=S.heap.size) wr).setCell (.inl rfl) _|exact((Fr.refl (λb=>b=S.heap.size) wr).setCell (.inl rfl) _).setCell (.inl rfl) _
 have bQ:an X S.heap.size 153 #[.int .i64 bN,.string ⟨#[]⟩,.int .i64 0,.int .i64 0,.string ⟨#[]⟩,.slice none 0 0,.string ⟨#[]⟩,.slice none 0 0,.slice none 0 0,.slice none 0 0,.slice none 0 0]:=by rw[<-hX,a3.o];first|exact(bP.2.2.aI 0 _)|exact(bP.2.2.aI 0 _).aI 0 _
 have H:=bP.1.fresh bH.1 aA λb O=>ad;have bi:=bP.2.1.on aA ad;have aV:=bF H bQ bi aA.size;clear hX aI aj af be am aH d0 aP aQ aA bQ H bi;obtain⟨aI,aj,af⟩:=aV.1.blk.two;refine sU (λb=>b=s) [19] (.free 0 (.free 1 (.free 2 (.free 3 (.held 4 (.free 5 (.free 6 (.free 7 (.held 8 (.free 9 (.free 10 (.free 11 (.free 12 (.held 13 (.free 14 (.pick [15,18] (λi=>bif i == 15 then .free 16 (.held 17 (.pick [18] (λ_=>.pick [19] (λ_=>.stop)))) else .pick [15] (λ_=>.free 16 (.held 17 (.pick [19] (λ_=>.stop))))))))))))))))))))) ?_
 iterate 4 refine tf ?_
 refine rL ?_
 iterate 3 refine tf ?_
 refine rL ?_
 iterate 4 refine tf ?_
 refine rL ?_;refine tf ?_;clear aI aj af;refine jH (P:=?_) (ops:=?_) (Q:=?_) (R:=?_) (tails:=?_) (rest:=.pick [19] (λ_=>.stop)) (aa:=?_)
  (C:=λ(a4:Nat) (j:Nat) (ap:Value) gm=>Fr (λb=>b=s) X gm/\b1 gm s bu bM br sl/\an gm a4 104 #[.string ⟨#[]⟩,.slice none 0 0,.slice none 0 0]/\X.heap.size<=a4/\∃(g:aE) (bE:IP) (bC ci:Nat) (m:IP) (ak ab:Nat),ap=.agg #[.string g.name,.slice bE bC ci,.slice m ak ab]/\g∈F/\Sl S (off (λb=>b=s\/b=wb) S) bE bC (g.params.map ch)) (λkey=>?_) ?_
 rotate_left 6
 ·
  refine a5 ?_ ?_
  ·
   refine aG rfl (λK hK=>?_) rfl;go_simp;refine(aX X.drew s bu bM br sl fn (aV.1.aj aZ IK.drew).src ad ad).mono ?_;rintro e aO ⟨cm,rfl,bg,bo,h,he⟩;obtain⟨j,rfl⟩:=Ic bg;have bf:j<fn:=ad;have ag:Fr (λb=>b=s) X aO:=Fr.aJ he.fr;have y:Fr (λb=>b=s\/b=wb) S aO:=aV.1.fr.trans (ag.mono λ_ h=>.inl h);refine dA hK (he.fr) ?_;clear hK K;obtain⟨bk,bX,g,cs,I,cw,r,bt,bd,hc⟩:=Sl.gH (z:=3) bH.1.fs (λ_=>rfl) (k:=j) (by simpa using bf);injection I with I;injection I with hFA1 hFA2;subst hFA1 hFA2;obtain⟨bE,bC,ci,m,ak,ab,rfl,bv,bY⟩:=BS bt;have e0:=(y.cell cw.1 cw.2).trans (hc 0 _ rfl);have e1:=(y.cell cw.1 cw.2).trans (hc 1 _ rfl);have e2:=(y.cell cw.1 cw.2).trans (hc 2 _ rfl);simp only[Ij] at e0;have b7:b3<aO.heap.size:=by have:=y.size;have:=cw.1;omega
   have bZ:¬b3=s:=λh=>cw.2 (.inl h);have eG:(0:Int)<=(j:Int):=ad;have f0:(j:Int)<(fn:Int):=ad;have a7:=Ia r;skip
   refine tf ?_;refine G8 ?_;refine aq ?_;refine dS ?_;generalize cl:World.alloc _ _=Z;have e3:=bm cl;have a9:Fr (λb=>b=s) X Z/\b1 Z s bu bM br sl/\an Z aO.heap.size 104 #[.string ⟨#[]⟩,.slice none 0 0,.slice none 0 0]/\X.heap.size<=aO.heap.size/\∃(al:aE) (aM:IP) (G a0:Nat) (az:IP) (aY aK:Nat),(Value.agg #[.string g.name,.slice bE bC ci,.slice m ak ab])=.agg #[.string al.name,.slice aM G a0,.slice az aY aK]/\al∈F/\Sl S (off (λb=>b=s\/b=wb) S) aM G (al.params.map ch):=
    ⟨ag.trans (e3.mono λ_ h=>h.elim),h.cz e3 λ_ _ h=>h,by rw[<-cl];exact IL,ag.size,g,bE,bC,ci,_,_,_,rfl,a7,bY⟩
   clear cl e3 bY bt bd hc e0 e1 e2;revert a9;generalize aO.heap.size=a4;generalize (Value.agg #[.string g.name,.slice bE bC ci,.slice m ak ab])=ap;intro a9;exact key a4 j ap _ a9
  ·
   refine dS ?_;generalize hV:World.drew (World.alloc _ _)=cb;have e1:=gX hV;have co:=lU hV;have b6:=co.lt;refine aq ?_;refine aG rfl (λK hK=>?_) rfl;go_simp;refine(aX cb s bu bM br sl fn (aV.1.aj aZ e1).src ad ad).mono ?_;rintro e aO ⟨cm,rfl,bg,bo,h,he⟩;obtain⟨j,rfl⟩:=Ic bg;have bf:j<fn:=ad;have ag:Fr (λb=>b=s) X aO:=(e1.mono λ_ h=>h.elim).trans he.fr;have y:Fr (λb=>b=s\/b=wb) S aO:=aV.1.fr.trans (ag.mono λ_ h=>.inl h);have dx:s<X.heap.size:=by have:=aV.2.2.2;omega
   refine dA hK (he.fr) ?_;clear hK K;obtain⟨bk,bX,g,cs,I,cw,r,bt,bd,hc⟩:=Sl.gH (z:=3) bH.1.fs (λ_=>rfl) (k:=j) (by simpa using bf);injection I with I;injection I with hFA1 hFA2;subst hFA1 hFA2;obtain⟨bE,bC,ci,m,ak,ab,rfl,bv,bY⟩:=BS bt;have e0:=(y.cell cw.1 cw.2).trans (hc 0 _ rfl);have e1:=(y.cell cw.1 cw.2).trans (hc 1 _ rfl);have e2:=(y.cell cw.1 cw.2).trans (hc 2 _ rfl);simp only[Ij] at e0;have b7:b3<aO.heap.size:=by have:=y.size;have:=cw.1;omega
   have bZ:¬b3=s:=λh=>cw.2 (.inl h);have eG:(0:Int)<=(j:Int):=ad;have f0:(j:Int)<(fn:Int):=ad;have a7:=Ia r;skip
   refine tf ?_;refine G8 ?_;have a9:Fr (λb=>b=s) X aO/\b1 aO s bu bM br sl/\an aO X.heap.size 104 #[.string ⟨#[]⟩,.slice none 0 0,.slice none 0 0]/\X.heap.size<=X.heap.size/\∃(al:aE) (aM:IP) (G a0:Nat) (az:IP) (aY aK:Nat),(Value.agg #[.string g.name,.slice bE bC ci,.slice m ak ab])=.agg #[.string al.name,.slice aM G a0,.slice az aY aK]/\al∈F/\Sl S (off (λb=>b=s\/b=wb) S) aM G (al.params.map ch):=
    ⟨ag,h,co.on he.fr ad,Hx _,g,bE,bC,ci,_,_,_,rfl,a7,bY⟩
   clear hV bY bt bd hc e0 e1 e2;revert a9;generalize (Value.agg #[.string g.name,.slice bE bC ci,.slice m ak ab])=ap;intro a9;exact key X.heap.size j ap _ a9
 ·
  rintro a4 j ap gm ⟨ag,ao,b5,gJ,g,bE,bC,ci,m,ak,ab,rfl,ba,bY⟩;obtain⟨bU,aW,bx⟩:=b5.two;exact gY
 ):p:=h
end zB
open zB in
theorem Cb(bb:Bool)(k:Int)(d bq:Nat)(h:bb=false/\k=9\/bb=true/\k=10):SK k d bq:=by
 obtain⟨bN,aL⟩:∃bN:Int,bN=if bb then 4 else 3:=⟨_,rfl⟩
 have bW:=ae aL;rcases h with⟨O,rfl⟩|⟨O,rfl⟩
 all_goals
  rw[O] at aL;have a3:=ae aL;clear aL O;exact ld
theorem BF{e z:Nat}{v:Value}{xs:List Value}(h:w.ownsRow B e z v n xs)(ap:∀b,B<=b->b<w.heap.size->ab.heap[b]?=w.heap[b]?):ab.ownsRow B e z v n xs:=by
 refine⟨h.1,?_⟩;rcases h.2 with J|⟨al,cap,cur,bC,j,a2,rest⟩
 .exact .inl J
 .exact .inr ⟨al,cap,cur,bC,j,(ap al j (Array.getElem?_eq_some_iff.1 a2).1).trans a2,rest⟩
namespace zJ
theorem lj(h:p:=by
 clear bX aQ aR;generalize b4:World.setCell aT _ _=cQ;have bh:=cT b4;have b3:an cQ X.heap.size 130 #[.bool false,.int .i64 H,.slice cl 1 aV]:=b4▸bw.aI 2 _;have az:=av.on bh ad;have bF:=ab.on bh ad;have j:=ae bh;clear b4 bw av ab bh;obtain⟨aI,aj,af⟩:=bF.two;obtain⟨bX,aQ,aR⟩:=b3.two;obtain⟨d6,dy,dC⟩:=az.two;go_wp2;rw[rounds_succ];go_wp2;generalize ca:World.setCell _ _ _=Y;obtain⟨E,ag,aJ⟩:=b2.o;have bJ:=aJ.size;have a8:=ag.size;have bO:=j.size;have cA:Ext w cQ:=⟨j.os.trans ((bl.trans (ag.trans aJ)).os),j.tape.trans ((bl.trans (ag.trans aJ)).tape),j.output.trans ((bl.trans (ag.trans aJ)).output),Ir (bl.trans (ag.trans aJ)).size bO,
  λk ap _=>(j.block k (Hy ap (bl.trans (ag.trans aJ)).size) ad).trans ((bl.trans (ag.trans aJ)).block k ap λh=>h)⟩
 obtain⟨bk,bt,bj⟩:=oS az cA (Nat.le_succ _) ca;obtain⟨bD,aK,a9⟩:=bk.two;refine IJ (v:=.agg #[.bool false,.int .i64 H,.slice cl 1 aV]) (by simp[results,Tryz.results95,go_sem,bD]) rfl ?_;refine⟨_,_,_,_,_,rfl,?_,bt⟩;rw[bM.o];refine eh.2 ⟨cl,1,aV,rfl,ad,?_⟩;simp only[hx,Option.map_some,Option.toList_some,Ie,Iy];have cu:=bj.size;have fL:=b5.lt;have bn:∀b,dX.heap.size<=b->b<aT.heap.size->Y.heap[b]?=aT.heap[b]?:=λb ac J=>(bj.block b ad ad).trans (j.block b J ad);have f:=BF E bn;simp only[It,IC] at f;refine Sl.sH f ?_ rfl (λal _ ac J=>⟨ad,J⟩);rw[D.bo];exact D.aH (λb U=>⟨by have:=U.1;omega,by have:=U.2;omega⟩) _ _ (D.aT (λb U=>(bn b U.1 (aC U.2)).trans (aJ.block b U.2 λh=>h)) _ _ aP.o)
 ):p:=h
theorem yX(h:p:=by
 refine c4 rfl (by rfl) ?_
 try simp only[PU]
 refine c4 rfl (by rfl) ?_
 try simp only[PU]
 refine hy rfl (by rfl) ?_
 try simp only[PU]
 refine c4 rfl (by rfl) ?_
 try simp only[PU]
 iterate 2 refine pf ?_
 refine aB ?_;go_wp2;refine wp_loop_rounds 1 ?_;rw[rounds_succ];go_wp2;generalize ca:World.setCell _ _ _=Y;obtain⟨bk,bt,_⟩:=oS a2.o bl.o (Nat.le_succ _) ca;obtain⟨bD,aK,a9⟩:=bk.two;clear ca;refine IJ (v:=.agg #[.bool true,.int .i64 fO,.slice none 0 0]) (by simp[results,Tryz.results95,go_sem,bD]) rfl ?_;exact D5
 ):p:=h
theorem gj(h:p:=by
 refine tf ?_;refine cr ?_;generalize hX:World.setCell _ _ _=X;obtain⟨bQ,bW,_⟩:=oS bK bg aZ hX;have a3:=ae (bf.trans bW);have bu:=ae (cG.aj bW);have u:=ae (bv.aj bW);clear hX be am aH bK bg aZ;obtain⟨be,am,aH⟩:=bQ.two;go_upto_region 6 with(fail);generalize hV:World.alloc _ _=dX;have T:=bm hV;have cZ:=bQ.aj T;have a4:=aU hV;have bl:=ae (a3.trans T);have ai:=bu.aj T;have a2:=ae (u.aj T);have b9:w.heap.size+2<=X.heap.size:=u.lt;obtain⟨bC,b5⟩:=aN ai a4;clear hV T bQ be am aH;obtain⟨be,am,aH⟩:=cZ.two;obtain⟨aI,aj,af⟩:=ai.two;obtain⟨bX,aQ,aR⟩:=a4.two;obtain⟨d6,dy,dC⟩:=a2.two;have b6:w.heap.size+2<=dX.heap.size:=ad;clear cZ ai a4;obtain⟨bq,da,fO⟩:=v;simp only at *;rcases cI.o with⟨ct,ak⟩|⟨J,m,h0,hm,c7,c0⟩
 .subst ct;have ax:n=0:=by have:=bs.1;rw[ak] at this;exact this.symm
  subst ax;go_wp2;refine eB (λ_=>False) [(0,3),(1,0),(2,3),(3,3),(4,3),(5,3),(6,3),(7,3),(8,0),(9,3),(10,0),(11,3),(12,3),(13,0),(14,3),(15,3),(16,3)] ?_;refine pf ?_;refine ph ?_
  iterate 2 refine pf ?_
  refine c4 rfl (by rfl) ?_;exact yW
 .subst J;obtain⟨H,rfl⟩:=Ic h0;rw[Iw] at hm;obtain⟨_,MA,mn,mc,du,bG,I⟩:=eV.on bl.o;have ah:H<mn:=by have:=(List.getElem?_eq_some_iff.1 hm).1;have:=I.1;rw[Ib] at this;omega
  obtain⟨hn,bE,b0,cs,rfl,cd,bd,bT,bS,bp⟩:=I.gH (z:=3) (λ_=>rfl) ah;rw[hm] at bd;injection bd with bd;subst bd;obtain rfl:=eN.1 bT;have f2:=bp 2 _ rfl;have bR:hn<dX.heap.size:=cd;have bb:g<dX.heap.size:=Hy bL.lt bl.size;clear I bS bp bT cd;by_cases bi:0<m.size
  .have bZ:decide (m.size > 0)=true:=by simpa using bi
   obtain⟨x,hx,ao⟩:=c7 bi;have aF:=bs.on (Fr.ext bl.o);rw[hx] at aF;obtain rfl:1=n:=aF.1;obtain⟨b,o,bU,Z,ay,F,rfl,O,G,e0,e1,e2,e3⟩:=Sl.BB aF (cY x);obtain⟨B,bN,bc,e,cx,cb⟩:=aW.1 G;simp only[List.cons.injEq,and_true] at e;obtain⟨rfl,rfl,rfl,rfl⟩:=e;have aX:b<dX.heap.size:=O;have S:=ae G;have bP:=ae (fS l x ao);have b1:=ae (bL.on bl.o);clear G cb O aF c7 c0;go_wp2;refine eB (λ_=>False) [(0,3),(1,0),(2,3),(3,3),(4,3),(5,3),(6,3),(7,3),(8,0),(9,3),(10,0),(11,3),(12,3),(13,0),(14,3),(15,3),(16,3)] ?_;refine pf ?_;refine ph ?_
   iterate 6 refine pf ?_
   refine ph ?_;refine pf ?_;refine ph ?_
   iterate 2 refine pf ?_
   refine ph ?_
   iterate 3 refine pf ?_
   refine aB ?_;go_wp2;refine wp_loop_rounds 2 ?_;rw[rounds_succ];go_wp2;refine eB (λ_=>False) [(0,3),(1,0),(2,3),(3,3),(4,0),(5,3),(6,3),(7,0),(8,3),(9,1),(10,1),(11,2),(12,3),(13,2)] ?_;refine pf ?_;refine bB (v:=?_) rfl (by rfl) (λV hV=>?_) ?_;rotate_left
   .obtain⟨hVc,hVf⟩:=Fr.iG hV
    (go_simp<;>with_reducible rfl)
   try simp only[PU]
   iterate 2 refine pf ?_
   refine bB (v:=?_) rfl (by rfl) (λV hV=>?_) ?_;rotate_left
   .obtain⟨hVc,hVf⟩:=Fr.iG hV
    (go_simp<;>with_reducible rfl)
   try simp only[PU]
   iterate 2 refine pf ?_
   refine bB (v:=?_) rfl (by rfl) (λV hV=>?_) ?_;rotate_left
   .obtain⟨hVc,hVf⟩:=Fr.iG hV
    (go_simp<;>with_reducible rfl)
   try simp only[PU]
   refine pf ?_;refine aD rfl (λK hK=>?_);go_simp;refine(bP.o g st _ _ _ _ _ _ _ (b1.on IK.drew.drew) (D.on S.o (Fr.ext IK.drew.drew))).mono ?_;rintro e aO ⟨o1,n1,s1,cF,c9,cm,rfl,cC,ar⟩;refine dA hK (ar) ?_;clear hK K;have ag:Ext dX aO:=Fr.aJ (Fr.aJ ar);have N:(a7 (bx l x)).rep aO (fresh dX aO) [.int .i64 o1,.int .i64 n1,.string s1,.slice cF c9 cm]:=cC;have aP:=ae N;refine p2 ?_;refine au rfl (λK hK=>?_);rw[if_pos (by rfl)];have a8:=ag.size;refine wK _ ow (.tmp 79) (.tmp 88) (by rfl) dX.heap.size (.slice none 0 0) 0 [] _ (by rfl) ⟨by simp,.inl ⟨rfl,rfl⟩⟩ (by rfl) (by rfl) (by simp[Value.oneCell']) ad ad a8 ?_;intro v2 aT E a1 _;obtain⟨cl,aV,rfl,bz,_⟩:=bI E;have aJ:Ext aO aT:=IK.grown a1 (by simp[Value.ownBlock]);have bw:=(b5.aj ag).aj aJ;have av:=(a2.aj ag).aj aJ;have ab:=(bC.aj ag).aj aJ;have b2:=aL E ag aJ;clear E a1 cC N ar ag aJ aI aj af be am aH bX aQ aR d6 dy dC e0 e1 e2 e3 aX f2 bR bb bG;obtain⟨bX,aQ,aR⟩:=bw.two;exact lh
  .have bZ:decide (m.size > 0)=false:=by simp;omega
   have ak:=c0 ad;have ax:n=0:=by have:=bs.1;rw[ak] at this;exact this.symm
   subst ax;clear c7 c0;go_wp2;refine eB (λ_=>False) [(0,3),(1,0),(2,3),(3,3),(4,3),(5,3),(6,3),(7,3),(8,0),(9,3),(10,0),(11,3),(12,3),(13,0),(14,3),(15,3),(16,3)] ?_;refine pf ?_;refine ph ?_
   iterate 6 refine pf ?_
   refine ph ?_;refine pf ?_;refine ph ?_
   iterate 2 refine pf ?_
   refine ph ?_
   iterate 3 refine pf ?_
   refine aB ?_;go_wp2;refine wp_loop_rounds 1 ?_;rw[rounds_succ];go_wp2;generalize ca:World.setCell _ _ _=Y;obtain⟨bk,bt,_⟩:=oS a2.o bl.o (Nat.le_succ _) ca;obtain⟨bD,aK,a9⟩:=bk.two;clear ca;refine IJ (v:=.agg #[.bool false,.int .i64 H,.slice none 0 0]) (by simp[results,Tryz.results95,go_sem,bD]) rfl ?_;exact D5
 ):p:=h
theorem tN(h:p:=by
 refine(dH bo ln lc l r.name V.drew (b8.on (Fr.ext bg.drew)) dM).mono ?_;rintro e aO ⟨rfl,ar⟩;rw[bV.o];simp only[im,pY];refine dW hK ?_;clear hK K
 iterate 3 refine tf ?_
 have co:=aS.aj (Fr.aJ ar);have ag:=bg.trans (Fr.aJ ar);clear aS bg ar;exact key W.heap.size aO ⟨ag,co,Hx _⟩
 ):p:=h
theorem yT(h:p:=by
 refine kU (P:=?P1) (ops:=?o1) (Q:=?q1) (R:=?r1) (tails:=?t1) (rest:=.pick [11] (λ_=>.free 12 (.stop))) (aa:=?aa) (C:=λc5 V=>Ext W V/\an V c5 113 #[.string ⟨#[]⟩,.int .i64 0,.int .i64 0]/\W.heap.size<=c5) (λkey=>?main) ?key
 case main=>
  refine a5 ?_ ?_
  ·
   refine bA rfl (λK hK=>?_) rfl;go_simp;refine(dH bo ln lc l r.name W.drew (b8.on (Fr.ext IK.drew)) dM).mono ?_;rintro e aO ⟨rfl,ar⟩;rw[bV.o];simp only[im,pY];refine dW hK ?_;clear hK K
   iterate 3 refine tf ?_
   refine aq ?_;refine dS ?_;generalize hV:World.alloc _ _=V;have aS:=aU hV;have bg:Ext W V:=hV▸(Fr.aJ ar).alloc _;exact AA
  ·
   exact tM
 case key=>
  rintro c5 V ⟨bg,bK,aZ⟩;have cE:=bv.lt;have bY:=cG.lt;obtain⟨be,am,aH⟩:=bK.two;clear aI aj af cB;exact gY
 ):p:=h
end zJ
open zJ in
theorem Df:tv:=by
 intro g l M r cc st s A n c w br a6 aY;obtain⟨aE,a0,L,e,aG,hs⟩:=iT.1 aY;simp only[List.cons.injEq,Value.string.injEq,Value.slice.injEq,and_true] at e;obtain⟨rfl,rfl,rfl,rfl⟩:=e;obtain⟨v,aA,ap⟩:=cc;have cI:=ae ap;have bM:=ae (show lK l r=⟨v.kind == 5,v.n,r.idx.map (bx l)⟩ by unfold lK;simp only[aA]);obtain⟨bV,bL,eV,bs⟩:=ih aA br a6 hs;clear aY hs br a6 ap aA;go_enter func95,ntmps95;go_wp2;generalize ba:World.alloc _ _=W;have aw:=hJ ba;have bH:=fA ba;have cn:=fB ba;clear ba;obtain⟨bf,cG,bv⟩:=eD aw bH cn;obtain⟨aM,bo,ln,lc,dM,cB,y⟩:=bL.on aw;have b8:=ae y;obtain⟨aI,aj,af⟩:=bH.two;clear aw bH cn y;exact yS
theorem Ei{X:World}{g:Nat}{t:TypeId}{v0 v1 c0 c1:Value}(aS:an V g t #[c0,c1])(aw:Ext w V)(aM:w.heap.size<=g)(hX:(V.setCell ⟨g,0,none⟩ v0).setCell ⟨g,1,none⟩ v1=X):
  an X g t #[v0,v1]/\Ext w X/\Fr (λb=>b=g) V X:=by
 subst hX;exact⟨(aS.aI 0 v0).aI 1 v1,(aw.setCell (.inr aM) _).setCell (.inr aM) _,((Fr.refl (λb=>b=g) V).setCell (.inl rfl) _).setCell (.inl rfl) _⟩
theorem q7{u:ax}(hu:cZ u){p:c7}(hp:p∈u.procs){c:az}(hc:c∈p.code)(bu:c.op=2\/c.op=3):
  ∃q,0<=c.target/\u.procs[c.target.toNat]?=some q/\(c.places.length:Int)=q.aw/\q.aw<=100/\∀pl∈c.places,pl.param=true->0<=pl.index/\pl.index<p.aw:=by
 obtain⟨s,hs,hl,y⟩:=(hu.procs p hp).code;rw[hs] at hc;rcases Ii.1 hc with hc|hc
 .rcases y c hc with h|h|h|h|h|h
  .omega
  .obtain⟨_,_,sg,h0,k,ak,b3,_,U⟩:=h;simp only[bk,List.getElem?_map] at k
   cases bp:u.procs[c.target.toNat]? with
   | none=>rw[bp] at k;cases k
   | some q=>
    rw[bp] at k;injection k with k;subst k;refine⟨q,h0,rfl,b3,(hu.procs q (Ia bp)).aw.2,λpl hm O=>?_⟩;have:=U pl hm;unfold cP at this;simp_all
  .omega
  .omega
  .omega
  .omega
 .simp only[ID] at hc;subst hc;simp[mR] at bu
namespace zV
theorem lj(h:p:=by
 clear e0 bn a0;generalize b4:World.setCell aT _ _=cQ;have bh:=cT b4;have aa:an cQ W.heap.size 122 #[.int .i64 c.target,.slice aU (j+1) a2]:=b4▸b2.2.1.aI 1 _;clear b4;have bs:=b2.1.dh bh (λb O _=>⟨λh=>h,ad⟩);have ai:=aL aa bs (b2.2.2.trans bh);clear aa bs bh;go_wp2_with(fail);go_roundw
 case rel=>
  refine⟨j+1,aU,a2,ad,by go_num,ai.2.2,ai.1,?_⟩;have:=ai.2.1;rw[bZ.o j pl aq.o,<-ce.o];exact this
 case measure=>exact aF
 ):p:=h
end zV
open zV in
theorem oF(u:ax)(hu:cZ u)(GA:IP)(gn gc:Nat)(MA:IP)(mn mc:Nat)(PA:IP)(pn pc:Nat)(x:g7)(cy:IP)(cp cD:Nat)(p:c7)(h0:0<=x.proc)(hp:u.procs[x.proc.toNat]?=some p)(aX:(x.aw.length:Int)=p.aw)
  (k:Nat) (ap:k<p.code.length) (w:World) (hU:gW w (av w) u GA gn MA mn PA pn) (hX:Sl w (av w) cy cp (x.aw.map .i)) :
  Calls prog 36 #[.agg #[.slice GA gn gc,.slice MA mn mc,.slice PA pn pc,.int .i64 u.main],.agg #[.int .i64 x.proc,.slice cy cp cD],.int .i64 k] w
   λe ab=>∃(ok:Bool) (y:g7) (cv:IP) (cP cR:Nat),e=.returned (.tuple #[.agg #[.int .i64 y.proc,.slice cv cP cR],.bool ok])/\(ok=true->lA u y)/\cP<=cR/\Sl ab (fresh w ab) cv cP (y.aw.map .i)/\Ext w ab:=by
 obtain⟨ex,c5⟩:=x;simp only at h0 hp aX hX ⊢;obtain⟨dc,rfl⟩:=Ic h0;rw[Iw] at hp;have ek:u.procs.length=pn:=by rw[<-hU.p.1,Ib]
 have Bh:dc<pn:=by have:=(List.getElem?_eq_some_iff.1 hp).1;omega
 have gI:pn<=16:=by have:=hu.El;omega
 have bd:p.code.length<=201:=by
  obtain⟨s,hs,hl,_⟩:=(hu.procs p (Ia hp)).code;rw[hs];simp;omega
 obtain⟨bv,ao,dr,cV,b9,ay,bN⟩:=Aw hu hu hU hX hp aX ap;clear hU hX hp aX h0 ek hu;go_enter func36,ntmps36;go_upto_region 1 with(fail);generalize ba:World.alloc _ _=W;have aw:=pT ba;have aS:=lT ba;have bU:=kZ ba;have bO:=nh ba;obtain⟨bf,a7,b6,bI⟩:=ih aw aS bU bO;obtain⟨aI,aj,af⟩:=aS.two;obtain⟨be,am,aH⟩:=bU.two;obtain⟨d0,aP,aQ⟩:=bO.two;clear ba aw aS bU bO;obtain⟨b1,op,c3,S,aZ,bR,rfl,bX,bH,p0,aR,eA,eC,et,Z,T⟩:=(dr.on bf.o).proc Bh;obtain rfl:c3=p:=by rw[b9.o] at bH;injection bH with bH;exact bH.symm
 have gq:c3.code.length=aZ:=by rw[<-T.1,Ib]
 have bM:k<aZ:=ad;have bK:(0:Int)<=(k:Int):=ad;have b7:(k:Int)<(aZ:Int):=ad;have ch:(0:Int)<=(dc:Int):=ad;have dH:(dc:Int)<(pn:Int):=ad;obtain⟨bc,bL,c,cells,eo,en,es,EA,em,ec,QA,qm,qc,IA,i,ic,KA,m,dj,rfl,cx,hc,cw,a3⟩:=T.Bi bM;obtain⟨U,a4⟩:=aN cw hc;have bo:=cw.cells;subst bo;have c0:=a3 0 _ rfl;have c1:=a3 1 _ rfl;have aY:=a3 11 _ rfl;have bE:=ae T;clear a3 T hc bH p0 aR eA eC gq cw;simp only[Ij] at c0;by_cases bu:c.op=2\/c.op=3
 case neg=>
  have fg:(c.op != 2)=true:=by simp;omega
  have dk:(c.op != 3)=true:=by simp;omega
  clear bu;go_wp2_with(fail);generalize ca:World.setCell _ _ _=Y;obtain⟨bk,bt,bj⟩:=Ei bI.o bf.o ad ca;obtain⟨bD,aK,a9⟩:=bk.two;refine IJ (v:=.tuple #[.agg #[.int .i64 0,.slice none 0 0],.bool false]) (by simp[results,Tryz.results36,go_sem,bD]) rfl ?_;exact⟨false,⟨0,[]⟩,none,0,0,rfl,(λh=>by cases h),Hx _,Sl.bH _,bt⟩
 case pos=>
  obtain⟨q,P,bp,H,fa,cd⟩:=q7 bv.o (Ia b9.o) (Ia a4.o) bu;have hm:c.places.length=m:=by have:=U.places.1;simpa using this
  have bG:=bF P bp H cd;have cl:m<=100:=ad;have eV:=ae hm;clear P bp H cd hm fa;rcases bu with bu|bu
  all_goals
   simp only[bu] at c0;clear bu;go_wp2_with(fail);generalize hV:World.alloc _ _=V;have bg:=bm hV;have f2:an V W.heap.size 122 #[.int .i64 c.target,.slice none 0 0]:=hV▸an.fu _ _ _ (by simp);have cG:W.heap.size<V.heap.size:=by rw[<-hV];simp
   clear hV;obtain⟨aE,L⟩:=aN bg f2;clear aI aj af be am aH d0 aP aQ bg f2;obtain⟨ct,r⟩:∃ct:Nat->List D,ct=λj=>(((c.places.take j).map λpl=>if pl.param then c5.getD pl.index.toNat 0 else pl.index).map .i):=⟨_,rfl⟩
   have aG:=ae r;have bx:ct 0=[]:=by rw[r];rfl
   have N:∀j pl,c.places[j]?=some pl->ct (j+1)=ct j++[.i (if pl.param then c5.getD pl.index.toNat 0 else pl.index)]:=λj pl h=>by rw[r];simp only;rw[List.take_add_one,h];simp
   obtain⟨a5,bZ⟩:=aN bx N;clear r bx N
   try rw[show w.heap.size+1+1=w.heap.size+2 from rfl]
   generalize decide ((k:Int)<0)=aV;generalize decide (aZ<=k)=bi;generalize (aV || bi)=bQ;go_loopw [10] (λci wr=>∃(j:Nat) (cv:IP) (cR:Nat),j<=m/\ci=.int .i64 j/\Fr (λb=>b=W.heap.size) V wr/\an wr W.heap.size 122 #[.int .i64 c.target,.slice cv j cR]/\Gr (λ_=>False) V.heap.size 3 1 wr cv j cR (ct j)) (λi _=>m - (intOf i).toNat)
   case atStart=>exact⟨0,none,0,Ix _,rfl,IK,L.o,by rw[a5.o];exact Gr.nil _ _ _ _ _⟩
   case round=>
    obtain⟨j,cv,cR,a1,rfl,aA,bl,aM⟩:=hrel;have l:Ext W wr:=Fr.low (M:=λb=>b=W.heap.size) ((Fr.mono aE.o λ_ h=>h.elim).trans aA) λk ap=>ad;have bA:=(l.rP.1 bc (bL+k*12+11) cx).trans aY;obtain⟨L,R,bV,cH⟩:=ih bl l aA aM;have b0:W.heap.size<wr.heap.size:=bl.lt;have bB:bc<wr.heap.size:=Hy cx l.size;obtain⟨e0,bn,a0⟩:=bl.two;obtain⟨be,am,aH⟩:=(b6.aj l).two;by_cases al:j<m
    .obtain⟨de,fg,pl,bP,cc,bz,rfl,bw,b3,hg,q1,dq,_,_⟩:=(U.places.on (Fr.ext l)).rB al;have br:c5.length=cp:=by have:=cV.1;simpa using this
     have dF:=(ao.procs c3 (Ia b9.o)).aw.2;have aW:cp<=140737488355328:=by have:=ay.o;omega
     have ah:pl.param=true->0<=pl.index/\pl.index<cp:=λO=>by
      have ac:=bG.2.2.2 pl (Ia b3) O;have:=ay.o;omega
     have eG:(0:Int)<=(j:Int):=ad;have f0:(j:Int)<(m:Int):=ad;obtain⟨z,a6,aq⟩:=eD aW ah b3;clear aA bl aM l aY br dF aW ah b3;go_upto_region 8 with(fail);refine eB (λ_=>False) [(0,3),(1,0),(2,0),(3,3),(4,3),(5,3),(6,3),(7,0),(8,3),(9,3),(10,0),(11,1),(12,1),(13,2),(14,3),(15,2)] ?_;refine pf ?_
     iterate 2 refine ph ?_
     iterate 4 refine pf ?_
     refine ph ?_
     iterate 2 refine pf ?_
     refine ph ?_;refine aD rfl (λK hK=>?_);go_simp;obtain⟨v,bC⟩:∃v:Int,v=if pl.param then c5.getD pl.index.toNat 0 else pl.index:=⟨_,rfl⟩
     refine(xl dc cy cp cD c5 pl [] (.slice bP cc bz) wr.drew (cV.on (Fr.ext ((bf.trans R.o).drew))) z.o a6.o).mono ?_;rintro e aO ⟨he,ar⟩;rw[<-bC] at he;subst he;have ce:=ae bC;clear bC;have ag:Ext wr aO:=Fr.aJ ar;refine dA hK (ar) ?_;clear hK K;refine p2 ?_;refine au rfl (λK hK=>?_);rw[if_pos (by rfl)];clear ar;have a8:=ag.size;have bS:=bV.size;refine pK dT (.tmp 60) (.tmp 71) (by rfl) (cH.aj ag) (d:=.i v) (by simp only[D.rep]) (by rfl) (by rfl) (by rfl) ad ad ad ?_;intro aU a2 aT bb az b5 cf;have I:∀b,(Value.slice cv j cR).ownBlock=some b->V.heap.size<=b:=λb O=>(cH.lt O).1;have n:=(L.aj ag).on az (λO=>by have:=I _ O;omega);have aJ:Fr (λb=>b=W.heap.size) V aT:=by
      have bW:=bV.size;have bJ:=az.size;exact⟨az.os.trans (ag.os.trans bV.os),az.tape.trans (ag.tape.trans bV.tape),az.output.trans (ag.output.trans bV.output),ad,
       λb O hn=>(az.block b ad (λbu=>by have:=I _ bu;omega)).trans ((ag.block b ad λh=>h).trans (bV.block b O hn))⟩
     have b2:=aL bb n aJ;clear e0 bn a0 be am aH ag bb az b5 I aJ hg q1 dq;obtain⟨e0,bn,a0⟩:=n.two;clear n;exact lh
    .obtain rfl:j=m:=ad;have bq:=bI.aj l;have ak:=ae bq;obtain⟨d0,aP,aQ⟩:=bq.two;clear aA bl aM l bq;go_wp2_with(fail);generalize ca:World.setCell _ _ _=Y;obtain⟨bk,bt,bj⟩:=Ei ak.o (bf.trans R.o) ad ca;obtain⟨bD,aK,a9⟩:=bk.two;refine IJ (v:=.tuple #[.agg #[.int .i64 c.target,.slice cv j cR],.bool true]) (by simp[results,Tryz.results36,go_sem,bD]) rfl ?_;obtain⟨q1,dq,dg,c8⟩:=bG.o;have bY:=bf.size;have bT:=bI.lt;have cI:=cH.dh bj (λb O _=>⟨λh=>h,ad⟩);refine⟨true,⟨c.target,c.places.map λpl=>if pl.param then c5.getD pl.index.toNat 0 else pl.index⟩,cv,j,cR,rfl,λ_=>⟨q,q1,dq,by simpa using dg⟩,cH.cap.1,?_,bt⟩;have hS:=cI.sl (Q:=fresh w Y) (λb _ h=>h.elim) (λb ac J=>⟨ad,ac⟩);rw[aG.o] at hS;simp only at hS;rw[Ih (aC eV.o)] at hS;exact hS
end Go.Proofs.YtajlmkkidmjgoaaGreatDoor

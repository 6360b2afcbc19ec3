/- Part 26 of the proof. No condition of its own. -/
import Derived.Test.YtpkfopfkdgkfkaaGreatQ11
import Derived.Test.YtpkfopfkdgkfkaaGreatQ24
import Derived.Test.YtpkfopfkdgkfkaaGreatQ25
namespace Go.Proofs.YtpkfopfkdgkfkaaGreat
open Go.RowKit Go.Proofs.Tryz
set_option maxRecDepth 1000000
set_option maxHeartbeats 25600000
set_option linter.unusedVariables false
variable{B L ba bd on:Nat}{M P:Nat->Prop}{S V ab w:World}{r:e4}{p:kx}
theorem sM:cn prog 149 197 (.agg #[false,Mq,(),(0:Int),(0:Int),Mq,()]) 7 104:=cn.mk' Tryz.underlying149 (by kernel_rfl) rfl ad
theorem yh{IA:Mt}{i ic:Nat}(h:Sl w P IA i (r.idx.toList.map bm))(hc:i<=ic):(eU (.mx r)).rep w P [true,.string r.name,.slice IA i ic,(0:Int),(0:Int),Mq,()]:=by
 unfold eU;rw[bN];exact fD.2 ⟨_,rfl,g3.2 ⟨[.string r.name,.slice IA i ic],_,rfl,jE.2 ⟨IA,i,ic,rfl,hc,h⟩,D.bg.2 (fw.2 ⟨none,0,rfl⟩)⟩⟩
theorem GM{x:VE}{cX:Mt}{cO cY:Nat}(h:Sl w P cX cO (x.args.map bm))(hc:cO<=cY):(eU (.ex x)).rep w P [false,Mq,(),.int .i64 x.bf,.int .i64 x.numOf,.string x.bu,.slice cX cO cY]:=by
 unfold eU;rw[bN];refine fD.2 ⟨_,rfl,g3.2 ⟨[Mq,()],_,rfl,?_,D.bg.2 (aZ.2 ⟨cX,cO,cY,rfl,hc,h⟩)⟩⟩;exact zT
theorem nS{G:Env}{V:Mu}{q:ByteArray×Bool}{a:dt}:∀(ps:List (ByteArray×Bool)) (aW:List dt),iU G V ps aW->J0 G V q a->iU G V (ps++[q]) (aW++[a])
 | [],[],_,h=>⟨h,trivial⟩
 | _::ps,_::aW,h,ap=>⟨h.1,nS ps aW h.2 ap⟩
 | [],_::_,h,_=>h.elim
 | _::_,[],h,_=>h.elim
def I9(w:World)(p:kx)(V:Mu)(ps gs:List (ByteArray×Bool))(e:Ending)(ab:World):Prop:=
 ∃(aW:List dt) (KA:Mt) (k kc:Nat),e=.returned (.slice KA k kc)/\(∀fs,iU ⟨p.M,ps,fs⟩ V gs aW)/\k<=kc/\Sl ab (fresh w ab) KA k (aW.map eU)/\cr ab p.s p.A p.n p.c p.l/\Fr (λb=>b=p.s) w ab
theorem zl(p:kx)(left:Nat)(V:Mu)(N:Mt)(bA bk:Nat)(aY:ByteArray)(ps:List (ByteArray×Bool))(QA:Mt)(b1 qc:Nat)(bg:Value)(m:ByteArray)(gs:List (ByteArray×Bool))(bV:Mt)(bW bD:Nat)(u:Value)(w:World)(h:gJ w p left)(hN:nc w p.s V N bA)(bt:bA<=1000)
  (bO:Sl w (off (λb=>b=p.s) w) QA b1 (ps.map cD)) (bK:b1<=2) (bB:Sl w (off (λb=>b=p.s) w) bV bW (gs.map cD)) (cC:bW<=2) :
  Calls prog 66 #[.pointer (some ⟨p.wb,0,none⟩),.agg #[aY,.slice QA b1 qc,bg],.agg #[m,.slice bV bW bD,u],.slice N bA bk] w (I9 w p V ps gs):=by
 obtain⟨s,wb,A,n,c,l,GA,gn,gc,MA,mn,mc,FA,fn,fc,M,F,ar⟩:=p;have an:=h.blk.lt;have cf:=h.src.lt;have cl:gs.length=bW:=by have:=bB.1;simpa using this
 simp only at an cf;have H:=bF h hN bO bB;clear h hN bO bB;go_enter func66,ntmps66;go_wp2_with(fail);generalize ba:World.alloc _ _=W;have aw:=h9 ba;have cK:=gb ba;have bM:=fG ba;have cN:W=w.heap.size+1+1:=by rw[<-ba];simp
 have ah:=bF (H.1.aj aw) (aw.mono (M':=λb=>b=s) λ_ h=>h.elim) cK bM;clear ba aw cK bM;go_loopw [9,10] (λU cA wr=>∃(j:Nat) (cM:Mt) (rc:Nat) (aW:List dt),j<=bW/\cA=.int .i64 j/\U=.slice cM j rc/\(∀fs,iU ⟨M,ps,fs⟩ V (gs.take j) aW)/\gJ wr ⟨s,wb,A,n,c,l,GA,gn,gc,MA,mn,mc,FA,fn,fc,M,F,ar⟩ left/\Fr (λb=>b=s) w wr/\au wr w 96 #[aY,.slice QA b1 qc,bg]/\au wr (w.heap.size+1) 96 #[m,.slice bV bW bD,u]/\
  Gr (λb=>w.heap.size<=b) (w.heap.size+1+1) 197 7 wr cM j rc (aW.map eU)) (λ_ cA _=>bW - (intOf cA).toNat)
 case atStart=>exact⟨0,none,0,[],Md _,rfl,rfl,λfs=>trivial,ah.1,ah.2.1,ah.2.2.1,ah.2.2.2,Gr.nil _ _ _ _ _⟩
 case round=>
  obtain⟨j,cM,rc,aW,bd,rfl,rfl,aL,J,hF,b0,bj,hG⟩:=hrel;clear ah;have a3:=cL J hF b0 bj hG;have ap:=ae aL;obtain⟨d0,aK,aM⟩:=bj.two;obtain⟨e0,be,a6⟩:=b0.two;by_cases cg:j<bW
  .obtain⟨b,o,q,cs,eN,O,hm,a5,bh,hc⟩:=Sl.hf (z:=2) (Sl.cZ H.2.2.2 hF) (λ_=>rfl) cg;subst eN;obtain rfl:=tm.1 a5;have c1:=hc 1 _ rfl;have cU:=ae hm;have aV:(0:Int)<=(j:Int):=ad;have dN:(j:Int)<(bW:Int):=ad;have od:=hF.size;clear a5 hc bh hm O J hF b0 bj hG aL;obtain⟨q1,cJ⟩:=q;simp only at c1
   cases cJ with
   | true=>
    go_wp2_with(fail);refine(qV ⟨s,wb,A,n,c,l,GA,gn,gc,MA,mn,mc,FA,fn,fc,M,F,ar⟩ left V N bA bk aY ps QA b1 qc bg wr a3.1 (H.2.1.on a3.2.1) bt (Sl.cZ H.2.2.1 a3.2.1) bK).mono ?_;rintro e aT ⟨r,IA,i,ic,rfl,a8,cH,R,aA,ak⟩;simp only at a8 aA ak;have L:=a3.2.2.2.2.cZ ak (λb O _=>⟨ad,ad⟩);have hd:(eU (.mx r)).rep aT (lh (λb=>w.heap.size<=b) aT (.slice cM j rc)) [true,.string r.name,.slice IA i ic,(0:Int),(0:Int),Mq,()]:=
     yh (R.mono λb O=>⟨by have:=O.1;omega,O.2,λh=>by have:=(a3.2.2.2.2.lt h).2;have:=O.1;omega⟩) cH
    have bc:=dm (a3.1.next aA ak) (a3.2.1.trans ak) (a3.2.2.1.on ak ad) (a3.2.2.2.1.on ak ad) L hd;have g:=ae a8;have cv:w+1+1<=aT.heap.size:=by have:=ak.size;omega
    clear d0 aK aM e0 be a6 c1 L hd ak aA R cH a8 a3;go_wp2_with((at_builtin;refine bL sM rfl (.tmp 24) (.tmp 30) rfl bc.2.2.2.2.1 bc.2.2.2.2.2 rfl rfl rfl ad ad cv ?_;intro bP c2 b7 al aC cn cb;have bX:=ag al aC;clear al aC cn cb));have bv:∀b,(Value.slice cM j rc).ownBlock=some b->w.heap.size+1+1<=b:=λb O=>(bc.2.2.2.2.1.lt O).1;have a7:Fr (λb=>b=s) w b7:=bc.2.1.eZ (bX.2.below bc.2.1.size λk aj h=>by have:=bv k h;omega);have cB:gJ b7 ⟨s,wb,A,n,c,l,GA,gn,gc,MA,mn,mc,FA,fn,fc,M,F,ar⟩ left:=(H.1).next (bc.1.src.cT bX.2 λb O h=>by have:=bv b h;simp only at O;omega) a7;have b3:=cL cB a7 (bc.2.2.1.on bX.2 (λh=>by have:=bv _ h;omega)) (bc.2.2.2.1.on bX.2 (λh=>by have:=bv _ h;omega)) bX.1;clear bv a7 cB;go_roundw
    case rel=>
     refine⟨j+1,bP,c2,aW++[.mx r],ad,by go_num,rfl,λfs=>?_,b3.1,b3.2.1,b3.2.2.1,b3.2.2.2.1,by rw[LR];exact b3.2.2.2.2⟩;rw[List.take_add_one,cU.o];exact nS _ _ (ap.o fs) ⟨rfl,g.o fs⟩
    case measure=>exact aH
   | false=>
    go_wp2_with(fail);refine(jT ⟨s,wb,A,n,c,l,GA,gn,gc,MA,mn,mc,FA,fn,fc,M,F,ar⟩ left V N bA bk wr a3.1 (H.2.1.on a3.2.1) bt).mono ?_;rintro e aT ⟨x,cX,cO,cY,rfl,a8,cH,R,aA,ak⟩;simp only at aA ak;have L:=a3.2.2.2.2.cZ ak (λb O _=>⟨ad,ad⟩);have hd:(eU (.ex x)).rep aT (lh (λb=>w.heap.size<=b) aT (.slice cM j rc)) [false,Mq,(),.int .i64 x.bf,.int .i64 x.numOf,.string x.bu,.slice cX cO cY]:=
     GM (R.mono λb O=>⟨by have:=O.1;omega,O.2,λh=>by have:=(a3.2.2.2.2.lt h).2;have:=O.1;omega⟩) cH
    have bc:=dm (a3.1.next aA ak) (a3.2.1.trans ak) (a3.2.2.1.on ak ad) (a3.2.2.2.1.on ak ad) L hd;have g:=ae a8;have cv:w+1+1<=aT.heap.size:=by have:=ak.size;omega
    clear d0 aK aM e0 be a6 c1 L hd ak aA R cH a8 a3;go_wp2_with((at_builtin;refine bL sM rfl (.tmp 32) (.tmp 37) rfl bc.2.2.2.2.1 bc.2.2.2.2.2 rfl rfl rfl ad ad cv ?_;intro bP c2 b7 al aC cn cb;have bX:=ag al aC;clear al aC cn cb));have bv:∀b,(Value.slice cM j rc).ownBlock=some b->w.heap.size+1+1<=b:=λb O=>(bc.2.2.2.2.1.lt O).1;have a7:Fr (λb=>b=s) w b7:=bc.2.1.eZ (bX.2.below bc.2.1.size λk aj h=>by have:=bv k h;omega);have cB:gJ b7 ⟨s,wb,A,n,c,l,GA,gn,gc,MA,mn,mc,FA,fn,fc,M,F,ar⟩ left:=(H.1).next (bc.1.src.cT bX.2 λb O h=>by have:=bv b h;simp only at O;omega) a7;have b3:=cL cB a7 (bc.2.2.1.on bX.2 (λh=>by have:=bv _ h;omega)) (bc.2.2.2.1.on bX.2 (λh=>by have:=bv _ h;omega)) bX.1;clear bv a7 cB;go_roundw
    case rel=>
     refine⟨j+1,bP,c2,aW++[.ex x],ad,by go_num,rfl,λfs=>?_,b3.1,b3.2.1,b3.2.2.1,b3.2.2.2.1,by rw[LR];exact b3.2.2.2.2⟩;rw[List.take_add_one,cU.o];exact nS _ _ (ap.o fs) ⟨rfl,g.o⟩
    case measure=>exact aH
  .obtain rfl:j=bW:=ad;clear J hF b0 bj hG aL;go_wp2_with(fail);go_ret;have ac:=ap.o;rw[LS ad] at ac;exact⟨aW,cM,j,rc,rfl,ac,a3.2.2.2.2.cap.1,a3.2.2.2.2.sl (λb h hp=>⟨hp,h⟩) (λb h hp=>⟨ad,h⟩),a3.1.src,a3.2.1⟩
def ld(n:Nat):Code->Option Code
 | .block k c=>if k=n then some c else ld n c
 | .seq a b=>match ld n a with
  | some c=>some c
  | none=>ld n b
 | .loop c=>ld n c
 | .scope c=>ld n c
 | _=>none
noncomputable def xx:Code:=((Tryz.f31.body.bind gg).getD .skip)
noncomputable def Fy:Code:=((ld 2 xx).getD .skip)
noncomputable def IP:Code:=match Fy with
 | .seq a _=>a
 | c=>c
noncomputable def IT:Code:=match Fy with
 | .seq _ b=>b
 | _=>.skip
def kx.env(p:kx)(ps:List (ByteArray×Bool)):Env:=⟨p.M,ps,p.F.map λf=>(f.name,f.params)⟩
structure oL(p:kx)(S w:World)(L:Nat):Prop where
 src:cr w p.s p.A p.n p.c p.l
 blk:au w p.wb 85 #[.pointer (some ⟨p.s,0,none⟩),.slice p.GA p.gn p.gc,.slice p.MA p.mn p.mc,.slice p.FA p.fn p.fc,.int .i64 L,.bool p.ar]
 fr:Fr p.MW S w
 le:L<=24
theorem oL.wr{bJ:Nat}(h0:gJ S p bJ)(h:oL p S w L):gJ w p L:=
 ⟨h.src,h.blk,h0.ne,Sl.cZ h0.ms h.fr,Sl.cZ h0.fs h.fr,h0.nm,h0.nf,h0.eD,h0.ja,h.le⟩
theorem oL.next(h:oL p S w L)(bi:p.s<p.wb)(hs:cr ab p.s p.A p.n p.c p.l)(O:Fr (λb=>b=p.s) w ab):oL p S ab L:=
 ⟨hs,h.blk.on O ad,h.fr.trans (O.mono λ_ h=>.inl h),h.le⟩
theorem oL.aj(h:oL p S w L)(bi:p.s<p.wb)(O:Ext w ab):oL p S ab L:=h.next bi (h.src.cT O λ_ _ h=>h) (O.mono λ_ h=>h.elim)
theorem oL.fresh{bJ:Nat}(h:oL p S w L)(h0:gJ S p bJ)(O:Fr M w ab)(hM:∀b,M b->S.heap.size<=b):oL p S ab L:=by
 have ac:=h0.src.lt;have ap:=h0.blk.lt;exact⟨h.src.cT O λb b0 hm=>by have:=hM b hm;omega,h.blk.on O λhm=>by have:=hM _ hm;omega,h.fr.eZ (O.below h.fr.size λk aj hm=>by have:=hM k hm;omega),h.le⟩
theorem oL.IG{R:Nat}(h:oL p S w L)(hw:gJ ab p R)(O:Fr p.MW w ab):oL p S ab R:=⟨hw.src,hw.blk,h.fr.trans O,hw.kO⟩
def G6(p:kx)(d:Nat)(V T:Mu)(ps:List (ByteArray×Bool))(L:Nat)(w:World)(e:Ending)(ab:World):Prop:=
 ∃(ls:List aD) (R:Nat) (br:Mt) (on bZ:Nat),e=.returned (.slice br on bZ)/\Made (p.env ps) d V T L R ls/\on<=bZ/\Sl ab (fresh w ab) br on (ls.map bj)/\gJ ab p R/\Fr p.MW w ab
def I5(p:kx)(L:Nat):Prop:=∀(d f:Nat) (V T:Mu) (N:Mt) (bA bk:Nat) (aY:ByteArray) (ps:List (ByteArray×Bool)) (QA:Mt) (b1 qc:Nat) (bg:Value) (w:World),d<=2->f<=6->gJ w p L->Sl w (off p.MW w) N bA (V.map D.s)->V.length+L<=60->mq T L->
 Sl w (off p.MW w) QA b1 (ps.map cD)->b1<=2->Calls prog 31 #[.pointer (some ⟨p.wb,0,none⟩),.agg #[.string aY,.slice QA b1 qc,bg],.slice N bA bk,.int .i64 (d:Int),.int .i64 (f:Int)] w (G6 p d V T ps L w)
def hb(p:kx)(ct B:Nat)(a7 bl:Value)(d:Nat)(ps:List (ByteArray×Bool))(V T:Mu)(ls:List aD)(N:Int)(S:World)(L:Nat)(aw:World)(aY:ByteArray)(QA:Mt)(b1 qc:Nat)(bg:Value)(aq:Mt)(bd ba:Nat)(br:Mt)(on bZ:Nat)(w:World):Prop:=∃(aJ:Mu) (m:List aD) (st:aD) (bE:Nat) (cs:List Value),
 oL p aw w bE/\au w ct 96 #[.string aY,.slice QA b1 qc,bg]/\lA B 9 1 151 11 w aq bd ba (aJ.map D.s) br on bZ ((ls++m).map bj)/\au w S.heap.size 151 cs.toArray/\(bj st).rep w (lh (λb=>B<=b/\(Value.slice aq bd ba).ownBlock≠some b) w (.slice br on bZ)) cs/\
 fm (p.env ps) d (V++decls ls) (T++decls ls) (.eY (m++[st]))/\(∀n∈(ao.eY (m++[st])).all,∃k,bE<=k/\k<L+1/\n=hA k)/\(ao.eY (m++[st])).num<=2*(L+1 - bE)/\bE<=L/\aJ ⊆ V++decls (ls++(m++[st]))/\aJ.length+bE<=60/\on<=12000
def lQ(p:kx)(ct B:Nat)(a7 bl:Value)(d:Nat)(ps:List (ByteArray×Bool))(V T:Mu)(ls:List aD)(N:Int)(S:World)(L:Nat)(aw:World)(aY:ByteArray)(QA:Mt)(b1 qc:Nat)(bg:Value)(a:Act)(w:World):Prop:=∃(aq:Mt) (bd ba:Nat) (br:Mt) (on bZ:Nat) (gR fn u8 gS eW bD u16 gx gy eX eY eZ e3 e4 e5 e6 e7 e8 e9 fa fb fd u32 fe ff fi fj fk fl fp fq fr fs ft fu fv fw fx fz fA fB fC fD fE fF fG fI fJ fK fL fM fN fO fP u64 fR fS fT fU fV fW fX fY fZ f3 f4 f5 f6 f7 f8 f9 ga gb gd ge gf gg gh gi gj gk gl gm go gp gq gr gs gt gu H I am aG aK aM aU a4 bb bf bm bo bp bq bu bz bB bI bW b6 b9 ca cd cj ck cm cq cu cw cy cB cE cF cH cK cM cN cO cQ cR cT cV cW cX cY c4 c5 c6 c7 c8 c9 da db dc dd de df dg dh di dj dk dl dm dn dp dr ds dt du dv dw dx dy dz dA dD dE dF dG dH dI dJ dK dL dM dO dP dR dS dT dU dV dY dZ d0 d1 d2 d3 d4 d5 d6 d7 d8 d9 ea eb ec ed ee ef eg eh ej ek el em en eo ep eq er es et ev ew ex ey ez eA eB eC eD eE eF eG eH eI eK eL eM eN eO eP eQ eR eT eU eV cc:Value),hb p ct B a7 bl d ps V T ls N S L aw aY QA b1 qc bg aq bd ba br on bZ w/\a=⟨#[.pointer (some ⟨p.wb,0,none⟩),a7,.slice aq bd ba,.int .i64 (d:Int),bl,gR,.pointer (some ⟨ct,0,none⟩),fn,u8,gS,eW,.slice br on bZ,.int .i64 N,.pointer (some ⟨S.heap.size,0,none⟩),cc,bD,u16,gx,gy,eX,eY,eZ,e3,e4,e5,e6,e7,e8,e9,fa,fb,fd,u32,fe,ff,fi,fj,fk,fl,fp,fq,fr,fs,ft,fu,fv,fw,fx,fz,fA,fB,fC,fD,fE,fF,fG,fI,fJ,fK,fL,fM,fN,fO,fP,u64,fR,fS,fT,fU,fV,fW,fX,fY,fZ,f3,f4,f5,f6,f7,f8,f9,ga,gb,gd,ge,gf,gg,gh,gi,gj,gk,gl,gm,go,gp,gq,gr,gs,gt,gu,H,I,am,aG,aK,aM,aU,a4,bb,bf,bm,bo,bp,bq,bu,bz,bB,bI,bW,b6,b9,ca,cd,cj,ck,cm,cq,cu,cw,cy,cB,cE,cF,cH,cK,cM,cN,cO,cQ,cR,cT,cV,cW,cX,cY,c4,c5,c6,c7,c8,c9,da,db,dc,dd,de,df,dg,dh,di,dj,dk,dl,dm,dn,dp,dr,ds,dt,du,dv,dw,dx,dy,dz,dA,dD,dE,dF,dG,dH,dI,dJ,dK,dL,dM,dO,dP,dR,dS,dT,dU,dV,dY,dZ,d0,d1,d2,d3,d4,d5,d6,d7,d8,d9,ea,eb,ec,ed,ee,ef,eg,eh,ej,ek,el,em,en,eo,ep,eq,er,es,et,ev,ew,ex,ey,ez,eA,eB,eC,eD,eE,eF,eG,eH,eI,eK,eL,eM,eN,eO,eP,eQ,eR,eT,eU,eV],[]⟩
theorem hb.simple(p:kx)(ct B:Nat)(a7 bl:Value)(d:Nat)(ps:List (ByteArray×Bool))(V T:Mu)(ls:List aD)(N:Int)(L:Nat)(aw:World)(aY:ByteArray)(QA:Mt)(b1 qc:Nat)(bg:Value){aJ:Mu}{aq:Mt}{br:Mt}{bZ bJ:Nat}(h0:gJ S p bJ)(cJ:p.wb<ct)(bP:ct<B)(hG:lA B 9 1 151 11 S aq bd ba (aJ.map D.s) br on bZ (ls.map bj))
  (hV:aJ ⊆ V++decls ls) (bT:aJ.length+L+1<=60) (bA:on<=10000) (aQ:B<=S.heap.size) {X:World} {bE:Nat} {st:aD} {cs:List Value} (hC:oL p S X bE) (cz:au X S 151 cs.toArray) (a5:(bj st).rep X (fresh S X) cs)
  (a8:G0 (p.env ps) d (V++decls ls) (T++decls ls) st) (y:∀n∈st.all,∃k,bE<=k/\k<L+1/\n=hA k) (K:st.num<=2*(L+1 - bE)) (hle:bE<=L) (a:Fr p.MW aw S) (c:au S ct 96 #[aY,.slice QA b1 qc,bg]):hb p ct B a7 bl d ps V T ls N S L aw aY QA b1 qc bg aq bd ba br on bZ X:=by
 have bi:=h0.ne;refine⟨aJ,[],st,bE,cs,⟨hC.src,hC.blk,a.trans hC.fr,hC.le⟩,c.on hC.fr (λh=>by rcases h with h|h<;>omega),?_,cz,?_,?_,?_,?_,hle,?_,ad,ad⟩
 .rw[Mg];exact hG.cZ hC.fr λb O _=>by rcases O with O|O<;>omega
 .exact D.aK (λb O=>⟨⟨by have:=O.1;omega,λh=>by have:=(hG.one.lt h).2;have:=O.1;omega⟩,O.2,λh=>by have:=(hG.two.lt h).2;have:=O.1;omega⟩) _ _ a5
 .exact tA.2 a8
 .rw[Mh,all_cons];intro n hn;rcases LU.1 hn with hn|hn
  .exact y n hn
  .simp[ao.eY,ao.all] at hn
 .rw[Mh,td];exact K
 .intro x hx;have:=hV hx;exact Ak
theorem Fh{f:aL}{cs:List Value}(h:(dD f).rep w P cs):∃(A:Mt) (n c:Nat) (A2:Mt) (n2 c2:Nat),cs=[.string f.name,.slice A n c,.slice A2 n2 c2]/\n<=c/\Sl w P A n (f.params.map cD):=by
 unfold dD at h;rw[bN,cu] at h;obtain⟨y,rfl,h⟩:=h;obtain⟨A,n,c,cX,rfl,hc,hs,h⟩:=aO.1 h;obtain⟨A2,n2,c2,bx,rfl,cb,bS,h⟩:=aO.1 h;rw[aR] at h;subst h;exact⟨A,n,c,A2,n2,c2,rfl,hc,hs⟩
theorem oO:cn prog 94 151 (.agg #[(0:Int),Mq,(0:Int),(0:Int),Mq,(),Mq,(),(),(),()]) 11 192:=cn.mk' Tryz.underlying94 (by kernel_rfl) rfl ad
theorem F9{G:Env}{d:Nat}{aJ bc T:Mu}{aa:List aD}(a5:sc G aJ r)(hV:aJ ⊆ bc)(ac:fm G 0 aJ T (.eY aa)):fm G d bc T (.eY ((.lock false r::aa)++[.lock true r])):=by
 rw[L4,m7];refine⟨kX hV a5,?_⟩;simp only[aD.decl,Mg];exact tz.2 ⟨ds _ 0 d aJ _ _ _ hV (λ_ _ h=>h) (Md _) ac,tA.2 (kX (λx hx=>LU.2 (.inl (hV hx))) a5)⟩
theorem bw{P:Program}{ops:Array Oper}{Q:Exit->Act->World->Prop}{R:World->World->Prop}{tails:List Nat}{rest:PT}{a:Act}{W:World}(C:World->Prop)(hC:C W)(h:∀V,C V->cS P ops Q R tails rest a V):cS P ops Q R tails rest a W:=h W hC
structure qY(p:kx)(S wr:World)(L:Nat)(cs:Array Value)(V:World):Prop where
 c:oL p S V L
 s:au V S.heap.size 151 cs
 f:Fr (λb=>b=p.s\/b=S.heap.size) wr V
theorem qY.aj{p:kx}{S wr V bc:World}{L:Nat}{cs:Array Value}(h:qY p S wr L cs V)(bi:p.s<p.wb)(O:Ext V bc):qY p S wr L cs bc:=⟨h.c.aj bi O,h.s.aj O,h.f.trans (O.mono λ_ h=>h.elim)⟩
theorem qY.call{wr bc:World}{cs:Array Value}(h:qY p S wr L cs V)(bi:p.s<p.wb)(dp:p.s<S.heap.size)(hs:cr bc p.s p.A p.n p.c p.l)(O:Fr (λb=>b=p.s) V bc):qY p S wr L cs bc:=⟨h.c.next bi hs O,h.s.on O ad,h.f.trans (O.mono λ_ h=>.inl h)⟩
theorem qY.aN{p:kx}{S wr V:World}{L bJ:Nat}{cs:Array Value}(h:qY p S wr L cs V)(h0:gJ S p bJ)(i:Nat)(v:Value):qY p S wr L (cs.setIfInBounds i v) (V.setCell ⟨S,i,none⟩ v):=
 ⟨h.c.fresh (M:=λb=>b=S.heap.size) h0 ((Fr.refl (λb=>b=S.heap.size) V).setCell (.inl rfl) _) (λb O=>ad),h.s.aN i v,h.f.setCell (.inl (.inr rfl)) _⟩
theorem mA(V:World)(g:Nat)(v1 v2:Int)(h0:V.cell? ⟨g,0,none⟩=some (.int .u8 v1))(ac:V.cell? ⟨g,1,none⟩=some (.int .u8 v2)) :
  (convert 87 9 (.slice (some ⟨g,0,none⟩) 2 2)).run prog V=.ok (.string (strOf [byteOf v1,byteOf v2])) V:=by
 have:=run_convert_bytes_arg (P:=prog) V 87 5 Tryz.underlying87 Tryz.underlying5 g 0 2 2 [v1,v2] rfl (λi aX=>by
  obtain rfl|rfl:i=0\/i=1:=ad
  .exact h0
  .exact ac) 9 Tryz.underlying9
 rw[this];rfl
theorem ve{r t:Int}(bD:L<=24)(ac:IntKind.u8.wrap (IntKind.i64.wrap (97+(L:Int)))=r)(ap:IntKind.u8.wrap (IntKind.i64.wrap (97+Int.tmod (IntKind.i64.wrap 0) 26))=t):(⟨#[118]⟩++strOf [byteOf r,byteOf t]:ByteArray)=hA L:=by
 subst ac ap;have h:∀k:Fin 25,(⟨#[118]⟩++strOf [byteOf (IntKind.u8.wrap (IntKind.i64.wrap (97+((k.val:Nat):Int)))),byteOf (IntKind.u8.wrap (IntKind.i64.wrap (97+Int.tmod (IntKind.i64.wrap 0) 26)))]:ByteArray)=hA k.val:=by decide
 exact h ⟨L,ad⟩
theorem uY{w:World}{P Q:Nat->Prop}:∀{l:Mu} {xs:List Value},D.aM w P (l.map D.s) xs->D.aM w Q (l.map D.s) xs
 | [],xs,h=>by simpa only[Me,D.aM] using h
 | e::l,xs,h=>by
  rw[LQ] at h ⊢;obtain⟨y,rfl,bb⟩:=cu.1 h;exact cu.2 ⟨y,rfl,uY bb⟩
theorem Gr.strs{Q:Nat->Prop}{e:TypeId}{A:Mt}{n c:Nat}{l:Mu}(h:Gr P B e 1 w A n c (l.map D.s)):Gr Q B e 1 w A n c (l.map D.s):=by
 obtain⟨hl,xs,ac,ap⟩:=h;exact⟨hl,xs,ac,uY ap⟩
theorem we(s:aD):(bj s).sz=11:=by
 cases s<;>simp[bj,gO,D.sz,D.zi,df,jU,gj,kL]
theorem mg:jU.rep w P [(0:Int),(0:Int),Mq,()]:=fw.2 ⟨none,0,rfl⟩
theorem kT:gj.rep w P [Mq,()]:=by
 exact zT
theorem eN{k:Int}{nm:ByteArray}{e r:D}{aW th el:List D}{e0 e1 e2 e3 bl r1:Value}{cR A2 cC:Mt}{n1 n2 n3 c1 c2 c3:Nat}(he:e.rep w P [e0,e1,e2,e3])(a5:r.rep w P [bl,r1])(ac:Sl w P cR n1 aW)(bY:n1<=c1)(ap:Sl w P A2 n2 th)(c7:n2<=c2)(aV:Sl w P cC n3 el)(a:n3<=c3):
  (gO k nm e r aW th el).rep w P [k,nm,e0,e1,e2,e3,bl,r1,.slice cR n1 c1,.slice A2 n2 c2,.slice cC n3 c3]:=by
 unfold gO;rw[bN];exact bo.2 ⟨_,rfl,cu.2 ⟨_,rfl,g3.2 ⟨[e0,e1,e2,e3],_,rfl,he,g3.2 ⟨[bl,r1],_,rfl,a5,aO.2 ⟨cR,n1,c1,_,rfl,bY,ac,aO.2 ⟨A2,n2,c2,_,rfl,c7,ap,aO.2 ⟨cC,n3,c3,[],rfl,a,aV,aR.2 rfl⟩⟩⟩⟩⟩⟩⟩
theorem lA.names{aq:Mt}{aJ:Mu}{br:Mt}{bZ:Nat}{l:List D}{e1 e2:TypeId}{bp:Nat}(h:lA B e1 1 e2 bp w aq bd ba (aJ.map D.s) br on bZ l)(hM:∀b,M b->b<B):Sl w (off M w) aq bd (aJ.map D.s):=
 h.one.sl (λb O hp=>⟨O,λhm=>by have:=hM b hm;have:=hp.1;omega⟩) (λb O hp=>⟨O,λhm=>by have:=hM b hm;omega⟩)
def SK(k:Int)(d bd:Nat):Prop:=∀(p:kx) (ct B:Nat) (a7 bl:Value) (ps:List (ByteArray×Bool)) (V T:Mu) (ls:List aD) (N:Int) (S:World) (L:Nat) (aw:World) (aY:ByteArray) (QA:Mt) (b1 qc:Nat) (bg:Value) (aJ:Mu) (aq:Mt) (ba:Nat) (br:Mt) (on bZ:Nat) (bJ:Nat) (cJ:p.wb<ct) (bP:ct<B) (aQ:B<=S.heap.size) (bK:b1<=2) (wr:World) (bi:p.s<p.wb) (b2:p.s<S.heap.size) (cg:p.wb<S.heap.size) (b8:aJ.length=bd) (od:S.heap.size<=wr.heap.size) (bn:Mw (gJ S p bJ/\au S ct 96 #[.string aY,.slice QA b1 qc,bg]/\Sl S (off p.MW S) QA b1 (ps.map cD)/\lA B 9 1 151 11 S aq bd ba (aJ.map D.s) br on bZ (ls.map bj)/\Sl S (off p.MW S) aq bd (aJ.map D.s)/\∀b,p.MW b->b<B)) (bU:Mw (oL p S wr L/\au wr ct 96 #[.string aY,.slice QA b1 qc,bg]/\au wr S.heap.size 151 #[.int .i64 5,.string ⟨#[]⟩,.int .i64 0,.int .i64 0,.string ⟨#[]⟩,.slice none 0 0,.string ⟨#[]⟩,.slice none 0 0,.slice none 0 0,.slice none 0 0,.slice none 0 0])) (bT:aJ.length+L+1<=60) (bA:on<=10000) (aR:d<=2) (cc:Mw (aJ ⊆ V++decls ls/\mq (T++decls ls) (L+1)/\∀R,R<=L->I5 p R)) (aH:Nat) (aX:Mw (gJ aw p aH/\Sl aw (off p.MW aw) QA b1 (ps.map cD)/\Fr p.MW aw S)) (bC:aw.heap.size<=ct)
  (Q:Exit->Act->World->Prop) (hQ0:∀c a d v w,Q (.panic c) (a.put d v) w->Q (.panic c) a w) (hN:∀a w,lQ p ct B a7 bl d ps V T ls N S L aw aY QA b1 qc bg a w->Q .normal a w) (K:Act->World->Prop) (hK:∀a w,Code.wp prog IT Q a w->K a w)
  {gR fn u8 gS eW bD u16 gx gy eX eY eZ e3 e4 e5 e6 e7 e8 e9 fa fb fd u32 fe ff fi fj fk fl fp fq fr fs ft fu fv fw fx fz fA fB fC fD fE fF fG fI fJ fK fL fM fN fO fP u64 fR fS fT fU fV fW fX fY fZ f3 f4 f5 f6 f7 f8 f9 ga gb gd ge gf gg gh gi gj gk gl gm go gp gq gr gs gt gu H I am aG aK aM aU a4 bb bf bm bo bp bq bu bz bB bI bW b6 b9 ca cd cj ck cm cq cu cw cy cB cE cF cH cK cM cN cO cQ cR cT cV cW cX cY c4 c5 c6 c7 c8 c9 da db dc dd de df dg dh di dj dk dl dm dn dp dr ds dt du dv dw dx dy dz dA dD dE dF dG dH dI dJ dK dL dM dO dP dR dS dT dU dV dY dZ d0 d1 d2 d3 d4 d5 d6 d7 d8 d9 ea eb ec ed ee ef eg eh ej ek el em en eo ep eq er es et ev ew ex ey ez eA eB eC eD eE eF eG eH eI eK eL eM eN eO eP eQ eR eT eU eV:Value},
  Code.wp prog IP (Exit.then K Q) ⟨#[.pointer (some ⟨p.wb,0,none⟩),a7,.slice aq bd ba,.int .i64 (d:Int),bl,gR,.pointer (some ⟨ct,0,none⟩),fn,u8,gS,eW,.slice br on bZ,.int .i64 N,.pointer (some ⟨S.heap.size,0,none⟩),(.int .i64 k),bD,u16,gx,gy,eX,eY,eZ,e3,e4,e5,e6,e7,e8,e9,fa,fb,fd,u32,fe,ff,fi,fj,fk,fl,fp,fq,fr,fs,ft,fu,fv,fw,fx,fz,fA,fB,fC,fD,fE,fF,fG,fI,fJ,fK,fL,fM,fN,fO,fP,u64,fR,fS,fT,fU,fV,fW,fX,fY,fZ,f3,f4,f5,f6,f7,f8,f9,ga,gb,gd,ge,gf,gg,gh,gi,gj,gk,gl,gm,go,gp,gq,gr,gs,gt,gu,H,I,am,aG,aK,aM,aU,a4,bb,bf,bm,bo,bp,bq,bu,bz,bB,bI,bW,b6,b9,ca,cd,cj,ck,cm,cq,cu,cw,cy,cB,cE,cF,cH,cK,cM,cN,cO,cQ,cR,cT,cV,cW,cX,cY,c4,c5,c6,c7,c8,c9,da,db,dc,dd,de,df,dg,dh,di,dj,dk,dl,dm,dn,dp,dr,ds,dt,du,dv,dw,dx,dy,dz,dA,dD,dE,dF,dG,dH,dI,dJ,dK,dL,dM,dO,dP,dR,dS,dT,dU,dV,dY,dZ,d0,d1,d2,d3,d4,d5,d6,d7,d8,d9,ea,eb,ec,ed,ee,ef,eg,eh,ej,ek,el,em,en,eo,ep,eq,er,es,et,ev,ew,ex,ey,ez,eA,eB,eC,eD,eE,eF,eG,eH,eI,eK,eL,eM,eN,eO,eP,eQ,eR,eT,eU,eV],[]⟩ wr
namespace C2
theorem fy{p:Prop}(h:p:=by
 refine ch ?_;generalize hX:World.setCell _ _ _=X;have J:=cp hX;have bp:au X S 151 #[(1:Int),.string (hA L),.int .i64 z.bf,.int .i64 z.numOf,.string z.bu,.slice b4 ci zc,Mq,(),(),(),()]:=by
  have ac:=aA.s.aN 1 (.string (⟨#[118]⟩++strOf [byteOf r,byteOf t]));rw[ve ad aB.1 aB.2] at ac;rw[<-hX]
  try rw[ve ad aB.1 aB.2]
  exact ac
 have H:=aA.c.fresh bn.1 J λb O=>ad;have bu:Sl X (λb=>S.heap.size<b/\b<X.heap.size) b4 ci (z.args.map bm):=(dl.ai λb O=>J.block b O.2 (ay O.1)).mono λb O=>⟨O.1,LL O.2 J.size⟩
 have j:∀b,(Value.slice aq bd ba).ownBlock=some b->B<=b/\b<S.heap.size:=λb O=>bn.2.2.2.1.one.lt O;have aS:Gr (λ_=>False) B 9 1 X aq bd ba (aJ.map D.s):=((Gr.strs (Q:=λ_=>False) bn.2.2.2.1.one).cZ aA.c.fr λb O hl=>⟨λh=>h,bn.2.2.2.2.2 b O⟩).dr J.size λb an hp=>J.block b an (hp.elim (λh=>h.elim) λhp=>by have:=j b hp;omega);have aN:=gr bp H bu aS aL bO J.size;have cw:=ae j;have b0:S<X.heap.size:=bp.lt;have cv:B<=X:=ad;clear hX J bp H bu aS j aL bO aA dl d0 aK aM;obtain⟨d0,aK,aM⟩:=aN.1.two;go_wp2_with(at_builtin;refine bL kF rfl (.tmp 114) (.tmp 117) rfl aN.2.2.2.1 (uJ.2 rfl) rfl rfl rfl ad ad cv ?_;intro dk cl c6 al aC cn cb;have dx:=az al aC cn;clear al aC cn cb);obtain⟨bf,a9,bo⟩:=dx.o;obtain⟨bp,H,bu,aS,aL,bO,eL⟩:=aN.o;have j:=cw.o;have m:∀b,(Value.slice br on bZ).ownBlock=some b->B<=b/\b<S.heap.size:=λb O=>bn.2.2.2.1.two.lt O;have ax:=bn.2.2.2.1.ne;have aF:∀b,(Value.slice dk (bd+1) cl).ownBlock=some b->(b<S.heap.size/\(Value.slice aq bd ba).ownBlock=some b)\/X.heap.size<=b:=λb O=>(bo b O).imp (λh=>⟨(j b h).2,h⟩) id;have aW:¬(Value.slice aq bd ba).ownBlock=some S.heap.size:=λh=>by have:=(j _ h).2;omega
 have cm:=a9.size;have bS:L<=24:=H.le
 try refine hN _ _ ?_
 unfold lQ;refine⟨dk,bd+1,cl,br,on,bZ,?_⟩
 iterate 240 apply Exists.intro
 refine⟨?_,rfl⟩;refine⟨aJ++[hA L],[],.set true (hA L) z,L,_,(oL.mk H.src H.blk (aX.2.2.trans H.fr) H.le).fresh aX.1 a9 (λb O=>by have:=(j b O).1;omega),(bn.2.1.on H.fr (λh=>by rcases h with h|h<;>(simp only at h;omega))).on a9 (λh=>by have:=(j _ h).1;omega),⟨?_,?_,λb O h=>?_⟩,bp.on a9 aW,?_,?_,?_,?_,LK _,?_,by simp;omega,ad⟩
 .rw[LR,LQ,Me];have:=Gr.strs (l:=aJ++[hA L]) (Q:=λb=>B<=b/\(Value.slice br on bZ).ownBlock≠some b) (by rw[LR,LQ,Me];exact bf)
  rwa [LR,LQ,Me] at this
 .rw[Mg];have ac:Gr (λb=>(B<=b/\(Value.slice aq bd ba).ownBlock≠some b)/\b<S.heap.size) B 151 11 S br on bZ (ls.map bj):=bn.2.2.2.1.two.mono λb O hp=>⟨hp,O⟩
  have ap:=ac.cZ H.fr λb O hl=>⟨λh=>by have:=bn.2.2.2.2.2 b O;have:=h.1.1;omega,bn.2.2.2.2.2 b O⟩
  have aV:=ap.dr a9.size λb an hp=>a9.block b an (λbE=>hp.elim (λh=>h.1.2 bE) (λh=>ax b bE h));exact aV.mono λb _ hp=>⟨hp.1.1,λh=>by
   rcases aF b h with bz|bz
   .exact hp.1.2 bz.2
   .have:=hp.2;omega⟩
 .rcases aF b O with bz|bz
  .exact ax b bz.2 h
  .have:=(m b h).2;omega
 .refine eN (aZ.2 ⟨b4,ci,zc,rfl,bO,?_⟩) kT (Sl.bS _) (LK _) (Sl.bS _) (LK _) (Sl.bS _) (LK _);refine(bu.ai λb O=>a9.block b O.2 λh=>by have:=(j b h).2;have:=O.1;omega).mono λb O=>⟨⟨by have:=O.1;omega,λh=>?_⟩,by have:=O.2;omega,λh=>by have:=(m b h).2;have:=O.1;omega⟩
  have ac:=O.1;have ap:=O.2;rcases aF b h with bz|bz<;>omega
 .exact tA.2 ⟨FF ad,cc.2.1 L ad,dP cc.1 2 z aL⟩
 .intro n hn;rw[Mh,all_cons] at hn;simp only[aD.all,ao.eY,ao.all,Mg,Mi] at hn;exact⟨L,LK _,ad,hn⟩
 .rw[Mh,td];simp only[aD.num];omega
 .intro y bb;rw[Mh,rA,<-List.append_assoc];rcases LU.1 bb with bb|bb
  .exact LU.2 (.inl (cc.1 bb))
  .simp only[Mi] at bb;subst bb;exact LU.2 (.inr (by simp[decls,aD.decl]))
 ):p:=h
theorem lS{p:Prop}(h:p:=by
 have cu:L<=24:=bU.1.le;have gU:¬(wb=s\/wb=S.heap.size):=ad;have cx:S<wr.heap.size:=bU.2.2.lt;have cq:Int.tmod (L:Int) 26=(L:Int):=Int.tmod_eq_of_lt ad ad;have co:Int.tdiv (L:Int) 26=0:=Int.tdiv_eq_zero_of_lt ad ad;go_upto_region 19 with(fail);refine r0 (λb=>b=s\/b=S.heap.size) [26] (.free 0 (.free 1 (.free 3 (.free 4 (.free 5 (.held 6 (.free 7 (.free 8 (.free 9 (.free 10 (.free 11 (.free 12 (.held 13 (.free 14 (.free 15 (.free 16 (.free 17 (.free 21 (.pick [2,18] (λi=>bif i == 2 then .pick [18,22] (λi=>bif i == 18 then .held 19 (.free 20 (.pick [22] (λ_=>.free 23 (.pick [24] (λ_=>.free 25 (.pick [26] (λ_=>.stop))))))) else .free 23 (.pick [18,24] (λi=>bif i == 18 then .held 19 (.free 20 (.pick [24] (λ_=>.free 25 (.pick [26] (λ_=>.stop))))) else .pick [18] (λ_=>.held 19 (.free 20 (.free 25 (.pick [26] (λ_=>.stop)))))))) else .held 19 (.free 20 (.pick [2] (λ_=>.pick [22] (λ_=>.free 23 (.pick [24] (λ_=>.free 25 (.pick [26] (λ_=>.stop)))))))))))))))))))))))))))) ?_
 iterate 5 refine tf ?_
 refine oI ?_
 iterate 6 refine tf ?_
 refine oI ?_
 iterate 5 refine tf ?_
 have U:Mw (qY ⟨s,wb,sA,bW,bD,sl,GA,gn,gc,MA,mn,mc,FA,fn,fc,M,F,ar⟩ S wr L #[(5:Int),Mq,(0:Int),(0:Int),Mq,(),Mq,(),(),(),()] wr):=ae ⟨bU.1,bU.2.2,Mo⟩;clear a0 ai af bq am aG d0 aK aM;generalize bx:IntKind.u8.wrap (IntKind.i64.wrap (97+(L:Int)))=r;generalize bB:IntKind.u8.wrap (IntKind.i64.wrap (97+Int.tmod (IntKind.i64.wrap 0) 26))=t;have aB:=ag bx bB;clear bx bB;have bG:(strOf [byteOf r,byteOf t]).size=2:=aP _;refine qM (P:=?oM) (ops:=?IH) (Q:=?FN) (R:=?IJ) (tails:=?IW) (rest:=.free 25 (.pick [26] (λ_=>.stop))) (aa:=?Ih)
  (C:=λ(a3:Nat) (Y:Value) cP=>∃(z:VE) (b4:Mt) (ci zc:Nat),Y=.agg #[.int .i64 z.bf,.int .i64 z.numOf,.string z.bu,.slice b4 ci zc]/\qY ⟨s,wb,sA,bW,bD,sl,GA,gn,gc,MA,mn,mc,FA,fn,fc,M,F,ar⟩ S wr L #[(1:Int),Mq,.int .i64 z.bf,.int .i64 z.numOf,.string z.bu,.slice b4 ci zc,Mq,(),(),(),()] cP/\Sl cP (λb=>S.heap.size<b/\b<cP.heap.size) b4 ci (z.args.map bm)/\z.src aJ 2/\ci<=zc) (λkey=>?wI) ?wz
 case wI=>
  refine a2 ?_ ?_
  ·
   refine aE rfl (λK hK=>?_) rfl;go_simp;refine(jT ⟨s,wb,sA,bW,bD,sl,GA,gn,gc,MA,mn,mc,FA,fn,fc,M,F,ar⟩ L aJ aq bd ba _ ((U.c.aj bi (Mo.drew)).wr bn.1) ((Sl.cZ bn.2.2.2.2.1 (U.c.aj bi (Mo.drew)).fr).mono λb O=>⟨O.1,λh=>O.2 (.inl h)⟩) ad).mono ?_;rintro e v1 ⟨x,cX,cO,cY,rfl,hx,bv,ck,h,he⟩
   try simp only at h he
   have aI:Fr (λb=>b=s) wr v1:=Fr.aG he;have I:=ae (U.call bi b2 h aI);have aN:=ag hx bv;have a4:=ae ((ck.mono λb O=>(⟨by have:=U.s.lt;have:=O.1;have:wr.drew.heap.size=wr:=rfl;omega,O.2⟩:S.heap.size<b/\b<v1.heap.size)));refine dq hK (he.mono λ_ h=>.inl h) ?_;clear hK K;clear hx bv ck h he aI;refine a2 ?_ ?_
   ·
    refine eu ?_;refine bw (λV=>Ext v1 V/\au V v1 5 #[.int .u8 r,.int .u8 t]) ⟨Mo.alloc _,Mp⟩ (λv2 hV=>?_);have bc:=ae (I.aj bi hV.1);have aT:=ae hV.2;have cM:S<v1.heap.size:=I.s.lt;have b3:=ae ((a4.ai λb O=>hV.1.block b O.2 λh=>h).mono λb O=>(⟨O.1,LL O.2 hV.1.size⟩:S.heap.size<b/\b<v2.heap.size));clear hV;obtain⟨e0,be,a6⟩:=aT.two;refine cC (v:=?_) rfl (by rfl) (λV hV=>?_) ?_;rotate_left
    .have a8:=mA V v1 r t ((hV.cell a6 ad).trans (e0 0)) ((hV.cell a6 ad).trans (e0 1))
     (go_simp<;>with_reducible rfl)
    try simp only[PU]
    clear e0 be a6;refine tf ?_;refine av ?_;obtain⟨d0,aK,aM⟩:=bc.s.two;refine aE rfl (λK hK=>?_) rfl;go_simp;refine dq hK (Mo.setCell (.inl (.inr rfl)) _) ?_;clear hK K;refine bw (λV=>qY ⟨s,wb,sA,bW,bD,sl,GA,gn,gc,MA,mn,mc,FA,fn,fc,M,F,ar⟩ S wr L #[(1:Int),Mq,(0:Int),(0:Int),Mq,(),Mq,(),(),(),()] V/\Fr (λb=>b=S.heap.size) v2 V) ⟨by exact bc.aN bn.1 0 _,by exact(Fr.refl (λb=>b=S.heap.size) v2).setCell (.inl rfl) _⟩ (λcr hV=>?_);have bh:=ae hV.1;have b5:=ae ((b3.ai λb O=>hV.2.block b O.2 (ay O.1)).mono λb O=>(⟨O.1,LL O.2 hV.2.size⟩:S.heap.size<b/\b<cr.heap.size));have bX:=ae (aT.on hV.2 ad);clear hV d0 aK aM;refine tf ?_;refine av ?_;obtain⟨d0,aK,aM⟩:=bh.s.two;refine aE rfl (λK hK=>?_) rfl;go_simp;refine dq hK ((((Mo.setCell (.inl (.inr rfl)) _).setCell (.inl (.inr rfl)) _).setCell (.inl (.inr rfl)) _).setCell (.inl (.inr rfl)) _) ?_;clear hK K;refine bw (λV=>qY ⟨s,wb,sA,bW,bD,sl,GA,gn,gc,MA,mn,mc,FA,fn,fc,M,F,ar⟩ S wr L #[(1:Int),Mq,.int .i64 x.bf,.int .i64 x.numOf,.string x.bu,.slice cX cO cY,Mq,(),(),(),()] V/\Fr (λb=>b=S.heap.size) cr V) ⟨by exact(((bh.aN bn.1 2 _).aN bn.1 3 _).aN bn.1 4 _).aN bn.1 5 _,by exact((((Fr.refl (λb=>b=S.heap.size) cr).setCell (.inl rfl) _).setCell (.inl rfl) _).setCell (.inl rfl) _).setCell (.inl rfl) _⟩ (λv4 hV=>?_)
    have ce:=ae hV.1;have b6:=ae ((b5.ai λb O=>hV.2.block b O.2 (ay O.1)).mono λb O=>(⟨O.1,LL O.2 hV.2.size⟩:S.heap.size<b/\b<v4.heap.size));have cy:=ae (bX.on hV.2 ad);clear hV d0 aK aM;have ah:=And.intro ce.o (And.intro b6.o aN.o);have aO:∃(z:VE) (b4:Mt) (ci zc:Nat),(Value.agg #[.int .i64 x.bf,.int .i64 x.numOf,.string x.bu,.slice cX cO cY])=.agg #[.int .i64 z.bf,.int .i64 z.numOf,.string z.bu,.slice b4 ci zc]/\qY ⟨s,wb,sA,bW,bD,sl,GA,gn,gc,MA,mn,mc,FA,fn,fc,M,F,ar⟩ S wr L #[(1:Int),Mq,.int .i64 z.bf,.int .i64 z.numOf,.string z.bu,.slice b4 ci zc,Mq,(),(),(),()] v4/\Sl v4 (λb=>S.heap.size<b/\b<v4.heap.size) b4 ci (z.args.map bm)/\z.src aJ 2/\ci<=zc:=⟨x,cX,cO,cY,rfl,ah⟩
    revert aO;generalize v1.heap.size=a3;exact xK
   ·
    obtain⟨d0,aK,aM⟩:=I.s.two;refine aE rfl (λK hK=>?_) rfl;go_simp;refine dq hK (Mo.setCell (.inl (.inr rfl)) _) ?_;clear hK K;refine bw (λV=>qY ⟨s,wb,sA,bW,bD,sl,GA,gn,gc,MA,mn,mc,FA,fn,fc,M,F,ar⟩ S wr L #[(1:Int),Mq,(0:Int),(0:Int),Mq,(),Mq,(),(),(),()] V/\Fr (λb=>b=S.heap.size) v1 V) ⟨by exact I.aN bn.1 0 _,by exact(Fr.refl (λb=>b=S.heap.size) v1).setCell (.inl rfl) _⟩ (λa1 hV=>?_);have W:=ae hV.1;have a5:=ae ((a4.ai λb O=>hV.2.block b O.2 (ay O.1)).mono λb O=>(⟨O.1,LL O.2 hV.2.size⟩:S.heap.size<b/\b<a1.heap.size));clear hV d0 aK aM;refine tf ?_;refine a2 ?_ ?_
    ·
     refine eu ?_;refine bw (λV=>Ext a1 V/\au V a1 5 #[.int .u8 r,.int .u8 t]) ⟨Mo.alloc _,Mp⟩ (λv6 hV=>?_);have bk:=ae (W.aj bi hV.1);have aU:=ae hV.2;have cM:S<a1.heap.size:=W.s.lt;have b7:=ae ((a5.ai λb O=>hV.1.block b O.2 λh=>h).mono λb O=>(⟨O.1,LL O.2 hV.1.size⟩:S.heap.size<b/\b<v6.heap.size));clear hV;obtain⟨e0,be,a6⟩:=aU.two;refine cC (v:=?_) rfl (by rfl) (λV hV=>?_) ?_;rotate_left
     .have a8:=mA V a1 r t ((hV.cell a6 ad).trans (e0 0)) ((hV.cell a6 ad).trans (e0 1))
      (go_simp<;>with_reducible rfl)
     try simp only[PU]
     clear e0 be a6;refine tf ?_;refine av ?_;obtain⟨d0,aK,aM⟩:=bk.s.two;refine aE rfl (λK hK=>?_) rfl;go_simp;refine dq hK ((((Mo.setCell (.inl (.inr rfl)) _).setCell (.inl (.inr rfl)) _).setCell (.inl (.inr rfl)) _).setCell (.inl (.inr rfl)) _) ?_;clear hK K;refine bw (λV=>qY ⟨s,wb,sA,bW,bD,sl,GA,gn,gc,MA,mn,mc,FA,fn,fc,M,F,ar⟩ S wr L #[(1:Int),Mq,.int .i64 x.bf,.int .i64 x.numOf,.string x.bu,.slice cX cO cY,Mq,(),(),(),()] V/\Fr (λb=>b=S.heap.size) v6 V) ⟨by exact(((bk.aN bn.1 2 _).aN bn.1 3 _).aN bn.1 4 _).aN bn.1 5 _,by exact((((Fr.refl (λb=>b=S.heap.size) v6).setCell (.inl rfl) _).setCell (.inl rfl) _).setCell (.inl rfl) _).setCell (.inl rfl) _⟩ (λdc hV=>?_);have cf:=ae hV.1;have b9:=ae ((b7.ai λb O=>hV.2.block b O.2 (ay O.1)).mono λb O=>(⟨O.1,LL O.2 hV.2.size⟩:S.heap.size<b/\b<dc.heap.size));have cz:=ae (aU.on hV.2 ad);clear hV d0 aK aM;have ah:=And.intro cf.o (And.intro b9.o aN.o)
     have aO:∃(z:VE) (b4:Mt) (ci zc:Nat),(Value.agg #[.int .i64 x.bf,.int .i64 x.numOf,.string x.bu,.slice cX cO cY])=.agg #[.int .i64 z.bf,.int .i64 z.numOf,.string z.bu,.slice b4 ci zc]/\qY ⟨s,wb,sA,bW,bD,sl,GA,gn,gc,MA,mn,mc,FA,fn,fc,M,F,ar⟩ S wr L #[(1:Int),Mq,.int .i64 z.bf,.int .i64 z.numOf,.string z.bu,.slice b4 ci zc,Mq,(),(),(),()] dc/\Sl dc (λb=>S.heap.size<b/\b<dc.heap.size) b4 ci (z.args.map bm)/\z.src aJ 2/\ci<=zc:=⟨x,cX,cO,cY,rfl,ah⟩
     revert aO;generalize a1.heap.size=a3;exact xK
    ·
     obtain⟨d0,aK,aM⟩:=W.s.two;refine aE rfl (λK hK=>?_) rfl;go_simp;refine dq hK ((((Mo.setCell (.inl (.inr rfl)) _).setCell (.inl (.inr rfl)) _).setCell (.inl (.inr rfl)) _).setCell (.inl (.inr rfl)) _) ?_;clear hK K;refine bw (λV=>qY ⟨s,wb,sA,bW,bD,sl,GA,gn,gc,MA,mn,mc,FA,fn,fc,M,F,ar⟩ S wr L #[(1:Int),Mq,.int .i64 x.bf,.int .i64 x.numOf,.string x.bu,.slice cX cO cY,Mq,(),(),(),()] V/\Fr (λb=>b=S.heap.size) a1 V) ⟨by exact(((W.aN bn.1 2 _).aN bn.1 3 _).aN bn.1 4 _).aN bn.1 5 _,by exact((((Fr.refl (λb=>b=S.heap.size) a1).setCell (.inl rfl) _).setCell (.inl rfl) _).setCell (.inl rfl) _).setCell (.inl rfl) _⟩ (λdF hV=>?_);have bs:=ae hV.1;have ca:=ae ((a5.ai λb O=>hV.2.block b O.2 (ay O.1)).mono λb O=>(⟨O.1,LL O.2 hV.2.size⟩:S.heap.size<b/\b<dF.heap.size));clear hV d0 aK aM;refine av ?_;refine eu ?_;refine bw (λV=>Ext dF V/\au V dF 5 #[.int .u8 r,.int .u8 t]) ⟨Mo.alloc _,Mp⟩ (λbt hV=>?_);have cj:=ae (bs.aj bi hV.1);have bY:=ae hV.2;have cM:S<dF.heap.size:=bs.s.lt;have cd:=ae ((ca.ai λb O=>hV.1.block b O.2 λh=>h).mono λb O=>(⟨O.1,LL O.2 hV.1.size⟩:S.heap.size<b/\b<bt.heap.size));clear hV;obtain⟨e0,be,a6⟩:=bY.two;refine cC (v:=?_) rfl (by rfl) (λV hV=>?_) ?_;rotate_left
     .have a8:=mA V dF r t ((hV.cell a6 ad).trans (e0 0)) ((hV.cell a6 ad).trans (e0 1))
      (go_simp<;>with_reducible rfl)
     try simp only[PU]
     clear e0 be a6;refine tf ?_;have ah:=And.intro cj.o (And.intro cd.o aN.o);have aO:∃(z:VE) (b4:Mt) (ci zc:Nat),(Value.agg #[.int .i64 x.bf,.int .i64 x.numOf,.string x.bu,.slice cX cO cY])=.agg #[.int .i64 z.bf,.int .i64 z.numOf,.string z.bu,.slice b4 ci zc]/\qY ⟨s,wb,sA,bW,bD,sl,GA,gn,gc,MA,mn,mc,FA,fn,fc,M,F,ar⟩ S wr L #[(1:Int),Mq,.int .i64 z.bf,.int .i64 z.numOf,.string z.bu,.slice b4 ci zc,Mq,(),(),(),()] bt/\Sl bt (λb=>S.heap.size<b/\b<bt.heap.size) b4 ci (z.args.map bm)/\z.src aJ 2/\ci<=zc:=⟨x,cX,cO,cY,rfl,ah⟩
     revert aO;generalize dF.heap.size=a3;exact xK
  ·
   refine eu ?_;refine bw (λV=>Ext wr V/\au V wr 5 #[.int .u8 r,.int .u8 t]) ⟨(Mo.alloc _).drew,Mp⟩ (λv10 hV=>?_);have k:=ae (U.aj bi hV.1);have Z:=ae hV.2;have cM:S<wr.heap.size:=U.s.lt;clear hV;obtain⟨e0,be,a6⟩:=Z.two;refine cC (v:=?_) rfl (by rfl) (λV hV=>?_) ?_;rotate_left
   .have a8:=mA V wr r t ((hV.cell a6 ad).trans (e0 0)) ((hV.cell a6 ad).trans (e0 1))
    (go_simp<;>with_reducible rfl)
   try simp only[PU]
   clear e0 be a6;refine tf ?_;refine av ?_;refine aE rfl (λK hK=>?_) rfl;go_simp;refine(jT ⟨s,wb,sA,bW,bD,sl,GA,gn,gc,MA,mn,mc,FA,fn,fc,M,F,ar⟩ L aJ aq bd ba _ ((k.c.aj bi Mo).wr bn.1) ((Sl.cZ bn.2.2.2.2.1 (k.c.aj bi Mo).fr).mono λb O=>⟨O.1,λh=>O.2 (.inl h)⟩) ad).mono ?_;rintro e v11 ⟨x,cX,cO,cY,rfl,hx,bv,ck,h,he⟩
   try simp only at h he
   have u:Fr (λb=>b=s) v10 v11:=he;have ab:=ae (k.call bi b2 h u);have aN:=ag hx bv;have bI:=ae ((ck.mono λb O=>(⟨by have:=k.s.lt;have:=O.1;omega,O.2⟩:S.heap.size<b/\b<v11.heap.size)));have bF:=ae (Z.on u ad);refine dq hK (he.mono λ_ h=>.inl h) ?_;clear hK K;clear hx bv ck h he u;refine av ?_;obtain⟨d0,aK,aM⟩:=ab.s.two;refine aE rfl (λK hK=>?_) rfl;go_simp;refine dq hK (Mo.setCell (.inl (.inr rfl)) _) ?_;clear hK K;refine bw (λV=>qY ⟨s,wb,sA,bW,bD,sl,GA,gn,gc,MA,mn,mc,FA,fn,fc,M,F,ar⟩ S wr L #[(1:Int),Mq,(0:Int),(0:Int),Mq,(),Mq,(),(),(),()] V/\Fr (λb=>b=S.heap.size) v11 V) ⟨by exact ab.aN bn.1 0 _,by exact(Fr.refl (λb=>b=S.heap.size) v11).setCell (.inl rfl) _⟩ (λbV hV=>?_);have aj:=ae hV.1;have bM:=ae ((bI.ai λb O=>hV.2.block b O.2 (ay O.1)).mono λb O=>(⟨O.1,LL O.2 hV.2.size⟩:S.heap.size<b/\b<bV.heap.size));have bH:=ae (bF.on hV.2 ad);clear hV d0 aK aM;refine tf ?_;refine av ?_;obtain⟨d0,aK,aM⟩:=aj.s.two;refine aE rfl (λK hK=>?_) rfl;go_simp;refine dq hK ((((Mo.setCell (.inl (.inr rfl)) _).setCell (.inl (.inr rfl)) _).setCell (.inl (.inr rfl)) _).setCell (.inl (.inr rfl)) _) ?_;clear hK K
   refine bw (λV=>qY ⟨s,wb,sA,bW,bD,sl,GA,gn,gc,MA,mn,mc,FA,fn,fc,M,F,ar⟩ S wr L #[(1:Int),Mq,.int .i64 x.bf,.int .i64 x.numOf,.string x.bu,.slice cX cO cY,Mq,(),(),(),()] V/\Fr (λb=>b=S.heap.size) bV V) ⟨by exact(((aj.aN bn.1 2 _).aN bn.1 3 _).aN bn.1 4 _).aN bn.1 5 _,by exact((((Fr.refl (λb=>b=S.heap.size) bV).setCell (.inl rfl) _).setCell (.inl rfl) _).setCell (.inl rfl) _).setCell (.inl rfl) _⟩ (λak hV=>?_);have bQ:=ae hV.1;have bN:=ae ((bM.ai λb O=>hV.2.block b O.2 (ay O.1)).mono λb O=>(⟨O.1,LL O.2 hV.2.size⟩:S.heap.size<b/\b<ak.heap.size));have cs:=ae (bH.on hV.2 ad);clear hV d0 aK aM;have ah:=And.intro bQ.o (And.intro bN.o aN.o);have aO:∃(z:VE) (b4:Mt) (ci zc:Nat),(Value.agg #[.int .i64 x.bf,.int .i64 x.numOf,.string x.bu,.slice cX cO cY])=.agg #[.int .i64 z.bf,.int .i64 z.numOf,.string z.bu,.slice b4 ci zc]/\qY ⟨s,wb,sA,bW,bD,sl,GA,gn,gc,MA,mn,mc,FA,fn,fc,M,F,ar⟩ S wr L #[(1:Int),Mq,.int .i64 z.bf,.int .i64 z.numOf,.string z.bu,.slice b4 ci zc,Mq,(),(),(),()] ak/\Sl ak (λb=>S.heap.size<b/\b<ak.heap.size) b4 ci (z.args.map bm)/\z.src aJ 2/\ci<=zc:=⟨x,cX,cO,cY,rfl,ah⟩
   revert aO;generalize wr.heap.size=a3;exact xK
 case wz=>
  rintro a3 Y cA ⟨z,b4,ci,zc,rfl,aA,dl,aL,bO⟩;obtain⟨d0,aK,aM⟩:=aA.s.two;refine tf ?_;exact fQ
 ):p:=h
end C2
open C2 in
theorem IS(d bd:Nat):SK 7 d bd:=by
 exact lR
namespace C3
theorem sF{p:Prop}(h:p:=by
 refine aF ?_;generalize hX:World.setCell _ _ _=X;have J:Fr (λb=>b=S.heap.size) aT X:=hX▸((((((Fr.refl (λb=>b=S.heap.size) aT).setCell (.inl rfl) _).setCell (.inl rfl) _).setCell (.inl rfl) _).setCell (.inl rfl) _).setCell (.inl rfl) _).setCell (.inl rfl) _;have be:au X S 151 #[(2:Int),nm,.int .i64 x.bf,.int .i64 x.numOf,.string x.bu,.slice cX cO cY,Mq,(),(),(),()]:=hX▸(((((a3.2.1.aN 0 _).aN 1 _).aN 2 _).aN 3 _).aN 4 _).aN 5 _;clear hX d0 aK aM;go_wp2_with(fail);obtain⟨bm,_,hx,bv,ck,bS⟩:=a3.o;have bY:=J.size;have bz:=bU.2.2.lt
 try refine hN _ _ ?_
 unfold lQ;apply Exists.intro
 refine⟨bd,ba,br,on,bZ,?_⟩
 iterate 240 apply Exists.intro
 refine⟨?_,rfl⟩;exact hb.simple (st:=.set false nm x) ⟨s,wb,sA,bW,bD,sl,GA,gn,gc,MA,mn,mc,FA,fn,fc,M,F,ar⟩ ct B a7 bl d ps V T ls N L aw aY QA b1 qc bg bn.1 cJ bP bn.2.2.2.1 cc.1 bT bA aQ (bm.fresh bn.1 J λb O=>ad) be (eN (aZ.2 ⟨cX,cO,cY,rfl,bv,(ck.ai λb O=>J.block b O.2 (ay O.1)).mono λb O=>⟨by have:=O.1;omega,by have:=O.2;omega⟩⟩) kT (Sl.bS _) (LK _) (Sl.bS _) (LK _) (Sl.bS _) (LK _)) ⟨cc.1 cU.o,dP cc.1 2 x hx⟩ (λn hn=>by simp[aD.all] at hn) (by simp only[aD.num];omega) (LK _) aX.2.2 bn.2.1
 ):p:=h
theorem lS{p:Prop}(h:p:=by
 have o:(0:Int)<(bd:Int):=ad;have gU:¬(wb=s\/wb=S.heap.size):=ad;go_upto_region 22 with(fail);refine eJ (λb=>b=s\/b=S.heap.size) [(0,3),(1,3),(2,3),(3,3),(4,0),(5,3),(6,3),(10,3),(11,3),(13,3),(7,1),(8,3),(9,0),(12,1),(14,1),(15,3),(16,2),(17,3),(18,2)] ?_
 iterate 4 refine pf ?_
 refine oH ?_
 iterate 5 refine pf ?_
 refine aB rfl (λK hK=>?_);go_simp;refine(a1 wr.drew s sA bW bD sl bd (bU.1.aj bi Mo.drew).src ad ad).mono ?_;rintro e aS ⟨cx,rfl,aO,b0,h,he⟩;obtain⟨j,rfl⟩:=LP aO;have ak:Fr (λb=>b=s) wr aS:=Fr.aG he.fr;have u:=bU.1.next bi h ak;obtain⟨i,t,nm,cs,g,O,hm,a5,bh,hc⟩:=Sl.hf (z:=1) bn.2.2.2.2.1 (λ_=>rfl) (k:=j) ad;subst g;obtain rfl:=uJ.1 a5;have c0:=(u.fr.cell O.1 O.2).trans (hc 0 _ rfl);simp only[Nat.mul_one,LW] at c0;have r:¬(i=s\/i=S.heap.size):=λh=>by
  rcases h with h|h
  .exact O.2 (.inl h)
  .have:=O.1;omega
 have m:i<aS:=by have:=u.fr.size;have:=O.1;omega
 have aV:(0:Int)<=(j:Int):=ad;have dN:(j:Int)<(bd:Int):=ad;have cU:=ae (LN hm);have H1:=ag u (bU.2.2.on ak ad);have cq:=ak.size;refine dq hK (he.fr.mono λ_ h=>.inl h) ?_;clear hK K;clear a0 ai af bq am aG d0 aK aM a5 bh hc hm h he ak u O aO b0;refine pf ?_;refine Lf ?_;refine aB rfl (λK hK=>?_);go_simp;refine(jT ⟨s,wb,sA,bW,bD,sl,GA,gn,gc,MA,mn,mc,FA,fn,fc,M,F,ar⟩ L aJ _ bd ba aS (H1.1.wr bn.1) ((Sl.cZ bn.2.2.2.2.1 H1.1.fr).mono λb O=>⟨O.1,λh=>O.2 (.inl h)⟩) ad).mono ?_;rintro e aT ⟨x,cX,cO,cY,rfl,hx,bv,ck,h,he⟩;simp only at h he;have l:=H1.2.on he ad;have a3:=dm (H1.1.next bi h he) l hx bv ck he.size;obtain⟨d0,aK,aM⟩:=l.two;refine dq hK (he.mono λ_ h=>.inl h) ?_;clear hK K;clear l hx bv ck h he c0;refine aB rfl (λK hK=>?_);go_simp;refine dq hK (Mo.setCell (.inl (.inr rfl)) _) ?_;clear hK K;refine pf ?_;exact sE
 ):p:=h
end C3
open C3 in
theorem IQ(d bd:Nat)(bE:0<bd):SK 8 d bd:=by
 exact lR
theorem HM{X:World}{g:Nat}{t:TypeId}{v0 v1 c0 c1:Value}(aQ:au V g t #[c0,c1])(aw:Ext w V)(aR:w.heap.size<=g)(hX:(V.setCell ⟨g,0,none⟩ v0).setCell ⟨g,1,none⟩ v1=X):
  au X g t #[v0,v1]/\Ext w X/\Fr (λb=>b=g) V X:=by
 subst hX;exact⟨(aQ.aN 0 v0).aN 1 v1,(aw.setCell (.inr aR) _).setCell (.inr aR) _,((Fr.refl (λb=>b=g) V).setCell (.inl rfl) _).setCell (.inl rfl) _⟩
theorem sQ{u:aA}(hu:da u){p:cM}(hp:p∈u.procs){c:aC}(hc:c∈p.code)(bn:c.op=2\/c.op=3):
  ∃q,0<=c.target/\u.procs[c.target.toNat]?=some q/\(c.places.length:Int)=q.an/\q.an<=100/\∀pl∈c.places,pl.param=true->0<=pl.index/\pl.index<p.an:=by
 obtain⟨s,hs,hl,y⟩:=(hu.procs p hp).code;rw[hs] at hc;rcases LU.1 hc with hc|hc
 .rcases y c hc with h|h|h|h|h|h
  .omega
  .obtain⟨_,_,sg,h0,k,aX,bi,_,bg⟩:=h;simp only[bx,List.getElem?_map] at k
   cases bK:u.procs[c.target.toNat]? with
   | none=>rw[bK] at k;cases k
   | some q=>
    rw[bK] at k;injection k with k;subst k;refine⟨q,h0,rfl,bi,(hu.procs q (LN bK)).an.2,λpl hm O=>?_⟩;have:=bg pl hm;unfold c4 at this;simp_all
  .omega
  .omega
  .omega
  .omega
 .simp only[Mi] at hc;subst hc;simp[nw] at bn
namespace Dx
theorem dC{p:Prop}(h:p:=by
 clear e0 be a6;generalize bY:World.setCell aT _ _=b5;have cE:=cp bY;have Z:au b5 W 111 #[.int .i64 c.target,.slice ak (j+1) a5]:=bY▸bX.2.1.aN 1 _;clear bY;have bU:=bX.1.cZ cE (λb O _=>⟨λh=>h,ad⟩);have n:=az Z bU (bX.2.2.trans cE);clear Z bU cE;go_wp2_with(fail);go_roundw
 case rel=>
  refine⟨j+1,ak,a5,ad,by go_num,n.2.2,n.1,?_⟩;have:=n.2.1;rw[bw.o j pl aN.o,<-cc.o];exact this
 case measure=>exact aH
 ):p:=h
end Dx
open Dx in
theorem pM(u:aA)(hu:da u)(GA:Mt)(gn gc:Nat)(MA:Mt)(mn mc:Nat)(PA:Mt)(pn pc:Nat)(x:h5)(cX:Mt)(cO cY:Nat)(p:cM)(h0:0<=x.proc)(hp:u.procs[x.proc.toNat]?=some p)(aY:(x.an.length:Int)=p.an)
  (k:Nat) (aj:k<p.code.length) (w:World) (hU:hP w (aq w) u GA gn MA mn PA pn) (hX:Sl w (aq w) cX cO (x.an.map .i)) :
  Calls prog 36 #[.agg #[.slice GA gn gc,.slice MA mn mc,.slice PA pn pc,.int .i64 u.main],.agg #[.int .i64 x.proc,.slice cX cO cY],k] w
   λe ab=>∃(ok:Bool) (y:h5) (c5:Mt) (dd de:Nat),e=.returned (.tuple #[.agg #[.int .i64 y.proc,.slice c5 dd de],ok])/\(ok=true->l5 u y)/\dd<=de/\Sl ab (fresh w ab) c5 dd (y.an.map .i)/\Ext w ab:=by
 obtain⟨eK,dt⟩:=x;simp only at h0 hp aY hX ⊢;obtain⟨dz,rfl⟩:=LP h0;rw[Mc] at hp;have eC:u.procs.length=pn:=by rw[<-hU.p.1,LO]
 have zq:dz<pn:=by have:=(List.getElem?_eq_some_iff.1 hp).1;omega
 have dW:pn<=16:=by have:=hu.E1;omega
 have bh:p.code.length<=201:=by
  obtain⟨s,hs,hl,_⟩:=(hu.procs p (LN hp)).code;rw[hs];simp;omega
 obtain⟨cB,bg,dI,du,ct,ah,bC⟩:=DE hu hu hU hX hp aY aj;clear hU hX hp aY h0 eC hu;go_enter func36,ntmps36;go_upto_region 1 with(fail);generalize ba:World.alloc _ _=W;have aw:=lD ba;have aQ:=jx ba;have bM:=h6 ba;have bI:=jy ba;obtain⟨br,b9,bz,bf⟩:=iY aw aQ bM bI;obtain⟨a0,ai,af⟩:=aQ.two;obtain⟨bq,am,aG⟩:=bM.two;obtain⟨d0,aK,aM⟩:=bI.two;clear ba aw aQ bM bI;obtain⟨b0,op,d1,S,cT,b2,rfl,bT,cD,p0,a1,bJ,p3,p4,a4,T⟩:=(dI.on br.o).proc zq;obtain rfl:d1=p:=by rw[ct.o] at cD;injection cD with cD;exact cD.symm
 have fH:d1.code.length=cT:=by rw[<-T.1,LO]
 have cu:k<cT:=ad;have bp:(0:Int)<=(k:Int):=ad;have ce:(k:Int)<(cT:Int):=ad;have ej:(0:Int)<=(dz:Int):=ad;have b6:(dz:Int)<(pn:Int):=ad;obtain⟨bc,bZ,c,cells,eo,en,es,EA,em,ec,QA,qm,qc,IA,i,ic,KA,m,cj,rfl,cx,hc,bQ,aZ⟩:=T.EH cu;obtain⟨U,a8⟩:=aJ bQ hc;have bA:=bQ.cells;subst bA;have c0:=aZ 0 _ rfl;have c1:=aZ 1 _ rfl;have aX:=aZ 11 _ rfl;have bu:=ae T;clear aZ T hc cD p0 a1 bJ p3 fH bQ;simp only[LW] at c0;by_cases bn:c.op=2\/c.op=3
 case neg=>
  have fm:(c.op != 2)=true:=by simp;omega
  have o3:(c.op != 3)=true:=by simp;omega
  clear bn;go_wp2_with(fail);generalize co:World.setCell _ _ _=Y;obtain⟨bH,bG,bx⟩:=HM bf.o br.o ad co;obtain⟨bl,aD,aP⟩:=bH.two;refine Mn (v:=.tuple #[.agg #[(0:Int),()],false]) (by simp[results,Tryz.results36,go_sem,bl]) rfl ?_;exact⟨false,⟨0,[]⟩,none,0,0,rfl,(λh=>by cases h),LK _,Sl.bS _,bG⟩
 case pos=>
  obtain⟨q,L,bK,R,ep,cG⟩:=sQ cB.o (LN ct.o) (LN a8.o) bn;have hm:c.places.length=m:=by have:=U.places.1;simpa using this
  have bN:=bF L bK R cG;have d7:m<=100:=ad;have cU:=ae hm;clear L bK R cG hm ep;rcases bn with bn|bn
  all_goals
   simp only[bn] at c0;clear bn;go_wp2_with(fail);generalize hV:World.alloc _ _=V;have bo:=aU hV;have f2:au V W 111 #[.int .i64 c.target,()]:=hV▸au.gX _ _ _ (by simp);have ds:W<V.heap.size:=by rw[<-hV];simp
   clear hV;obtain⟨bS,N⟩:=aJ bo f2;clear a0 ai af bq am aG d0 aK aM bo f2;obtain⟨a7,r⟩:∃a7:Nat->List D,a7=λj=>(((c.places.take j).map λpl=>if pl.param then dt.getD pl.index.toNat 0 else pl.index).map .i):=⟨_,rfl⟩
   have bv:=ae r;have av:a7 0=[]:=by rw[r];rfl
   have bB:∀j pl,c.places[j]?=some pl->a7 (j+1)=a7 j++[.i (if pl.param then dt.getD pl.index.toNat 0 else pl.index)]:=λj pl h=>by rw[r];simp only;rw[List.take_add_one,h];simp
   obtain⟨aL,bw⟩:=aJ av bB;clear r av bB
   try rw[show w.heap.size+1+1=w.heap.size+2 from rfl]
   generalize decide ((k:Int)<0)=aI;generalize decide (cT<=k)=bb;generalize (aI || bb)=bO;go_loopw [10] (λcA wr=>∃(j:Nat) (c5:Mt) (de:Nat),j<=m/\cA=.int .i64 j/\Fr (λb=>b=W.heap.size) V wr/\au wr W 111 #[.int .i64 c.target,.slice c5 j de]/\Gr (λ_=>False) V 3 1 wr c5 j de (a7 j)) (λi _=>m - (intOf i).toNat)
   case atStart=>exact⟨0,none,0,Md _,rfl,Mo,N.o,by rw[aL.o];exact Gr.nil _ _ _ _ _⟩
   case round=>
    obtain⟨j,c5,de,bd,rfl,J,cf,aR⟩:=hrel;have l:Ext W wr:=Fr.low (M:=λb=>b=W.heap.size) ((Fr.mono bS.o λ_ h=>h.elim).trans J) λk aj=>ad;have bs:=(l.qO.1 bc (bZ+k*12+11) cx).trans aX;obtain⟨N,P,b3,I⟩:=iY cf l J aR;have bW:W<wr.heap.size:=cf.lt;have bt:bc<wr:=LL cx l.size;obtain⟨e0,be,a6⟩:=cf.two;obtain⟨bq,am,aG⟩:=(bz.aj l).two;by_cases an:j<m
    .obtain⟨dH,fm,pl,bD,b1,bm,rfl,bj,bi,b8,q1,cJ,_,_⟩:=(U.places.on (Fr.ext l)).o5 an;have bk:dt.length=cO:=by have:=du.1;simpa using this
     have dv:=(bg.procs d1 (LN ct.o)).an.2;have a2:cO<=140737488355328:=by have:=ah.o;omega
     have aa:pl.param=true->0<=pl.index/\pl.index<cO:=λO=>by
      have ac:=bN.2.2.2 pl (LN bi) O;have:=ah.o;omega
     have aV:(0:Int)<=(j:Int):=ad;have dN:(j:Int)<(m:Int):=ad;obtain⟨z,a9,aN⟩:=ef a2 aa bi;clear J cf aR l aX bk dv a2 aa bi;go_upto_region 8 with(fail);refine eJ (λ_=>False) [(0,3),(1,0),(2,0),(3,3),(4,3),(5,3),(6,3),(7,0),(8,3),(9,3),(10,0),(11,1),(12,1),(13,2),(14,3),(15,2)] ?_;refine pf ?_
     iterate 2 refine ph ?_
     iterate 4 refine pf ?_
     refine ph ?_
     iterate 2 refine pf ?_
     refine ph ?_;refine aB rfl (λK hK=>?_);go_simp;obtain⟨v,bE⟩:∃v:Int,v=if pl.param then dt.getD pl.index.toNat 0 else pl.index:=⟨_,rfl⟩
     refine(y2 dz cX cO cY dt pl [] (.slice bD b1 bm) wr.drew (du.on (Fr.ext ((br.trans P.o).drew))) z.o a9.o).mono ?_;rintro e aS ⟨he,ar⟩;rw[<-bE] at he;subst he;have cc:=ae bE;clear bE;have aO:Ext wr aS:=Fr.aG ar;refine dq hK (ar) ?_;clear hK K;refine rb ?_;refine ax rfl (λK hK=>?_);rw[if_pos (by rfl)];clear ar;have a3:=aO.size;have bP:=b3.size;refine qS cF (.tmp 60) (.tmp 71) (by rfl) (I.aj aO) (d:=.i v) (by simp only[D.rep]) (by rfl) (by rfl) (by rfl) ad ad ad ?_;intro ak a5 aT al aC cn cb;have ao:∀b,(Value.slice c5 j de).ownBlock=some b->V.heap.size<=b:=λb O=>(I.lt O).1;have H:=(N.aj aO).on aC (λO=>by have:=ao _ O;omega);have aW:Fr (λb=>b=W.heap.size) V aT:=by
      have c4:=b3.size;have bL:=aC.size;exact⟨aC.os.trans (aO.os.trans b3.os),aC.tape.trans (aO.tape.trans b3.tape),aC.output.trans (aO.output.trans b3.output),ad,
       λb O hn=>(aC.block b ad (λbn=>by have:=ao _ bn;omega)).trans ((aO.block b ad λh=>h).trans (b3.block b O hn))⟩
     have bX:=az al H aW;clear e0 be a6 bq am aG aO al aC cn ao aW b8 q1 cJ;obtain⟨e0,be,a6⟩:=H.two;clear H;refine dX hK ?_;clear hK K;refine pf ?_;exact eS
    .obtain rfl:j=m:=ad;have aE:=bf.aj l;have ag:=ae aE;obtain⟨d0,aK,aM⟩:=aE.two;clear J cf aR l aE;go_wp2_with(fail);generalize co:World.setCell _ _ _=Y;obtain⟨bH,bG,bx⟩:=HM ag.o (br.trans P.o) ad co;obtain⟨bl,aD,aP⟩:=bH.two;refine Mn (v:=.tuple #[.agg #[.int .i64 c.target,.slice c5 j de],true]) (by simp[results,Tryz.results36,go_sem,bl]) rfl ?_;obtain⟨q1,cJ,c9,dk⟩:=bN.o;have bV:=br.size;have bR:=bf.lt;have eh:=I.cZ bx (λb O _=>⟨λh=>h,ad⟩);refine⟨true,⟨c.target,c.places.map λpl=>if pl.param then dt.getD pl.index.toNat 0 else pl.index⟩,c5,j,de,rfl,λ_=>⟨q,q1,cJ,by simpa using c9⟩,I.cap.1,?_,bG⟩;have hS:=eh.sl (Q:=fresh w Y) (λb _ h=>h.elim) (λb ac ap=>⟨ad,ac⟩);rw[bv.o] at hS;simp only at hS;rw[LS (ay cU.o)] at hS;exact hS
end Go.Proofs.YtpkfopfkdgkfkaaGreat

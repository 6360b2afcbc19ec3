/- Part 40 of the proof. No condition of its own. -/
import Derived.Test.YtglbpimocmhojaaGreatQ33
import Derived.Test.YtglbpimocmhojaaGreatQ39
namespace Go.Proofs.YtglbpimocmhojaaGreat
open Go.RowKit Go.Proofs.Tryz
set_option maxRecDepth 1000000
set_option maxHeartbeats 25600000
set_option linter.unusedVariables false
variable{B L b6 ba bi c1 on:Nat}{M P:Nat->Prop}{S ab w:World}{p:kj}
def kX(n:Nat):Code->Option Code
 | .block k c=>if k=n then some c else kX n c
 | .seq a b=>match kX n a with
  | some c=>some c
  | none=>kX n b
 | .loop c=>kX n c
 | .scope c=>kX n c
 | _=>none
noncomputable def wU:Code:=((Tryz.f66.body.bind fQ).getD .skip)
noncomputable def En:Code:=((kX 2 wU).getD .skip)
noncomputable def Hy:Code:=match En with
 | .seq a _=>a
 | c=>c
noncomputable def HC:Code:=match En with
 | .seq _ b=>b
 | _=>.skip
def kj.env(p:kj)(ps:List (ByteArray×Bool)):Env:=⟨p.M,ps,p.F.map λf=>(f.name,f.params)⟩
structure ov(p:kj)(S w:World)(L:Nat):Prop where
 src:cm w p.s p.A p.n p.c p.l
 blk:aq w p.wb 125 #[.pointer (some ⟨p.s,0,none⟩),.slice p.GA p.gn p.gc,.slice p.MA p.mn p.mc,.slice p.FA p.fn p.fc,.int .i64 L,.bool p.ar]
 fr:Fr p.MW S w
 le:L<=24
theorem ov.wr(h0:gw S p c1)(h:ov p S w L):gw w p L:=
 ⟨h.src,h.blk,h0.ne,Sl.c8 h0.ms h.fr,Sl.c8 h0.fs h.fr,h0.nm,h0.nf,h0.fx,h0.jy,h.le⟩
theorem ov.next(h:ov p S w L)(be:p.s<p.wb)(hs:cm ab p.s p.A p.n p.c p.l)(O:Fr (λb=>b=p.s) w ab):ov p S ab L:=
 ⟨hs,h.blk.on O ad,h.fr.trans (O.mono λ_ h=>.inl h),h.le⟩
theorem ov.ai(h:ov p S w L)(be:p.s<p.wb)(O:Ext w ab):ov p S ab L:=h.next be (h.src.cO O λ_ _ h=>h) (O.mono λ_ h=>h.elim)
theorem ov.fresh(h:ov p S w L)(h0:gw S p c1)(O:Fr M w ab)(hM:∀b,M b->S.heap.size<=b):ov p S ab L:=by
 have ac:=h0.src.lt;have au:=h0.blk.lt;exact⟨h.src.cO O λb bS hm=>by have:=hM b hm;omega,h.blk.on O λhm=>by have:=hM _ hm;omega,h.fr.eN (O.below h.fr.size λk ap hm=>by have:=hM k hm;omega),h.le⟩
theorem ov.Hp{R:Nat}(h:ov p S w L)(hw:gw ab p R)(O:Fr p.MW w ab):ov p S ab R:=⟨hw.src,hw.blk,h.fr.trans O,hw.kA⟩
def FP(p:kj)(d:Nat)(V T:Lq)(ps:List (ByteArray×Bool))(L:Nat)(w:World)(e:Ending)(ab:World):Prop:=
 ∃(ls:List aA) (R:Nat) (bq:Lp) (on b6:Nat),e=.returned (.slice bq on b6)/\Made (p.env ps) d V T L R ls/\on<=b6/\Sl ab (fresh w ab) bq on (ls.map bg)/\gw ab p R/\Fr p.MW w ab
def HO(p:kj)(L:Nat):Prop:=∀(d f:Nat) (V T:Lq) (N:Lp) (bc aa:Nat) (aZ:ByteArray) (ps:List (ByteArray×Bool)) (QA:Lp) (cg qc:Nat) (bx:Value) (w:World),d<=2->f<=6->gw w p L->Sl w (off p.MW w) N bc (V.map D.s)->V.length+L<=60->mf T L->
 Sl w (off p.MW w) QA cg (ps.map ds)->cg<=2->Calls prog 66 #[.pointer (some ⟨p.wb,0,none⟩),.agg #[.string aZ,.slice QA cg qc,bx],.slice N bc aa,.int .i64 (d:Int),.int .i64 (f:Int)] w (FP p d V T ps L w)
def gZ(p:kj)(bZ B:Nat)(bO bT:Value)(d:Nat)(ps:List (ByteArray×Bool))(V T:Lq)(ls:List aA)(N:Int)(S:World)(L:Nat)(aw:World)(aZ:ByteArray)(QA:Lp)(cg qc:Nat)(bx:Value)(av:Lp)(bi ba:Nat)(bq:Lp)(on b6:Nat)(w:World):Prop:=∃(aH:Lq) (m:List aA) (st:aA) (a6:Nat) (cs:List Value),
 ov p aw w a6/\aq w bZ 136 #[.string aZ,.slice QA cg qc,bx]/\la B 9 1 174 11 w av bi ba (aH.map D.s) bq on b6 ((ls++m).map bg)/\aq w S.heap.size 174 cs.toArray/\(bg st).rep w (lu (λb=>B<=b/\(Value.slice av bi ba).ownBlock≠some b) w (.slice bq on b6)) cs/\
 e4 (p.env ps) d (V++decls ls) (T++decls ls) (.eM (m++[st]))/\(∀n∈(an.eM (m++[st])).all,∃k,a6<=k/\k<L+1/\n=hg k)/\(an.eM (m++[st])).num<=2*(L+1 - a6)/\a6<=L/\aH ⊆ V++decls (ls++(m++[st]))/\aH.length+a6<=60/\on<=12000
def lE(p:kj)(bZ B:Nat)(bO bT:Value)(d:Nat)(ps:List (ByteArray×Bool))(V T:Lq)(ls:List aA)(N:Int)(S:World)(L:Nat)(aw:World)(aZ:ByteArray)(QA:Lp)(cg qc:Nat)(bx:Value)(a:Act)(w:World):Prop:=∃(av:Lp) (bi ba:Nat) (bq:Lp) (on b6:Nat) (gJ z u8 gK eO a4 u16 bR cq eR eS eT eU eV eW eY eZ e3 e6 e7 e8 e9 u32 fa fb fd fe ff fh fi fk fl fm fo fp fq fr fs ft fv fw fx fy fz fA fB fC fD fE fF fG fH fI fJ u64 fK fL fM fN fO fP fQ fR fS fT fU fV fW fX fY fZ f3 f4 f5 f6 f7 f8 f9 ga gb gd ge gf gg gh gi gj gk gl gm H I am aF aL aM aN aX a1 a8 bb bd bm bp bt bz bA bD bJ bV bY b1 b5 b8 b9 cb ce ch cj cl co cp cx cy cz cA cB cD cE cG cH cM cN cO cP cR cS cT cU cV cW cX cY cZ c4 c5 c6 c7 c8 c9 da db dc dd de df dg dh di dj dk dl dm dn dp dr dt du dv dw dx dy dA dC dD dE dF dG dI dJ dK dM dQ dR dS dT dV dW dX dY dZ d0 d1 d2 d3 d4 d5 d6 d7 d8 d9 ea eb ec ed ee ef eg eh ei ej ek el em en eo ep eq er es et eu ev ew ex ey ez eA eB eC eD eE eF eG eH eI eJ eL eM bQ:Value),gZ p bZ B bO bT d ps V T ls N S L aw aZ QA cg qc bx av bi ba bq on b6 w/\a=⟨#[.pointer (some ⟨p.wb,0,none⟩),bO,.slice av bi ba,.int .i64 (d:Int),bT,gJ,.pointer (some ⟨bZ,0,none⟩),z,u8,gK,eO,.slice bq on b6,.int .i64 N,.pointer (some ⟨S.heap.size,0,none⟩),bQ,a4,u16,bR,cq,eR,eS,eT,eU,eV,eW,eY,eZ,e3,e6,e7,e8,e9,u32,fa,fb,fd,fe,ff,fh,fi,fk,fl,fm,fo,fp,fq,fr,fs,ft,fv,fw,fx,fy,fz,fA,fB,fC,fD,fE,fF,fG,fH,fI,fJ,u64,fK,fL,fM,fN,fO,fP,fQ,fR,fS,fT,fU,fV,fW,fX,fY,fZ,f3,f4,f5,f6,f7,f8,f9,ga,gb,gd,ge,gf,gg,gh,gi,gj,gk,gl,gm,H,I,am,aF,aL,aM,aN,aX,a1,a8,bb,bd,bm,bp,bt,bz,bA,bD,bJ,bV,bY,b1,b5,b8,b9,cb,ce,ch,cj,cl,co,cp,cx,cy,cz,cA,cB,cD,cE,cG,cH,cM,cN,cO,cP,cR,cS,cT,cU,cV,cW,cX,cY,cZ,c4,c5,c6,c7,c8,c9,da,db,dc,dd,de,df,dg,dh,di,dj,dk,dl,dm,dn,dp,dr,dt,du,dv,dw,dx,dy,dA,dC,dD,dE,dF,dG,dI,dJ,dK,dM,dQ,dR,dS,dT,dV,dW,dX,dY,dZ,d0,d1,d2,d3,d4,d5,d6,d7,d8,d9,ea,eb,ec,ed,ee,ef,eg,eh,ei,ej,ek,el,em,en,eo,ep,eq,er,es,et,eu,ev,ew,ex,ey,ez,eA,eB,eC,eD,eE,eF,eG,eH,eI,eJ,eL,eM],[]⟩
theorem gZ.simple(p:kj)(bZ B:Nat)(bO bT:Value)(d:Nat)(ps:List (ByteArray×Bool))(V T:Lq)(ls:List aA)(N:Int)(L:Nat)(aw:World)(aZ:ByteArray)(QA:Lp)(cg qc:Nat)(bx:Value){aH:Lq}{av:Lp}{bq:Lp}(h0:gw S p c1)(cI:p.wb<bZ)(b0:bZ<B)(hG:la B 9 1 174 11 S av bi ba (aH.map D.s) bq on b6 (ls.map bg))
  (hV:aH ⊆ V++decls ls) (bK:aH.length+L+1<=60) (c2:on<=10000) (aR:B<=S.heap.size) {X:World} {a6:Nat} {st:aA} {cs:List Value} (hC:ov p S X a6) (cy:aq X S.heap.size 174 cs.toArray) (a5:(bg st).rep X (fresh S X) cs)
  (a4:FJ (p.env ps) d (V++decls ls) (T++decls ls) st) (y:∀n∈st.all,∃k,a6<=k/\k<L+1/\n=hg k) (K:st.num<=2*(L+1 - a6)) (hle:a6<=L) (a:Fr p.MW aw S) (c:aq S bZ 136 #[.string aZ,.slice QA cg qc,bx]):gZ p bZ B bO bT d ps V T ls N S L aw aZ QA cg qc bx av bi ba bq on b6 X:=by
 have be:=h0.ne;refine⟨aH,[],st,a6,cs,⟨hC.src,hC.blk,a.trans hC.fr,hC.le⟩,c.on hC.fr (λh=>by rcases h with h|h<;>omega),?_,cy,?_,?_,?_,?_,hle,?_,ad,ad⟩
 .rw[Ld];exact hG.c8 hC.fr λb O _=>by rcases O with O|O<;>omega
 .exact D.aL (λb O=>⟨⟨by have:=O.1;omega,λh=>by have:=(hG.one.lt h).2;have:=O.1;omega⟩,O.2,λh=>by have:=(hG.two.lt h).2;have:=O.1;omega⟩) _ _ a5
 .exact tb.2 a4
 .rw[Le,all_cons];intro n hn;rcases KM.1 hn with hn|hn
  .exact y n hn
  .simp[an.eM,an.all] at hn
 .rw[Le,sS];exact K
 .intro x hx;have:=hV hx;exact zE
theorem D7{f:aJ}{cs:List Value}(h:(dr f).rep w P cs):∃(A:Lp) (n c:Nat) (A2:Lp) (n2 c2:Nat),cs=[.string f.name,.slice A n c,.slice A2 n2 c2]/\n<=c/\Sl w P A n (f.params.map ds):=by
 unfold dr at h;rw[bI,cp] at h;obtain⟨y,rfl,h⟩:=h;obtain⟨A,n,c,cd,rfl,hc,hs,h⟩:=aN.1 h;obtain⟨A2,n2,c2,bv,rfl,ci,bN,h⟩:=aN.1 h;rw[aP] at h;subst h;exact⟨A,n,c,A2,n2,c2,rfl,hc,hs⟩
theorem oy:ch prog 134 174 (.agg #[.int .i64 0,.string ⟨#[]⟩,.int .i64 0,.int .i64 0,.string ⟨#[]⟩,.slice none 0 0,.string ⟨#[]⟩,.slice none 0 0,.slice none 0 0,.slice none 0 0,.slice none 0 0]) 11 192:=ch.mk' Tryz.underlying134 (by kernel_rfl) rfl ad
theorem EV{G:Env}{d:Nat}{aH aU T:Lq}{r:eO}{R:List aA}(a5:rT G aH r)(hV:aH ⊆ aU)(ac:e4 G 0 aH T (.eM R)):e4 G d aU T (.eM ((.lock false r::R)++[.lock true r])):=by
 rw[KS,mX];refine⟨kJ hV a5,?_⟩;simp only[aA.decl,Ld];exact ta.2 ⟨dd _ 0 d aH _ _ _ hV (λ_ _ h=>h) (KZ _) ac,tb.2 (kJ (λx hx=>KM.2 (.inl (hV hx))) a5)⟩
theorem bw{P:Program}{ops:Array Oper}{Q:Exit->Act->World->Prop}{R:World->World->Prop}{tails:List Nat}{rest:PT}{a:Act}{W:World}(C:World->Prop)(hC:C W)(h:∀V,C V->cN P ops Q R tails rest a V):cN P ops Q R tails rest a W:=h W hC
structure qJ(p:kj)(S wr:World)(L:Nat)(cs:Array Value)(V:World):Prop where
 c:ov p S V L
 s:aq V S.heap.size 174 cs
 f:Fr (λb=>b=p.s\/b=S.heap.size) wr V
theorem qJ.ai{p:kj}{S wr V aU:World}{L:Nat}{cs:Array Value}(h:qJ p S wr L cs V)(be:p.s<p.wb)(O:Ext V aU):qJ p S wr L cs aU:=⟨h.c.ai be O,h.s.ai O,h.f.trans (O.mono λ_ h=>h.elim)⟩
theorem qJ.call{wr V aU:World}{cs:Array Value}(h:qJ p S wr L cs V)(be:p.s<p.wb)(aC:p.s<S.heap.size)(hs:cm aU p.s p.A p.n p.c p.l)(O:Fr (λb=>b=p.s) V aU):qJ p S wr L cs aU:=⟨h.c.next be hs O,h.s.on O ad,h.f.trans (O.mono λ_ h=>.inl h)⟩
theorem qJ.aM{p:kj}{S wr V:World}{L c1:Nat}{cs:Array Value}(h:qJ p S wr L cs V)(h0:gw S p c1)(i:Nat)(v:Value):qJ p S wr L (cs.setIfInBounds i v) (V.setCell ⟨S.heap.size,i,none⟩ v):=
 ⟨h.c.fresh (M:=λb=>b=S.heap.size) h0 ((Fr.refl (λb=>b=S.heap.size) V).setCell (.inl rfl) _) (λb O=>ad),h.s.aM i v,h.f.setCell (.inl (.inr rfl)) _⟩
theorem mm(V:World)(g:Nat)(v1 v2:Int)(h0:V.cell? ⟨g,0,none⟩=some (.int .u8 v1))(ac:V.cell? ⟨g,1,none⟩=some (.int .u8 v2)) :
  (convert 127 9 (.slice (some ⟨g,0,none⟩) 2 2)).run prog V=.ok (.string (strOf [byteOf v1,byteOf v2])) V:=by
 have:=run_convert_bytes_arg (P:=prog) V 127 5 Tryz.underlying127 Tryz.underlying5 g 0 2 2 [v1,v2] rfl (λi an=>by
  obtain rfl|rfl:i=0\/i=1:=ad
  .exact h0
  .exact ac) 9 Tryz.underlying9
 rw[this];rfl
theorem uK{r t:Int}(bR:L<=24)(ac:IntKind.u8.wrap (IntKind.i64.wrap (97+(L:Int)))=r)(au:IntKind.u8.wrap (IntKind.i64.wrap (97+Int.tmod (IntKind.i64.wrap 0) 26))=t):(⟨#[118]⟩++strOf [byteOf r,byteOf t]:ByteArray)=hg L:=by
 subst ac au;have h:∀k:Fin 25,(⟨#[118]⟩++strOf [byteOf (IntKind.u8.wrap (IntKind.i64.wrap (97+((k.val:Nat):Int)))),byteOf (IntKind.u8.wrap (IntKind.i64.wrap (97+Int.tmod (IntKind.i64.wrap 0) 26)))]:ByteArray)=hg k.val:=by decide
 exact h ⟨L,ad⟩
theorem uF{w:World}{P Q:Nat->Prop}:∀{l:Lq} {xs:List Value},D.aQ w P (l.map D.s) xs->D.aQ w Q (l.map D.s) xs
 | [],xs,h=>by simpa only[Lb,D.aQ] using h
 | e::l,xs,h=>by
  rw[KJ] at h ⊢;obtain⟨y,rfl,bb⟩:=cp.1 h;exact cp.2 ⟨y,rfl,uF bb⟩
theorem Gr.strs{Q:Nat->Prop}{e:TypeId}{A:Lp}{n c:Nat}{l:Lq}(h:Gr P B e 1 w A n c (l.map D.s)):Gr Q B e 1 w A n c (l.map D.s):=by
 obtain⟨hl,xs,ac,au⟩:=h;exact⟨hl,xs,ac,uF au⟩
theorem vG(s:aA):(bg s).sz=11:=by
 cases s<;>simp[bg,gE,D.sz,D.yF,c7,jL,fV,kx]
theorem l5:jL.rep w P [.int .i64 0,.int .i64 0,.string ⟨#[]⟩,.slice none 0 0]:=fh.2 ⟨none,0,rfl⟩
theorem kF:fV.rep w P [.string ⟨#[]⟩,.slice none 0 0]:=by
 exact zd
theorem eC{k:Int}{nm:ByteArray}{e r:D}{a1 th el:List D}{e0 e1 e2 e3 bl r1:Value}{bU A2 cC:Lp}{n1 n2 n3 c2 c3:Nat}(he:e.rep w P [e0,e1,e2,e3])(a5:r.rep w P [bl,r1])(ac:Sl w P bU n1 a1)(cn:n1<=c1)(au:Sl w P A2 n2 th)(dn:n2<=c2)(aU:Sl w P cC n3 el)(aM:n3<=c3):
  (gE k nm e r a1 th el).rep w P [.int .i64 k,.string nm,e0,e1,e2,e3,bl,r1,.slice bU n1 c1,.slice A2 n2 c2,.slice cC n3 c3]:=by
 unfold gE;rw[bI];exact bm.2 ⟨_,rfl,cp.2 ⟨_,rfl,gP.2 ⟨[e0,e1,e2,e3],_,rfl,he,gP.2 ⟨[bl,r1],_,rfl,a5,aN.2 ⟨bU,n1,c1,_,rfl,cn,ac,aN.2 ⟨A2,n2,c2,_,rfl,dn,au,aN.2 ⟨cC,n3,c3,[],rfl,aM,aU,aP.2 rfl⟩⟩⟩⟩⟩⟩⟩
theorem la.names{av:Lp}{aH:Lq}{bq:Lp}{l:List D}{e1 e2:TypeId}{bF:Nat}(h:la B e1 1 e2 bF w av bi ba (aH.map D.s) bq on b6 l)(hM:∀b,M b->b<B):Sl w (off M w) av bi (aH.map D.s):=
 h.one.sl (λb O hp=>⟨O,λhm=>by have:=hM b hm;have:=hp.1;omega⟩) (λb O hp=>⟨O,λhm=>by have:=hM b hm;omega⟩)
def SK(k:Int)(d bi:Nat):Prop:=∀(p:kj) (bZ B:Nat) (bO bT:Value) (ps:List (ByteArray×Bool)) (V T:Lq) (ls:List aA) (N:Int) (S:World) (L:Nat) (aw:World) (aZ:ByteArray) (QA:Lp) (cg qc:Nat) (bx:Value) (aH:Lq) (av:Lp) (ba:Nat) (bq:Lp) (on b6:Nat) (c1:Nat) (cI:p.wb<bZ) (b0:bZ<B) (aR:B<=S.heap.size) (bv:cg<=2) (wr:World) (be:p.s<p.wb) (cn:p.s<S.heap.size) (cu:p.wb<S.heap.size) (cr:aH.length=bi) (m0:S.heap.size<=wr.heap.size) (a7:Lr (gw S p c1/\aq S bZ 136 #[.string aZ,.slice QA cg qc,bx]/\Sl S (off p.MW S) QA cg (ps.map ds)/\la B 9 1 174 11 S av bi ba (aH.map D.s) bq on b6 (ls.map bg)/\Sl S (off p.MW S) av bi (aH.map D.s)/\∀b,p.MW b->b<B)) (bQ:Lr (ov p S wr L/\aq wr bZ 136 #[.string aZ,.slice QA cg qc,bx]/\aq wr S.heap.size 174 #[.int .i64 5,.string ⟨#[]⟩,.int .i64 0,.int .i64 0,.string ⟨#[]⟩,.slice none 0 0,.string ⟨#[]⟩,.slice none 0 0,.slice none 0 0,.slice none 0 0,.slice none 0 0])) (bK:aH.length+L+1<=60) (c2:on<=10000) (bc:d<=2) (cc:Lr (aH ⊆ V++decls ls/\mf (T++decls ls) (L+1)/\∀R,R<=L->HO p R)) (aG:Nat) (bl:Lr (gw aw p aG/\Sl aw (off p.MW aw) QA cg (ps.map ds)/\Fr p.MW aw S)) (b7:aw.heap.size<=bZ)
  (Q:Exit->Act->World->Prop) (hQ0:∀c a d v w,Q (.panic c) (a.put d v) w->Q (.panic c) a w) (hN:∀a w,lE p bZ B bO bT d ps V T ls N S L aw aZ QA cg qc bx a w->Q .normal a w) (K:Act->World->Prop) (hK:∀a w,Code.wp prog HC Q a w->K a w)
  {gJ z u8 gK eO a4 u16 bR cq eR eS eT eU eV eW eY eZ e3 e6 e7 e8 e9 u32 fa fb fd fe ff fh fi fk fl fm fo fp fq fr fs ft fv fw fx fy fz fA fB fC fD fE fF fG fH fI fJ u64 fK fL fM fN fO fP fQ fR fS fT fU fV fW fX fY fZ f3 f4 f5 f6 f7 f8 f9 ga gb gd ge gf gg gh gi gj gk gl gm H I am aF aL aM aN aX a1 a8 bb bd bm bp bt bz bA bD bJ bV bY b1 b5 b8 b9 cb ce ch cj cl co cp cx cy cz cA cB cD cE cG cH cM cN cO cP cR cS cT cU cV cW cX cY cZ c4 c5 c6 c7 c8 c9 da db dc dd de df dg dh di dj dk dl dm dn dp dr dt du dv dw dx dy dA dC dD dE dF dG dI dJ dK dM dQ dR dS dT dV dW dX dY dZ d0 d1 d2 d3 d4 d5 d6 d7 d8 d9 ea eb ec ed ee ef eg eh ei ej ek el em en eo ep eq er es et eu ev ew ex ey ez eA eB eC eD eE eF eG eH eI eJ eL eM:Value},
  Code.wp prog Hy (Exit.then K Q) ⟨#[.pointer (some ⟨p.wb,0,none⟩),bO,.slice av bi ba,.int .i64 (d:Int),bT,gJ,.pointer (some ⟨bZ,0,none⟩),z,u8,gK,eO,.slice bq on b6,.int .i64 N,.pointer (some ⟨S.heap.size,0,none⟩),(.int .i64 k),a4,u16,bR,cq,eR,eS,eT,eU,eV,eW,eY,eZ,e3,e6,e7,e8,e9,u32,fa,fb,fd,fe,ff,fh,fi,fk,fl,fm,fo,fp,fq,fr,fs,ft,fv,fw,fx,fy,fz,fA,fB,fC,fD,fE,fF,fG,fH,fI,fJ,u64,fK,fL,fM,fN,fO,fP,fQ,fR,fS,fT,fU,fV,fW,fX,fY,fZ,f3,f4,f5,f6,f7,f8,f9,ga,gb,gd,ge,gf,gg,gh,gi,gj,gk,gl,gm,H,I,am,aF,aL,aM,aN,aX,a1,a8,bb,bd,bm,bp,bt,bz,bA,bD,bJ,bV,bY,b1,b5,b8,b9,cb,ce,ch,cj,cl,co,cp,cx,cy,cz,cA,cB,cD,cE,cG,cH,cM,cN,cO,cP,cR,cS,cT,cU,cV,cW,cX,cY,cZ,c4,c5,c6,c7,c8,c9,da,db,dc,dd,de,df,dg,dh,di,dj,dk,dl,dm,dn,dp,dr,dt,du,dv,dw,dx,dy,dA,dC,dD,dE,dF,dG,dI,dJ,dK,dM,dQ,dR,dS,dT,dV,dW,dX,dY,dZ,d0,d1,d2,d3,d4,d5,d6,d7,d8,d9,ea,eb,ec,ed,ee,ef,eg,eh,ei,ej,ek,el,em,en,eo,ep,eq,er,es,et,eu,ev,ew,ex,ey,ez,eA,eB,eC,eD,eE,eF,eG,eH,eI,eJ,eL,eM],[]⟩ wr
namespace Bv
theorem pe{p:Prop}(h:p:=by
 exact gZ.simple (st:=.lock bb r) ⟨s,wb,sA,bV,bC,sl,GA,gn,gc,MA,mn,mc,FA,fn,fc,M,F,ar⟩ bZ B bO bT d ps V T ls N L aw aZ QA cg qc bx a7.1 cI b0 a7.2.2.2.1 cc.1 bK c2 aR (an.fresh a7.1 J λb O=>ad) br
  (eC l5 (jw.2 ⟨IA,i,ic,rfl,aN,(ax.ak λb O=>J.block b O.2 (aC O.1)).mono λb O=>⟨by have:=O.1;omega,by have:=O.2;omega⟩⟩) (Sl.bN _) (KD _) (Sl.bN _) (KD _) (Sl.bN _) (KD _)) (kJ cc.1 (a4 _)) (λn hn=>by simp[aA.all] at hn) (by simp only[aA.num];omega) (KD _) bl.2.2 a7.2.1
 ):p:=h
theorem lH{p:Prop}(h:p:=by
 first
  | have bp:decide (k<4)=true:=by simpa using ap.2
  | have bp:decide (k<4)=false:=by simpa using ap.2.1
    have bF:decide (k<7)=true:=by simpa using ap.2.2
 have aK:=ae ap.1;clear ap;go_wp2_with(fail);refine(qG ⟨s,wb,sA,bV,bC,sl,GA,gn,gc,MA,mn,mc,FA,fn,fc,M,F,ar⟩ L aH av bi ba aZ ps QA cg qc bx wr (bQ.1.wr a7.1) ((Sl.c8 a7.2.2.2.2.1 bQ.1.fr).mono λb O=>⟨O.1,λh=>O.2 (.inl h)⟩) ad ((Sl.c8 a7.2.2.1 bQ.1.fr).mono λb O=>⟨O.1,λh=>O.2 (.inl h)⟩) bv).mono ?_;rintro e aT ⟨r,IA,i,ic,rfl,a4,aN,ax,ay,aj⟩;simp only at a4 ay aj;have l:=bQ.2.2.on aj ad;have aW:=cS (bQ.1.next be ay aj) l a4 aN ax aj.size;clear a0 ai af a8 am aF d0 aL aM a4 aN ax ay aj;obtain⟨d0,aL,aM⟩:=l.two;clear l;go_wp2_with(fail);generalize hX:World.setCell _ _ _=X;have J:Fr (λb=>b=S.heap.size) aT X:=by rw[<-hX];first|exact((Fr.refl (λb=>b=S.heap.size) aT).setCell (.inl rfl) _).setCell (.inl rfl) _|exact(((Fr.refl (λb=>b=S.heap.size) aT).setCell (.inl rfl) _).setCell (.inl rfl) _).setCell (.inl rfl) _
 have br:aq X S.heap.size 174 #[.int .i64 (if bb then 6 else 5),.string ⟨#[]⟩,.int .i64 0,.int .i64 0,.string ⟨#[]⟩,.slice none 0 0,.string r.name,.slice IA i ic,.slice none 0 0,.slice none 0 0,.slice none 0 0]:=by rw[<-hX,aK.o];first|exact(aW.2.1.aM 6 _).aM 7 _|exact((aW.2.1.aM 0 _).aM 6 _).aM 7 _
 clear hX d0 aL aM;obtain⟨an,_,a4,aN,ax,bN⟩:=aW.o;have bB:=J.size;have b4:=bQ.2.2.lt;exact pd
 ):p:=h
end Bv
open Bv in
theorem Eo(bb:Bool)(k:Int)(d bi:Nat)(h:(bb=false/\k<4)\/bb=true/\¬k<4/\k<7):SK k d bi:=by
 rcases h with ap|ap
 all_goals
  exact lG
namespace Bw
theorem eQ{p:Prop}(h:p:=by
 refine b3 ?_;generalize hX:World.setCell _ _ _=X;have J:=cJ hX;have bz:aq X S.heap.size 174 #[.int .i64 1,.string (hg L),.int .i64 z.a9,.int .i64 z.numOf,.string z.bu,.slice cU b8 zc,.string ⟨#[]⟩,.slice none 0 0,.slice none 0 0,.slice none 0 0,.slice none 0 0]:=by
  have ac:=ax.s.aM 1 (.string (⟨#[118]⟩++strOf [byteOf r,byteOf t]));rw[uK ad aI.1 aI.2] at ac;rw[<-hX]
  try rw[uK ad aI.1 aI.2]
  exact ac
 have ab:=ax.c.fresh a7.1 J λb O=>ad;have bp:Sl X (λb=>S.heap.size<b/\b<X.heap.size) cU b8 (z.args.map bk):=(cN.ak λb O=>J.block b O.2 (aC O.1)).mono λb O=>⟨O.1,KE O.2 J.size⟩
 have j:∀b,(Value.slice av bi ba).ownBlock=some b->B<=b/\b<S.heap.size:=λb O=>a7.2.2.2.1.one.lt O;have a5:Gr (λ_=>False) B 9 1 X av bi ba (aH.map D.s):=((Gr.strs (Q:=λ_=>False) a7.2.2.2.1.one).c8 ax.c.fr λb O hl=>⟨λh=>h,a7.2.2.2.2.2 b O⟩).dj J.size λb ak hp=>J.block b ak (hp.elim (λh=>h.elim) λhp=>by have:=j b hp;omega);have aQ:=hP bz ab bp a5 bt bo J.size;have cs:=ae j;have ck:S.heap.size<X.heap.size:=bz.lt;have b2:B<=X.heap.size:=ad;clear hX J bz ab bp a5 j bt bo ax cN d0 aL aM;obtain⟨d0,aL,aM⟩:=aQ.1.two;go_wp2_with(at_builtin;refine bP kq rfl (.tmp 114) (.tmp 117) rfl aQ.2.2.2.1 (um.2 rfl) rfl rfl rfl ad ad b2 ?_;intro dQ cp c7 bF az al ci;have dv:=aD bF az al;clear bF az al ci);obtain⟨bm,aJ,bn⟩:=dv.o;obtain⟨bz,ab,bp,a5,bt,bo,cv⟩:=aQ.o;have j:=cs.o;have m:∀b,(Value.slice bq on b6).ownBlock=some b->B<=b/\b<S.heap.size:=λb O=>a7.2.2.2.1.two.lt O;have aE:=a7.2.2.2.1.ne;have aS:∀b,(Value.slice dQ (bi+1) cp).ownBlock=some b->(b<S.heap.size/\(Value.slice av bi ba).ownBlock=some b)\/X.heap.size<=b:=λb O=>(bn b O).imp (λh=>⟨(j b h).2,h⟩) id;have a9:¬(Value.slice av bi ba).ownBlock=some S.heap.size:=λh=>by have:=(j _ h).2;omega
 have cC:=aJ.size;have bS:L<=24:=ab.le
 try refine hN _ _ ?_
 unfold lE;refine⟨dQ,bi+1,cp,bq,on,b6,?_⟩
 iterate 240 apply Exists.intro
 refine⟨?_,rfl⟩;refine⟨aH++[hg L],[],.set true (hg L) z,L,_,(ov.mk ab.src ab.blk (bl.2.2.trans ab.fr) ab.le).fresh bl.1 aJ (λb O=>by have:=(j b O).1;omega),(a7.2.1.on ab.fr (λh=>by rcases h with h|h<;>(simp only at h;omega))).on aJ (λh=>by have:=(j _ h).1;omega),⟨?_,?_,λb O h=>?_⟩,bz.on aJ a9,?_,?_,?_,?_,KD _,?_,by simp;omega,ad⟩
 .rw[KK,KJ,Lb];have:=Gr.strs (l:=aH++[hg L]) (Q:=λb=>B<=b/\(Value.slice bq on b6).ownBlock≠some b) (by rw[KK,KJ,Lb];exact bm)
  rwa [KK,KJ,Lb] at this
 .rw[Ld];have ac:Gr (λb=>(B<=b/\(Value.slice av bi ba).ownBlock≠some b)/\b<S.heap.size) B 174 11 S bq on b6 (ls.map bg):=a7.2.2.2.1.two.mono λb O hp=>⟨hp,O⟩
  have au:=ac.c8 ab.fr λb O hl=>⟨λh=>by have:=a7.2.2.2.2.2 b O;have:=h.1.1;omega,a7.2.2.2.2.2 b O⟩
  have aU:=au.dj aJ.size λb ak hp=>aJ.block b ak (λbI=>hp.elim (λh=>h.1.2 bI) (λh=>aE b bI h));exact aU.mono λb _ hp=>⟨hp.1.1,λh=>by
   rcases aS b h with bE|bE
   .exact hp.1.2 bE.2
   .have:=hp.2;omega⟩
 .rcases aS b O with bE|bE
  .exact aE b bE.2 h
  .have:=(m b h).2;omega
 .refine eC (a1.2 ⟨cU,b8,zc,rfl,bo,?_⟩) kF (Sl.bN _) (KD _) (Sl.bN _) (KD _) (Sl.bN _) (KD _);refine(bp.ak λb O=>aJ.block b O.2 λh=>by have:=(j b h).2;have:=O.1;omega).mono λb O=>⟨⟨by have:=O.1;omega,λh=>?_⟩,by have:=O.2;omega,λh=>by have:=(m b h).2;have:=O.1;omega⟩
  have ac:=O.1;have au:=O.2;rcases aS b h with bE|bE<;>omega
 .exact tb.2 ⟨Et ad,cc.2.1 L ad,dK cc.1 2 z bt⟩
 .intro n hn;rw[Le,all_cons] at hn;simp only[aA.all,an.eM,an.all,Ld,Lf] at hn;exact⟨L,KD _,ad,hn⟩
 .rw[Le,sS];simp only[aA.num];omega
 .intro y bb;rw[Le,rh,<-List.append_assoc];rcases KM.1 bb with bb|bb
  .exact KM.2 (.inl (cc.1 bb))
  .simp only[Lf] at bb;subst bb;exact KM.2 (.inr (by simp[decls,aA.decl]))
 ):p:=h
theorem lH{p:Prop}(h:p:=by
 have cm:L<=24:=bQ.1.le;have c3:¬(wb=s\/wb=S.heap.size):=ad;have cz:S.heap.size<wr.heap.size:=bQ.2.2.lt;have co:Int.tmod (L:Int) 26=(L:Int):=Int.tmod_eq_of_lt ad ad;have ct:Int.tdiv (L:Int) 26=0:=Int.tdiv_eq_zero_of_lt ad ad;go_upto_region 19 with(fail);refine qY (λb=>b=s\/b=S.heap.size) [26] (.free 0 (.free 1 (.free 3 (.free 4 (.free 5 (.held 6 (.free 7 (.free 8 (.free 9 (.free 10 (.free 11 (.free 12 (.held 13 (.free 14 (.free 15 (.free 16 (.free 17 (.free 21 (.pick [2,18] (λi=>bif i == 2 then .pick [18,22] (λi=>bif i == 18 then .held 19 (.free 20 (.pick [22] (λ_=>.free 23 (.pick [24] (λ_=>.free 25 (.pick [26] (λ_=>.stop))))))) else .free 23 (.pick [18,24] (λi=>bif i == 18 then .held 19 (.free 20 (.pick [24] (λ_=>.free 25 (.pick [26] (λ_=>.stop))))) else .pick [18] (λ_=>.held 19 (.free 20 (.free 25 (.pick [26] (λ_=>.stop)))))))) else .held 19 (.free 20 (.pick [2] (λ_=>.pick [22] (λ_=>.free 23 (.pick [24] (λ_=>.free 25 (.pick [26] (λ_=>.stop)))))))))))))))))))))))))))) ?_
 iterate 5 refine tf ?_
 refine mU ?_
 iterate 6 refine tf ?_
 refine mU ?_
 iterate 5 refine tf ?_
 have U:Lr (qJ ⟨s,wb,sA,bV,bC,sl,GA,gn,gc,MA,mn,mc,FA,fn,fc,M,F,ar⟩ S wr L #[.int .i64 5,.string ⟨#[]⟩,.int .i64 0,.int .i64 0,.string ⟨#[]⟩,.slice none 0 0,.string ⟨#[]⟩,.slice none 0 0,.slice none 0 0,.slice none 0 0,.slice none 0 0] wr):=ae ⟨bQ.1,bQ.2.2,Ll⟩;clear a0 ai af a8 am aF d0 aL aM;generalize bs:IntKind.u8.wrap (IntKind.i64.wrap (97+(L:Int)))=r;generalize bu:IntKind.u8.wrap (IntKind.i64.wrap (97+Int.tmod (IntKind.i64.wrap 0) 26))=t;have aI:=ah bs bu;clear bs bu;have bA:(strOf [byteOf r,byteOf t]).size=2:=aO _;refine l8 (P:=?ow) (ops:=?Hq) (Q:=?Hs) (R:=?Hu) (tails:=?HE) (rest:=.free 25 (.pick [26] (λ_=>.stop))) (aa:=?G3)
  (C:=λ(aW:Nat) (Y:Value) eN=>∃(z:VE) (cU:Lp) (b8 zc:Nat),Y=.agg #[.int .i64 z.a9,.int .i64 z.numOf,.string z.bu,.slice cU b8 zc]/\qJ ⟨s,wb,sA,bV,bC,sl,GA,gn,gc,MA,mn,mc,FA,fn,fc,M,F,ar⟩ S wr L #[.int .i64 1,.string ⟨#[]⟩,.int .i64 z.a9,.int .i64 z.numOf,.string z.bu,.slice cU b8 zc,.string ⟨#[]⟩,.slice none 0 0,.slice none 0 0,.slice none 0 0,.slice none 0 0] eN/\Sl eN (λb=>S.heap.size<b/\b<eN.heap.size) cU b8 (z.args.map bk)/\z.src aH 2/\b8<=zc) (λkey=>?vY) ?vR
 case vY=>
  refine aY ?_ ?_
  ·
   refine aB rfl (λK hK=>?_) rfl;go_simp;refine(jK ⟨s,wb,sA,bV,bC,sl,GA,gn,gc,MA,mn,mc,FA,fn,fc,M,F,ar⟩ L aH av bi ba _ ((U.c.ai be (Ll.drew)).wr a7.1) ((Sl.c8 a7.2.2.2.2.1 (U.c.ai be (Ll.drew)).fr).mono λb O=>⟨O.1,λh=>O.2 (.inl h)⟩) ad).mono ?_;rintro e v1 ⟨x,cA,cj,cF,rfl,hx,aN,ca,h,he⟩
   try simp only at h he
   have aK:Fr (λb=>b=s) wr v1:=Fr.aF he;have H:=ae (U.call be cn h aK);have aQ:=ah hx aN;have a2:=ae ((ca.mono λb O=>(⟨by have:=U.s.lt;have:=O.1;have:wr.drew.heap.size=wr.heap.size:=rfl;omega,O.2⟩:S.heap.size<b/\b<v1.heap.size)));refine dz hK (he.mono λ_ h=>.inl h) ?_;clear hK K;clear hx aN ca h he aK;refine aY ?_ ?_
   ·
    refine dP ?_;refine bw (λV=>Ext v1 V/\aq V v1.heap.size 5 #[.int .u8 r,.int .u8 t]) ⟨Ll.alloc _,Lm⟩ (λv2 hV=>?_);have bd:=ae (H.ai be hV.1);have aV:=ae hV.2;have c9:S.heap.size<v1.heap.size:=H.s.lt;have b1:=ae ((a2.ak λb O=>hV.1.block b O.2 λh=>h).mono λb O=>(⟨O.1,KE O.2 hV.1.size⟩:S.heap.size<b/\b<v2.heap.size));clear hV;obtain⟨e0,a6,aP⟩:=aV.two;refine cw (v:=?_) rfl (by rfl) (λV hV=>?_) ?_;rotate_left
    .have bX:=mm V v1.heap.size r t ((hV.cell aP ad).trans (e0 0)) ((hV.cell aP ad).trans (e0 1))
     (go_simp<;>with_reducible rfl)
    try simp only[PU]
    clear e0 a6 aP;refine tf ?_;refine ao ?_;obtain⟨d0,aL,aM⟩:=bd.s.two;refine aB rfl (λK hK=>?_) rfl;go_simp;refine dz hK (Ll.setCell (.inl (.inr rfl)) _) ?_;clear hK K;refine bw (λV=>qJ ⟨s,wb,sA,bV,bC,sl,GA,gn,gc,MA,mn,mc,FA,fn,fc,M,F,ar⟩ S wr L #[.int .i64 1,.string ⟨#[]⟩,.int .i64 0,.int .i64 0,.string ⟨#[]⟩,.slice none 0 0,.string ⟨#[]⟩,.slice none 0 0,.slice none 0 0,.slice none 0 0,.slice none 0 0] V/\Fr (λb=>b=S.heap.size) v2 V) ⟨by exact bd.aM a7.1 0 _,by exact(Fr.refl (λb=>b=S.heap.size) v2).setCell (.inl rfl) _⟩ (λaj hV=>?_);have bf:=ae hV.1;have b4:=ae ((b1.ak λb O=>hV.2.block b O.2 (aC O.1)).mono λb O=>(⟨O.1,KE O.2 hV.2.size⟩:S.heap.size<b/\b<aj.heap.size));have bW:=ae (aV.on hV.2 ad);clear hV d0 aL aM;refine tf ?_;refine ao ?_;obtain⟨d0,aL,aM⟩:=bf.s.two;refine aB rfl (λK hK=>?_) rfl;go_simp;refine dz hK ((((Ll.setCell (.inl (.inr rfl)) _).setCell (.inl (.inr rfl)) _).setCell (.inl (.inr rfl)) _).setCell (.inl (.inr rfl)) _) ?_;clear hK K;refine bw (λV=>qJ ⟨s,wb,sA,bV,bC,sl,GA,gn,gc,MA,mn,mc,FA,fn,fc,M,F,ar⟩ S wr L #[.int .i64 1,.string ⟨#[]⟩,.int .i64 x.a9,.int .i64 x.numOf,.string x.bu,.slice cA cj cF,.string ⟨#[]⟩,.slice none 0 0,.slice none 0 0,.slice none 0 0,.slice none 0 0] V/\Fr (λb=>b=S.heap.size) aj V) ⟨by exact(((bf.aM a7.1 2 _).aM a7.1 3 _).aM a7.1 4 _).aM a7.1 5 _,by exact((((Fr.refl (λb=>b=S.heap.size) aj).setCell (.inl rfl) _).setCell (.inl rfl) _).setCell (.inl rfl) _).setCell (.inl rfl) _⟩ (λv4 hV=>?_)
    have cf:=ae hV.1;have b5:=ae ((b4.ak λb O=>hV.2.block b O.2 (aC O.1)).mono λb O=>(⟨O.1,KE O.2 hV.2.size⟩:S.heap.size<b/\b<v4.heap.size));have cx:=ae (bW.on hV.2 ad);clear hV d0 aL aM;have ag:=And.intro cf.o (And.intro b5.o aQ.o);have aT:∃(z:VE) (cU:Lp) (b8 zc:Nat),(Value.agg #[.int .i64 x.a9,.int .i64 x.numOf,.string x.bu,.slice cA cj cF])=.agg #[.int .i64 z.a9,.int .i64 z.numOf,.string z.bu,.slice cU b8 zc]/\qJ ⟨s,wb,sA,bV,bC,sl,GA,gn,gc,MA,mn,mc,FA,fn,fc,M,F,ar⟩ S wr L #[.int .i64 1,.string ⟨#[]⟩,.int .i64 z.a9,.int .i64 z.numOf,.string z.bu,.slice cU b8 zc,.string ⟨#[]⟩,.slice none 0 0,.slice none 0 0,.slice none 0 0,.slice none 0 0] v4/\Sl v4 (λb=>S.heap.size<b/\b<v4.heap.size) cU b8 (z.args.map bk)/\z.src aH 2/\b8<=zc:=⟨x,cA,cj,cF,rfl,ag⟩
    revert aT;generalize v1.heap.size=aW;exact w9
   ·
    obtain⟨d0,aL,aM⟩:=H.s.two;refine aB rfl (λK hK=>?_) rfl;go_simp;refine dz hK (Ll.setCell (.inl (.inr rfl)) _) ?_;clear hK K;refine bw (λV=>qJ ⟨s,wb,sA,bV,bC,sl,GA,gn,gc,MA,mn,mc,FA,fn,fc,M,F,ar⟩ S wr L #[.int .i64 1,.string ⟨#[]⟩,.int .i64 0,.int .i64 0,.string ⟨#[]⟩,.slice none 0 0,.string ⟨#[]⟩,.slice none 0 0,.slice none 0 0,.slice none 0 0,.slice none 0 0] V/\Fr (λb=>b=S.heap.size) v1 V) ⟨by exact H.aM a7.1 0 _,by exact(Fr.refl (λb=>b=S.heap.size) v1).setCell (.inl rfl) _⟩ (λbj hV=>?_);have I:=ae hV.1;have a3:=ae ((a2.ak λb O=>hV.2.block b O.2 (aC O.1)).mono λb O=>(⟨O.1,KE O.2 hV.2.size⟩:S.heap.size<b/\b<bj.heap.size));clear hV d0 aL aM;refine tf ?_;refine aY ?_ ?_
    ·
     refine dP ?_;refine bw (λV=>Ext bj V/\aq V bj.heap.size 5 #[.int .u8 r,.int .u8 t]) ⟨Ll.alloc _,Lm⟩ (λv6 hV=>?_);have bh:=ae (I.ai be hV.1);have aX:=ae hV.2;have c9:S.heap.size<bj.heap.size:=I.s.lt;have b9:=ae ((a3.ak λb O=>hV.1.block b O.2 λh=>h).mono λb O=>(⟨O.1,KE O.2 hV.1.size⟩:S.heap.size<b/\b<v6.heap.size));clear hV;obtain⟨e0,a6,aP⟩:=aX.two;refine cw (v:=?_) rfl (by rfl) (λV hV=>?_) ?_;rotate_left
     .have bX:=mm V bj.heap.size r t ((hV.cell aP ad).trans (e0 0)) ((hV.cell aP ad).trans (e0 1))
      (go_simp<;>with_reducible rfl)
     try simp only[PU]
     clear e0 a6 aP;refine tf ?_;refine ao ?_;obtain⟨d0,aL,aM⟩:=bh.s.two;refine aB rfl (λK hK=>?_) rfl;go_simp;refine dz hK ((((Ll.setCell (.inl (.inr rfl)) _).setCell (.inl (.inr rfl)) _).setCell (.inl (.inr rfl)) _).setCell (.inl (.inr rfl)) _) ?_;clear hK K;refine bw (λV=>qJ ⟨s,wb,sA,bV,bC,sl,GA,gn,gc,MA,mn,mc,FA,fn,fc,M,F,ar⟩ S wr L #[.int .i64 1,.string ⟨#[]⟩,.int .i64 x.a9,.int .i64 x.numOf,.string x.bu,.slice cA cj cF,.string ⟨#[]⟩,.slice none 0 0,.slice none 0 0,.slice none 0 0,.slice none 0 0] V/\Fr (λb=>b=S.heap.size) v6 V) ⟨by exact(((bh.aM a7.1 2 _).aM a7.1 3 _).aM a7.1 4 _).aM a7.1 5 _,by exact((((Fr.refl (λb=>b=S.heap.size) v6).setCell (.inl rfl) _).setCell (.inl rfl) _).setCell (.inl rfl) _).setCell (.inl rfl) _⟩ (λbD hV=>?_);have ch:=ae hV.1;have cb:=ae ((b9.ak λb O=>hV.2.block b O.2 (aC O.1)).mono λb O=>(⟨O.1,KE O.2 hV.2.size⟩:S.heap.size<b/\b<bD.heap.size));have cy:=ae (aX.on hV.2 ad);clear hV d0 aL aM;have ag:=And.intro ch.o (And.intro cb.o aQ.o)
     have aT:∃(z:VE) (cU:Lp) (b8 zc:Nat),(Value.agg #[.int .i64 x.a9,.int .i64 x.numOf,.string x.bu,.slice cA cj cF])=.agg #[.int .i64 z.a9,.int .i64 z.numOf,.string z.bu,.slice cU b8 zc]/\qJ ⟨s,wb,sA,bV,bC,sl,GA,gn,gc,MA,mn,mc,FA,fn,fc,M,F,ar⟩ S wr L #[.int .i64 1,.string ⟨#[]⟩,.int .i64 z.a9,.int .i64 z.numOf,.string z.bu,.slice cU b8 zc,.string ⟨#[]⟩,.slice none 0 0,.slice none 0 0,.slice none 0 0,.slice none 0 0] bD/\Sl bD (λb=>S.heap.size<b/\b<bD.heap.size) cU b8 (z.args.map bk)/\z.src aH 2/\b8<=zc:=⟨x,cA,cj,cF,rfl,ag⟩
     revert aT;generalize bj.heap.size=aW;exact w9
    ·
     obtain⟨d0,aL,aM⟩:=I.s.two;refine aB rfl (λK hK=>?_) rfl;go_simp;refine dz hK ((((Ll.setCell (.inl (.inr rfl)) _).setCell (.inl (.inr rfl)) _).setCell (.inl (.inr rfl)) _).setCell (.inl (.inr rfl)) _) ?_;clear hK K;refine bw (λV=>qJ ⟨s,wb,sA,bV,bC,sl,GA,gn,gc,MA,mn,mc,FA,fn,fc,M,F,ar⟩ S wr L #[.int .i64 1,.string ⟨#[]⟩,.int .i64 x.a9,.int .i64 x.numOf,.string x.bu,.slice cA cj cF,.string ⟨#[]⟩,.slice none 0 0,.slice none 0 0,.slice none 0 0,.slice none 0 0] V/\Fr (λb=>b=S.heap.size) bj V) ⟨by exact(((I.aM a7.1 2 _).aM a7.1 3 _).aM a7.1 4 _).aM a7.1 5 _,by exact((((Fr.refl (λb=>b=S.heap.size) bj).setCell (.inl rfl) _).setCell (.inl rfl) _).setCell (.inl rfl) _).setCell (.inl rfl) _⟩ (λbB hV=>?_);have br:=ae hV.1;have cd:=ae ((a3.ak λb O=>hV.2.block b O.2 (aC O.1)).mono λb O=>(⟨O.1,KE O.2 hV.2.size⟩:S.heap.size<b/\b<bB.heap.size));clear hV d0 aL aM;refine ao ?_;refine dP ?_;refine bw (λV=>Ext bB V/\aq V bB.heap.size 5 #[.int .u8 r,.int .u8 t]) ⟨Ll.alloc _,Lm⟩ (λa4 hV=>?_);have cl:=ae (br.ai be hV.1);have bY:=ae hV.2;have c9:S.heap.size<bB.heap.size:=br.s.lt;have ce:=ae ((cd.ak λb O=>hV.1.block b O.2 λh=>h).mono λb O=>(⟨O.1,KE O.2 hV.1.size⟩:S.heap.size<b/\b<a4.heap.size));clear hV;obtain⟨e0,a6,aP⟩:=bY.two;refine cw (v:=?_) rfl (by rfl) (λV hV=>?_) ?_;rotate_left
     .have bX:=mm V bB.heap.size r t ((hV.cell aP ad).trans (e0 0)) ((hV.cell aP ad).trans (e0 1))
      (go_simp<;>with_reducible rfl)
     try simp only[PU]
     clear e0 a6 aP;refine tf ?_;have ag:=And.intro cl.o (And.intro ce.o aQ.o);have aT:∃(z:VE) (cU:Lp) (b8 zc:Nat),(Value.agg #[.int .i64 x.a9,.int .i64 x.numOf,.string x.bu,.slice cA cj cF])=.agg #[.int .i64 z.a9,.int .i64 z.numOf,.string z.bu,.slice cU b8 zc]/\qJ ⟨s,wb,sA,bV,bC,sl,GA,gn,gc,MA,mn,mc,FA,fn,fc,M,F,ar⟩ S wr L #[.int .i64 1,.string ⟨#[]⟩,.int .i64 z.a9,.int .i64 z.numOf,.string z.bu,.slice cU b8 zc,.string ⟨#[]⟩,.slice none 0 0,.slice none 0 0,.slice none 0 0,.slice none 0 0] a4/\Sl a4 (λb=>S.heap.size<b/\b<a4.heap.size) cU b8 (z.args.map bk)/\z.src aH 2/\b8<=zc:=⟨x,cA,cj,cF,rfl,ag⟩
     revert aT;generalize bB.heap.size=aW;exact w9
  ·
   refine dP ?_;refine bw (λV=>Ext wr V/\aq V wr.heap.size 5 #[.int .u8 r,.int .u8 t]) ⟨(Ll.alloc _).drew,Lm⟩ (λv10 hV=>?_);have k:=ae (U.ai be hV.1);have W:=ae hV.2;have c9:S.heap.size<wr.heap.size:=U.s.lt;clear hV;obtain⟨e0,a6,aP⟩:=W.two;refine cw (v:=?_) rfl (by rfl) (λV hV=>?_) ?_;rotate_left
   .have bX:=mm V wr.heap.size r t ((hV.cell aP ad).trans (e0 0)) ((hV.cell aP ad).trans (e0 1))
    (go_simp<;>with_reducible rfl)
   try simp only[PU]
   clear e0 a6 aP;refine tf ?_;refine ao ?_;refine aB rfl (λK hK=>?_) rfl;go_simp;refine(jK ⟨s,wb,sA,bV,bC,sl,GA,gn,gc,MA,mn,mc,FA,fn,fc,M,F,ar⟩ L aH av bi ba _ ((k.c.ai be Ll).wr a7.1) ((Sl.c8 a7.2.2.2.2.1 (k.c.ai be Ll).fr).mono λb O=>⟨O.1,λh=>O.2 (.inl h)⟩) ad).mono ?_;rintro e v11 ⟨x,cA,cj,cF,rfl,hx,aN,ca,h,he⟩
   try simp only at h he
   have u:Fr (λb=>b=s) v10 v11:=he;have Z:=ae (k.call be cn h u);have aQ:=ah hx aN;have bJ:=ae ((ca.mono λb O=>(⟨by have:=k.s.lt;have:=O.1;omega,O.2⟩:S.heap.size<b/\b<v11.heap.size)));have bG:=ae (W.on u ad);refine dz hK (he.mono λ_ h=>.inl h) ?_;clear hK K;clear hx aN ca h he u;refine ao ?_;obtain⟨d0,aL,aM⟩:=Z.s.two;refine aB rfl (λK hK=>?_) rfl;go_simp;refine dz hK (Ll.setCell (.inl (.inr rfl)) _) ?_;clear hK K;refine bw (λV=>qJ ⟨s,wb,sA,bV,bC,sl,GA,gn,gc,MA,mn,mc,FA,fn,fc,M,F,ar⟩ S wr L #[.int .i64 1,.string ⟨#[]⟩,.int .i64 0,.int .i64 0,.string ⟨#[]⟩,.slice none 0 0,.string ⟨#[]⟩,.slice none 0 0,.slice none 0 0,.slice none 0 0,.slice none 0 0] V/\Fr (λb=>b=S.heap.size) v11 V) ⟨by exact Z.aM a7.1 0 _,by exact(Fr.refl (λb=>b=S.heap.size) v11).setCell (.inl rfl) _⟩ (λbU hV=>?_);have ap:=ae hV.1;have bL:=ae ((bJ.ak λb O=>hV.2.block b O.2 (aC O.1)).mono λb O=>(⟨O.1,KE O.2 hV.2.size⟩:S.heap.size<b/\b<bU.heap.size));have bH:=ae (bG.on hV.2 ad);clear hV d0 aL aM;refine tf ?_;refine ao ?_;obtain⟨d0,aL,aM⟩:=ap.s.two;refine aB rfl (λK hK=>?_) rfl;go_simp;refine dz hK ((((Ll.setCell (.inl (.inr rfl)) _).setCell (.inl (.inr rfl)) _).setCell (.inl (.inr rfl)) _).setCell (.inl (.inr rfl)) _) ?_;clear hK K
   refine bw (λV=>qJ ⟨s,wb,sA,bV,bC,sl,GA,gn,gc,MA,mn,mc,FA,fn,fc,M,F,ar⟩ S wr L #[.int .i64 1,.string ⟨#[]⟩,.int .i64 x.a9,.int .i64 x.numOf,.string x.bu,.slice cA cj cF,.string ⟨#[]⟩,.slice none 0 0,.slice none 0 0,.slice none 0 0,.slice none 0 0] V/\Fr (λb=>b=S.heap.size) bU V) ⟨by exact(((ap.aM a7.1 2 _).aM a7.1 3 _).aM a7.1 4 _).aM a7.1 5 _,by exact((((Fr.refl (λb=>b=S.heap.size) bU).setCell (.inl rfl) _).setCell (.inl rfl) _).setCell (.inl rfl) _).setCell (.inl rfl) _⟩ (λay hV=>?_);have bR:=ae hV.1;have bN:=ae ((bL.ak λb O=>hV.2.block b O.2 (aC O.1)).mono λb O=>(⟨O.1,KE O.2 hV.2.size⟩:S.heap.size<b/\b<ay.heap.size));have cq:=ae (bH.on hV.2 ad);clear hV d0 aL aM;have ag:=And.intro bR.o (And.intro bN.o aQ.o);have aT:∃(z:VE) (cU:Lp) (b8 zc:Nat),(Value.agg #[.int .i64 x.a9,.int .i64 x.numOf,.string x.bu,.slice cA cj cF])=.agg #[.int .i64 z.a9,.int .i64 z.numOf,.string z.bu,.slice cU b8 zc]/\qJ ⟨s,wb,sA,bV,bC,sl,GA,gn,gc,MA,mn,mc,FA,fn,fc,M,F,ar⟩ S wr L #[.int .i64 1,.string ⟨#[]⟩,.int .i64 z.a9,.int .i64 z.numOf,.string z.bu,.slice cU b8 zc,.string ⟨#[]⟩,.slice none 0 0,.slice none 0 0,.slice none 0 0,.slice none 0 0] ay/\Sl ay (λb=>S.heap.size<b/\b<ay.heap.size) cU b8 (z.args.map bk)/\z.src aH 2/\b8<=zc:=⟨x,cA,cj,cF,rfl,ag⟩
   revert aT;generalize wr.heap.size=aW;exact w9
 case vR=>
  rintro aW Y cB ⟨z,cU,b8,zc,rfl,ax,cN,bt,bo⟩;obtain⟨d0,aL,aM⟩:=ax.s.two;refine tf ?_;exact fj
 ):p:=h
end Bw
open Bw in
theorem HB(d bi:Nat):SK 7 d bi:=by
 exact lG
end Go.Proofs.YtglbpimocmhojaaGreat

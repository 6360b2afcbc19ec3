/- Part 36 of the proof. No condition of its own. -/
import Derived.Test.YtkhnkojkplbioaaGreatQ29
import Derived.Test.YtkhnkojkplbioaaGreatQ35
namespace Go.Proofs.YtkhnkojkplbioaaGreat
open Go.RowKit Go.Proofs.Tryz
set_option maxRecDepth 1000000
set_option maxHeartbeats 25600000
set_option linter.unusedVariables false
variable{bl:L4}{B L b4 bi on:Nat}{M P:Nat->Prop}{S ab w:World}{p:kr}
def k9(n:Nat):Code->Option Code
 | .block k c=>if k=n then some c else k9 n c
 | .seq a b=>match k9 n a with
  | some c=>some c
  | none=>k9 n b
 | .loop c=>k9 n c
 | .scope c=>k9 n c
 | _=>none
noncomputable def xy:Code:=((Tryz.f89.body.bind fT).getD .skip)
noncomputable def Fc:Code:=((k9 2 xy).getD .skip)
noncomputable def Io:Code:=match Fc with
 | .seq a _=>a
 | c=>c
noncomputable def Ir:Code:=match Fc with
 | .seq _ b=>b
 | _=>.skip
def kr.env(p:kr)(ps:List (ByteArray×Bool)):Env:=⟨p.M,ps,p.F.map λf=>(f.name,f.params)⟩
structure oT(p:kr)(S w:World)(L:Nat):Prop where
 src:cn w p.s p.A p.n p.c p.l
 blk:aq w p.wb 149 #[.pointer (some ⟨p.s,0,none⟩),.slice p.GA p.gn p.gc,.slice p.MA p.mn p.mc,.slice p.FA p.fn p.fc,.int .i64 L,.bool p.ar]
 fr:Fr p.MW S w
 le:L<=24
theorem oT.wr{cE:Nat}(h0:gA S p cE)(h:oT p S w L):gA w p L:=
 ⟨h.src,h.blk,h0.ne,Sl.c8 h0.ms h.fr,Sl.c8 h0.fs h.fr,h0.nm,h0.nf,h0.fB,h0.jF,h.le⟩
theorem oT.next(h:oT p S w L)(bf:p.s<p.wb)(hs:cn ab p.s p.A p.n p.c p.l)(O:Fr (λb=>b=p.s) w ab):oT p S ab L:=
 ⟨hs,h.blk.on O ad,h.fr.trans (O.mono λ_ h=>.inl h),h.le⟩
theorem oT.aj(h:oT p S w L)(bf:p.s<p.wb)(O:Ext w ab):oT p S ab L:=h.next bf (h.src.cS O λ_ _ h=>h) (O.mono λ_ h=>h.elim)
theorem oT.fresh{cE:Nat}(h:oT p S w L)(h0:gA S p cE)(O:Fr M w ab)(hM:∀b,M b->S.heap.size<=b):oT p S ab L:=by
 have ac:=h0.src.lt;have au:=h0.blk.lt;exact⟨h.src.cS O λb b1 hm=>by have:=hM b hm;omega,h.blk.on O λhm=>by have:=hM _ hm;omega,h.fr.eR (O.below h.fr.size λk ap hm=>by have:=hM k hm;omega),h.le⟩
theorem oT.Ic{R:Nat}(h:oT p S w L)(hw:gA ab p R)(O:Fr p.MW w ab):oT p S ab R:=⟨hw.src,hw.blk,h.fr.trans O,hw.kJ⟩
def GH(p:kr)(d:Nat)(V T:L4)(ps:List (ByteArray×Bool))(L:Nat)(w:World)(e:Ending)(ab:World):Prop:=
 ∃(ls:List aA) (R:Nat) (bM:L3) (on b4:Nat),e=.returned (.slice bM on b4)/\Made (p.env ps) d V T L R ls/\on<=b4/\Sl ab (fresh w ab) bM on (ls.map bj)/\gA ab p R/\Fr p.MW w ab
def IE(p:kr)(L:Nat):Prop:=∀(d f:Nat) (V T:L4) (N:L3) (bn aa:Nat) (bm:ByteArray) (ps:List (ByteArray×Bool)) (QA:L3) (co qc:Nat) (bS:Value) (w:World),d<=2->f<=6->gA w p L->Sl w (off p.MW w) N bn (V.map D.s)->V.length+L<=60->mA T L->
 Sl w (off p.MW w) QA co (ps.map dv)->co<=2->Calls prog 89 #[.pointer (some ⟨p.wb,0,none⟩),.agg #[.string bm,.slice QA co qc,bS],.slice N bn aa,.int .i64 (d:Int),.int .i64 (f:Int)] w (GH p d V T ps L w)
def g5(p:kr)(bL B:Nat)(eQ bX:Value)(d:Nat)(ps:List (ByteArray×Bool))(V T:L4)(ls:List aA)(N:Int)(S:World)(L:Nat)(aw:World)(bm:ByteArray)(QA:L3)(co qc:Nat)(bS:Value)(av:L3)(bi aX:Nat)(bM:L3)(on b4:Nat)(w:World):Prop:=∃(bl:L4) (m:List aA) (st:aA) (dO:Nat) (cs:List Value),
 oT p aw w dO/\aq w bL 157 #[.string bm,.slice QA co qc,bS]/\lz B 9 1 207 11 w av bi aX (bl.map D.s) bM on b4 ((ls++m).map bj)/\aq w S.heap.size 207 cs.toArray/\(bj st).rep w (lL (λb=>B<=b/\(Value.slice av bi aX).ownBlock≠some b) w (.slice bM on b4)) cs/\
 e6 (p.env ps) d (V++decls ls) (T++decls ls) (.eQ (m++[st]))/\(∀n∈(an.eQ (m++[st])).all,∃k,dO<=k/\k<L+1/\n=ho k)/\(an.eQ (m++[st])).num<=2*(L+1 - dO)/\dO<=L/\bl ⊆ V++decls (ls++(m++[st]))/\bl.length+dO<=60/\on<=12000
def lT(p:kr)(bL B:Nat)(eQ bX:Value)(d:Nat)(ps:List (ByteArray×Bool))(V T:L4)(ls:List aA)(N:Int)(S:World)(L:Nat)(aw:World)(bm:ByteArray)(QA:L3)(co qc:Nat)(bS:Value)(a:Act)(w:World):Prop:=∃(av:L3) (bi aX:Nat) (bM:L3) (on b4:Nat) (gJ z u8 gL eR bU u16 ck gs eS eV eW eX eY eZ e3 e5 e7 e8 e9 fb fd u32 fe ff fh fi fj fk fl fm fo fq fr fs ft fu fv fw fx fz fA fB fC fD fE fF fG fH fI fJ fK fL fM u64 fN fO fP fQ fR fS fT fU fV fW fX fY fZ f3 f4 f5 f6 f7 f8 f9 ga gb gd ge gf gg gh gi gj gk gl gm go gp gq H I am aF aL aM aN aV aW a7 bb be bg bo br bs bw bI bO bW b2 b5 b8 cc cd cf ch cj cp cr ct cx cA cB cC cD cF cG cH cL cM cP cQ cS cT cU cV cW cX cY cZ c4 c5 c6 c7 c8 c9 da db dc dd de df dg dh di dj dk dl dm dn dp dr ds du dw dx dy dz dA dB dC dD dF dG dH dI dJ dK dM dN dQ dS dU dV dW dX dZ d0 d1 d2 d3 d4 d5 d6 d7 d8 d9 ea eb ec ed ee ef eg eh ei ej ek el em en eo ep eq er es et eu ev ew ex ey ez eA eB eD eE eF eG eH eI eJ eK eL eM eN eO eP bV:Value),g5 p bL B eQ bX d ps V T ls N S L aw bm QA co qc bS av bi aX bM on b4 w/\a=⟨#[.pointer (some ⟨p.wb,0,none⟩),eQ,.slice av bi aX,.int .i64 (d:Int),bX,gJ,.pointer (some ⟨bL,0,none⟩),z,u8,gL,eR,.slice bM on b4,.int .i64 N,.pointer (some ⟨S.heap.size,0,none⟩),bV,bU,u16,ck,gs,eS,eV,eW,eX,eY,eZ,e3,e5,e7,e8,e9,fb,fd,u32,fe,ff,fh,fi,fj,fk,fl,fm,fo,fq,fr,fs,ft,fu,fv,fw,fx,fz,fA,fB,fC,fD,fE,fF,fG,fH,fI,fJ,fK,fL,fM,u64,fN,fO,fP,fQ,fR,fS,fT,fU,fV,fW,fX,fY,fZ,f3,f4,f5,f6,f7,f8,f9,ga,gb,gd,ge,gf,gg,gh,gi,gj,gk,gl,gm,go,gp,gq,H,I,am,aF,aL,aM,aN,aV,aW,a7,bb,be,bg,bo,br,bs,bw,bI,bO,bW,b2,b5,b8,cc,cd,cf,ch,cj,cp,cr,ct,cx,cA,cB,cC,cD,cF,cG,cH,cL,cM,cP,cQ,cS,cT,cU,cV,cW,cX,cY,cZ,c4,c5,c6,c7,c8,c9,da,db,dc,dd,de,df,dg,dh,di,dj,dk,dl,dm,dn,dp,dr,ds,du,dw,dx,dy,dz,dA,dB,dC,dD,dF,dG,dH,dI,dJ,dK,dM,dN,dQ,dS,dU,dV,dW,dX,dZ,d0,d1,d2,d3,d4,d5,d6,d7,d8,d9,ea,eb,ec,ed,ee,ef,eg,eh,ei,ej,ek,el,em,en,eo,ep,eq,er,es,et,eu,ev,ew,ex,ey,ez,eA,eB,eD,eE,eF,eG,eH,eI,eJ,eK,eL,eM,eN,eO,eP],[]⟩
theorem g5.simple(p:kr)(bL B:Nat)(eQ bX:Value)(d:Nat)(ps:List (ByteArray×Bool))(V T:L4)(ls:List aA)(N:Int)(L:Nat)(aw:World)(bm:ByteArray)(QA:L3)(co qc:Nat)(bS:Value){av:L3}{aX:Nat}{bM:L3}{cE:Nat}(h0:gA S p cE)(dR:p.wb<bL)(dL:bL<B)(hG:lz B 9 1 207 11 S av bi aX (bl.map D.s) bM on b4 (ls.map bj))
  (hV:bl ⊆ V++decls ls) (b3:bl.length+L+1<=60) (c2:on<=10000) (aR:B<=S.heap.size) {X:World} {dO:Nat} {st:aA} {cs:List Value} (hC:oT p S X dO) (ch:aq X S.heap.size 207 cs.toArray) (ba:(bj st).rep X (fresh S X) cs)
  (a1:Gz (p.env ps) d (V++decls ls) (T++decls ls) st) (y:∀n∈st.all,∃k,dO<=k/\k<L+1/\n=ho k) (K:st.num<=2*(L+1 - dO)) (hle:dO<=L) (a:Fr p.MW aw S) (c:aq S bL 157 #[.string bm,.slice QA co qc,bS]):g5 p bL B eQ bX d ps V T ls N S L aw bm QA co qc bS av bi aX bM on b4 X:=by
 have bf:=h0.ne;refine⟨bl,[],st,dO,cs,⟨hC.src,hC.blk,a.trans hC.fr,hC.le⟩,c.on hC.fr (λh=>by rcases h with h|h<;>omega),?_,ch,?_,?_,?_,?_,hle,?_,ad,ad⟩
 .rw[LM];exact hG.c8 hC.fr λb O _=>by rcases O with O|O<;>omega
 .exact D.aL (λb O=>⟨⟨by have:=O.1;omega,λh=>by have:=(hG.one.lt h).2;have:=O.1;omega⟩,O.2,λh=>by have:=(hG.two.lt h).2;have:=O.1;omega⟩) _ _ ba
 .exact tR.2 a1
 .rw[LN,all_cons];intro n hn;rcases Lt.1 hn with hn|hn
  .exact y n hn
  .simp[an.eQ,an.all] at hn
 .rw[LN,tw];exact K
 .intro x hx;have:=hV hx;exact Al
theorem EW{f:aK}{cs:List Value}(h:(du f).rep w P cs):∃(A:L3) (n c:Nat) (A2:L3) (n2 c2:Nat),cs=[.string f.name,.slice A n c,.slice A2 n2 c2]/\n<=c/\Sl w P A n (f.params.map dv):=by
 unfold du at h;rw[bM,ct] at h;obtain⟨y,rfl,h⟩:=h;obtain⟨A,n,c,ch,rfl,hc,hs,h⟩:=aN.1 h;obtain⟨A2,n2,c2,bA,rfl,ca,bN,h⟩:=aN.1 h;rw[aP] at h;subst h;exact⟨A,n,c,A2,n2,c2,rfl,hc,hs⟩
theorem oW:cj prog 155 207 (.agg #[.int .i64 0,.string ⟨#[]⟩,.int .i64 0,.int .i64 0,.string ⟨#[]⟩,.slice none 0 0,.string ⟨#[]⟩,.slice none 0 0,.slice none 0 0,.slice none 0 0,.slice none 0 0]) 11 192:=cj.mk' Tryz.underlying155 (by kernel_rfl) rfl ad
theorem FK{G:Env}{d:Nat}{aY T:L4}{r:eS}{R:List aA}(ba:su G bl r)(hV:bl ⊆ aY)(ac:e6 G 0 bl T (.eQ R)):e6 G d aY T (.eQ ((.lock false r::R)++[.lock true r])):=by
 rw[Lz,nn];refine⟨kT hV ba,?_⟩;simp only[aA.decl,LM];exact tQ.2 ⟨dg _ 0 d bl _ _ _ hV (λ_ _ h=>h) (LJ _) ac,tR.2 (kT (λx hx=>Lt.2 (.inl (hV hx))) ba)⟩
theorem bB{P:Program}{ops:Array Oper}{Q:Exit->Act->World->Prop}{R:World->World->Prop}{tails:List Nat}{rest:PT}{a:Act}{W:World}(C:World->Prop)(hC:C W)(h:∀V,C V->cR P ops Q R tails rest a V):cR P ops Q R tails rest a W:=h W hC
structure rj(p:kr)(S wr:World)(L:Nat)(cs:Array Value)(V:World):Prop where
 c:oT p S V L
 s:aq V S.heap.size 207 cs
 f:Fr (λb=>b=p.s\/b=S.heap.size) wr V
theorem rj.aj{p:kr}{S wr V aY:World}{L:Nat}{cs:Array Value}(h:rj p S wr L cs V)(bf:p.s<p.wb)(O:Ext V aY):rj p S wr L cs aY:=⟨h.c.aj bf O,h.s.aj O,h.f.trans (O.mono λ_ h=>h.elim)⟩
theorem rj.call{wr V aY:World}{cs:Array Value}(h:rj p S wr L cs V)(bf:p.s<p.wb)(aD:p.s<S.heap.size)(hs:cn aY p.s p.A p.n p.c p.l)(O:Fr (λb=>b=p.s) V aY):rj p S wr L cs aY:=⟨h.c.next bf hs O,h.s.on O ad,h.f.trans (O.mono λ_ h=>.inl h)⟩
theorem rj.aM{p:kr}{S wr V:World}{L cE:Nat}{cs:Array Value}(h:rj p S wr L cs V)(h0:gA S p cE)(i:Nat)(v:Value):rj p S wr L (cs.setIfInBounds i v) (V.setCell ⟨S.heap.size,i,none⟩ v):=
 ⟨h.c.fresh (M:=λb=>b=S.heap.size) h0 ((Fr.refl (λb=>b=S.heap.size) V).setCell (.inl rfl) _) (λb O=>ad),h.s.aM i v,h.f.setCell (.inl (.inr rfl)) _⟩
theorem mE(V:World)(g:Nat)(v1 v2:Int)(h0:V.cell? ⟨g,0,none⟩=some (.int .u8 v1))(ac:V.cell? ⟨g,1,none⟩=some (.int .u8 v2)) :
  (convert 143 9 (.slice (some ⟨g,0,none⟩) 2 2)).run prog V=.ok (.string (strOf [byteOf v1,byteOf v2])) V:=by
 have:=run_convert_bytes_arg (P:=prog) V 143 5 Tryz.underlying143 Tryz.underlying5 g 0 2 2 [v1,v2] rfl (λi an=>by
  obtain rfl|rfl:i=0\/i=1:=ad
  .exact h0
  .exact ac) 9 Tryz.underlying9
 rw[this];rfl
theorem vv{r t:Int}(bU:L<=24)(ac:IntKind.u8.wrap (IntKind.i64.wrap (97+(L:Int)))=r)(au:IntKind.u8.wrap (IntKind.i64.wrap (97+Int.tmod (IntKind.i64.wrap 0) 26))=t):(⟨#[118]⟩++strOf [byteOf r,byteOf t]:ByteArray)=ho L:=by
 subst ac au;have h:∀k:Fin 25,(⟨#[118]⟩++strOf [byteOf (IntKind.u8.wrap (IntKind.i64.wrap (97+((k.val:Nat):Int)))),byteOf (IntKind.u8.wrap (IntKind.i64.wrap (97+Int.tmod (IntKind.i64.wrap 0) 26)))]:ByteArray)=ho k.val:=by decide
 exact h ⟨L,ad⟩
theorem vq{w:World}{P Q:Nat->Prop}:∀{l:L4} {xs:List Value},D.aQ w P (l.map D.s) xs->D.aQ w Q (l.map D.s) xs
 | [],xs,h=>by simpa only[LK,D.aQ] using h
 | e::l,xs,h=>by
  rw[Lq] at h ⊢;obtain⟨y,rfl,bb⟩:=ct.1 h;exact ct.2 ⟨y,rfl,vq bb⟩
theorem Gr.strs{Q:Nat->Prop}{e:TypeId}{A:L3}{n c:Nat}{l:L4}(h:Gr P B e 1 w A n c (l.map D.s)):Gr Q B e 1 w A n c (l.map D.s):=by
 obtain⟨hl,xs,ac,au⟩:=h;exact⟨hl,xs,ac,vq au⟩
theorem wv(s:aA):(bj s).sz=11:=by
 cases s<;>simp[bj,gI,D.sz,D.zm,db,jR,fY,kG]
theorem mm:jR.rep w P [.int .i64 0,.int .i64 0,.string ⟨#[]⟩,.slice none 0 0]:=fj.2 ⟨none,0,rfl⟩
theorem kP:fY.rep w P [.string ⟨#[]⟩,.slice none 0 0]:=by
 exact zU
theorem eG{k:Int}{nm:ByteArray}{e r:D}{aV th el:List D}{e0 e1 e2 e3 bl r1:Value}{bZ A2 cE:L3}{n1 n2 n3 c1 c2 c3:Nat}(he:e.rep w P [e0,e1,e2,e3])(ba:r.rep w P [bl,r1])(ac:Sl w P bZ n1 aV)(ck:n1<=c1)(au:Sl w P A2 n2 th)(cP:n2<=c2)(aY:Sl w P cE n3 el)(aI:n3<=c3):
  (gI k nm e r aV th el).rep w P [.int .i64 k,.string nm,e0,e1,e2,e3,bl,r1,.slice bZ n1 c1,.slice A2 n2 c2,.slice cE n3 c3]:=by
 unfold gI;rw[bM];exact bq.2 ⟨_,rfl,ct.2 ⟨_,rfl,gU.2 ⟨[e0,e1,e2,e3],_,rfl,he,gU.2 ⟨[bl,r1],_,rfl,ba,aN.2 ⟨bZ,n1,c1,_,rfl,ck,ac,aN.2 ⟨A2,n2,c2,_,rfl,cP,au,aN.2 ⟨cE,n3,c3,[],rfl,aI,aY,aP.2 rfl⟩⟩⟩⟩⟩⟩⟩
theorem lz.names{av:L3}{aX:Nat}{bM:L3}{l:List D}{e1 e2:TypeId}{br:Nat}(h:lz B e1 1 e2 br w av bi aX (bl.map D.s) bM on b4 l)(hM:∀b,M b->b<B):Sl w (off M w) av bi (bl.map D.s):=
 h.one.sl (λb O hp=>⟨O,λhm=>by have:=hM b hm;have:=hp.1;omega⟩) (λb O hp=>⟨O,λhm=>by have:=hM b hm;omega⟩)
def SK(k:Int)(d bi:Nat):Prop:=∀(p:kr) (bL B:Nat) (eQ bX:Value) (ps:List (ByteArray×Bool)) (V T:L4) (ls:List aA) (N:Int) (S:World) (L:Nat) (aw:World) (bm:ByteArray) (QA:L3) (co qc:Nat) (bS:Value) (bl:L4) (av:L3) (aX:Nat) (bM:L3) (on b4:Nat) (cE:Nat) (dR:p.wb<bL) (dL:bL<B) (aR:B<=S.heap.size) (bA:co<=2) (wr:World) (bf:p.s<p.wb) (cq:p.s<S.heap.size) (eT:p.wb<S.heap.size) (cN:bl.length=bi) (nt:S.heap.size<=wr.heap.size) (a4:L5 (gA S p cE/\aq S bL 157 #[.string bm,.slice QA co qc,bS]/\Sl S (off p.MW S) QA co (ps.map dv)/\lz B 9 1 207 11 S av bi aX (bl.map D.s) bM on b4 (ls.map bj)/\Sl S (off p.MW S) av bi (bl.map D.s)/\∀b,p.MW b->b<B)) (bV:L5 (oT p S wr L/\aq wr bL 157 #[.string bm,.slice QA co qc,bS]/\aq wr S.heap.size 207 #[.int .i64 5,.string ⟨#[]⟩,.int .i64 0,.int .i64 0,.string ⟨#[]⟩,.slice none 0 0,.string ⟨#[]⟩,.slice none 0 0,.slice none 0 0,.slice none 0 0,.slice none 0 0])) (b3:bl.length+L+1<=60) (c2:on<=10000) (bn:d<=2) (ce:L5 (bl ⊆ V++decls ls/\mA (T++decls ls) (L+1)/\∀R,R<=L->IE p R)) (aJ:Nat) (bu:L5 (gA aw p aJ/\Sl aw (off p.MW aw) QA co (ps.map dv)/\Fr p.MW aw S)) (cy:aw.heap.size<=bL)
  (Q:Exit->Act->World->Prop) (hQ0:∀c a d v w,Q (.panic c) (a.put d v) w->Q (.panic c) a w) (hN:∀a w,lT p bL B eQ bX d ps V T ls N S L aw bm QA co qc bS a w->Q .normal a w) (K:Act->World->Prop) (hK:∀a w,Code.wp prog Ir Q a w->K a w)
  {gJ z u8 gL eR bU u16 ck gs eS eV eW eX eY eZ e3 e5 e7 e8 e9 fb fd u32 fe ff fh fi fj fk fl fm fo fq fr fs ft fu fv fw fx fz fA fB fC fD fE fF fG fH fI fJ fK fL fM u64 fN fO fP fQ fR fS fT fU fV fW fX fY fZ f3 f4 f5 f6 f7 f8 f9 ga gb gd ge gf gg gh gi gj gk gl gm go gp gq H I am aF aL aM aN aV aW a7 bb be bg bo br bs bw bI bO bW b2 b5 b8 cc cd cf ch cj cp cr ct cx cA cB cC cD cF cG cH cL cM cP cQ cS cT cU cV cW cX cY cZ c4 c5 c6 c7 c8 c9 da db dc dd de df dg dh di dj dk dl dm dn dp dr ds du dw dx dy dz dA dB dC dD dF dG dH dI dJ dK dM dN dQ dS dU dV dW dX dZ d0 d1 d2 d3 d4 d5 d6 d7 d8 d9 ea eb ec ed ee ef eg eh ei ej ek el em en eo ep eq er es et eu ev ew ex ey ez eA eB eD eE eF eG eH eI eJ eK eL eM eN eO eP:Value},
  Code.wp prog Io (Exit.then K Q) ⟨#[.pointer (some ⟨p.wb,0,none⟩),eQ,.slice av bi aX,.int .i64 (d:Int),bX,gJ,.pointer (some ⟨bL,0,none⟩),z,u8,gL,eR,.slice bM on b4,.int .i64 N,.pointer (some ⟨S.heap.size,0,none⟩),(.int .i64 k),bU,u16,ck,gs,eS,eV,eW,eX,eY,eZ,e3,e5,e7,e8,e9,fb,fd,u32,fe,ff,fh,fi,fj,fk,fl,fm,fo,fq,fr,fs,ft,fu,fv,fw,fx,fz,fA,fB,fC,fD,fE,fF,fG,fH,fI,fJ,fK,fL,fM,u64,fN,fO,fP,fQ,fR,fS,fT,fU,fV,fW,fX,fY,fZ,f3,f4,f5,f6,f7,f8,f9,ga,gb,gd,ge,gf,gg,gh,gi,gj,gk,gl,gm,go,gp,gq,H,I,am,aF,aL,aM,aN,aV,aW,a7,bb,be,bg,bo,br,bs,bw,bI,bO,bW,b2,b5,b8,cc,cd,cf,ch,cj,cp,cr,ct,cx,cA,cB,cC,cD,cF,cG,cH,cL,cM,cP,cQ,cS,cT,cU,cV,cW,cX,cY,cZ,c4,c5,c6,c7,c8,c9,da,db,dc,dd,de,df,dg,dh,di,dj,dk,dl,dm,dn,dp,dr,ds,du,dw,dx,dy,dz,dA,dB,dC,dD,dF,dG,dH,dI,dJ,dK,dM,dN,dQ,dS,dU,dV,dW,dX,dZ,d0,d1,d2,d3,d4,d5,d6,d7,d8,d9,ea,eb,ec,ed,ee,ef,eg,eh,ei,ej,ek,el,em,en,eo,ep,eq,er,es,et,eu,ev,ew,ex,ey,ez,eA,eB,eD,eE,eF,eG,eH,eI,eJ,eK,eL,eM,eN,eO,eP],[]⟩ wr
namespace Cg
theorem pL{p:Prop}(h:p:=by
 exact g5.simple (st:=.lock bb r) ⟨s,wb,sA,bW,bE,sl,GA,gn,gc,MA,mn,mc,FA,fn,fc,M,F,ar⟩ bL B eQ bX d ps V T ls N L aw bm QA co qc bS a4.1 dR dL a4.2.2.2.1 ce.1 b3 c2 aR (an.fresh a4.1 J λb O=>ad) bw
  (eG mm (jD.2 ⟨IA,i,ic,rfl,b0,(ax.al λb O=>J.block b O.2 (aD O.1)).mono λb O=>⟨by have:=O.1;omega,by have:=O.2;omega⟩⟩) (Sl.bR _) (Lk _) (Sl.bR _) (Lk _) (Sl.bR _) (Lk _)) (kT ce.1 (a1 _)) (λn hn=>by simp[aA.all] at hn) (by simp only[aA.num];omega) (Lk _) bu.2.2 a4.2.1
 ):p:=h
theorem lV{p:Prop}(h:p:=by
 first
  | have bs:decide (k<4)=true:=by simpa using ap.2
  | have bs:decide (k<4)=false:=by simpa using ap.2.1
    have br:decide (k<7)=true:=by simpa using ap.2.2
 have aI:=ae ap.1;clear ap;go_wp2_with(fail);refine(rf ⟨s,wb,sA,bW,bE,sl,GA,gn,gc,MA,mn,mc,FA,fn,fc,M,F,ar⟩ L bl av bi aX bm ps QA co qc bS wr (bV.1.wr a4.1) ((Sl.c8 a4.2.2.2.2.1 bV.1.fr).mono λb O=>⟨O.1,λh=>O.2 (.inl h)⟩) ad ((Sl.c8 a4.2.2.1 bV.1.fr).mono λb O=>⟨O.1,λh=>O.2 (.inl h)⟩) bA).mono ?_;rintro e aU ⟨r,IA,i,ic,rfl,a1,b0,ax,ay,ai⟩;simp only at a1 ay ai;have l:=bV.2.2.on ai ad;have a3:=cH (bV.1.next bf ay ai) l a1 b0 ax ai.size;clear a0 aj af a7 am aF d0 aL aM a1 b0 ax ay ai;obtain⟨d0,aL,aM⟩:=l.two;clear l;go_wp2_with(fail);generalize hX:World.setCell _ _ _=X;have J:Fr (λb=>b=S.heap.size) aU X:=by rw[<-hX];first|exact((Fr.refl (λb=>b=S.heap.size) aU).setCell (.inl rfl) _).setCell (.inl rfl) _|exact(((Fr.refl (λb=>b=S.heap.size) aU).setCell (.inl rfl) _).setCell (.inl rfl) _).setCell (.inl rfl) _
 have bw:aq X S.heap.size 207 #[.int .i64 (if bb then 6 else 5),.string ⟨#[]⟩,.int .i64 0,.int .i64 0,.string ⟨#[]⟩,.slice none 0 0,.string r.name,.slice IA i ic,.slice none 0 0,.slice none 0 0,.slice none 0 0]:=by rw[<-hX,aI.o];first|exact(a3.2.1.aM 6 _).aM 7 _|exact((a3.2.1.aM 0 _).aM 6 _).aM 7 _
 clear hX d0 aL aM;obtain⟨an,_,a1,b0,ax,bN⟩:=a3.o;have b6:=J.size;have a6:=bV.2.2.lt;exact pK
 ):p:=h
end Cg
open Cg in
theorem Fe(bb:Bool)(k:Int)(d bi:Nat)(h:(bb=false/\k<4)\/bb=true/\¬k<4/\k<7):SK k d bi:=by
 rcases h with ap|ap
 all_goals
  exact lU
namespace Ch
theorem eU{p:Prop}(h:p:=by
 refine b9 ?_;generalize hX:World.setCell _ _ _=X;have J:=cO hX;have br:aq X S.heap.size 207 #[.int .i64 1,.string (ho L),.int .i64 z.bg,.int .i64 z.numOf,.string z.bA,.slice b1 cI zc,.string ⟨#[]⟩,.slice none 0 0,.slice none 0 0,.slice none 0 0,.slice none 0 0]:=by
  have ac:=ap.s.aM 1 (.string (⟨#[118]⟩++strOf [byteOf r,byteOf t]));rw[vv ad aG.1 aG.2] at ac;rw[<-hX]
  try rw[vv ad aG.1 aG.2]
  exact ac
 have ab:=ap.c.fresh a4.1 J λb O=>ad;have bs:Sl X (λb=>S.heap.size<b/\b<X.heap.size) b1 cI (z.args.map bp):=(ct.al λb O=>J.block b O.2 (aD O.1)).mono λb O=>⟨O.1,Ll O.2 J.size⟩
 have j:∀b,(Value.slice av bi aX).ownBlock=some b->B<=b/\b<S.heap.size:=λb O=>a4.2.2.2.1.one.lt O;have a8:Gr (λ_=>False) B 9 1 X av bi aX (bl.map D.s):=((Gr.strs (Q:=λ_=>False) a4.2.2.2.1.one).c8 ap.c.fr λb O hl=>⟨λh=>h,a4.2.2.2.2.2 b O⟩).dm J.size λb al hp=>J.block b al (hp.elim (λh=>h.elim) λhp=>by have:=j b hp;omega);have aQ:=h2 br ab bs a8 bv cg J.size;have cn:=ae j;have b0:S.heap.size<X.heap.size:=br.lt;have ak:B<=X.heap.size:=ad;clear hX J br ab bs a8 j bv cg ap ct d0 aL aM;obtain⟨d0,aL,aM⟩:=aQ.1.two;go_wp2_with(at_builtin;refine bT ky rfl (.tmp 114) (.tmp 117) rfl aQ.2.2.2.1 (vf.2 rfl) rfl rfl rfl ad ad ak ?_;intro dx ci c7 bH az cl ca;have ds:=aE bH az cl;clear bH az cl ca);obtain⟨be,aK,bk⟩:=ds.o;obtain⟨br,ab,bs,a8,bv,cg,cu⟩:=aQ.o;have j:=cn.o;have m:∀b,(Value.slice bM on b4).ownBlock=some b->B<=b/\b<S.heap.size:=λb O=>a4.2.2.2.1.two.lt O;have aC:=a4.2.2.2.1.ne;have aS:∀b,(Value.slice dx (bi+1) ci).ownBlock=some b->(b<S.heap.size/\(Value.slice av bi aX).ownBlock=some b)\/X.heap.size<=b:=λb O=>(bk b O).imp (λh=>⟨(j b h).2,h⟩) id;have aV:¬(Value.slice av bi aX).ownBlock=some S.heap.size:=λh=>by have:=(j _ h).2;omega
 have cF:=aK.size;have bN:L<=24:=ab.le
 try refine hN _ _ ?_
 unfold lT;refine⟨dx,bi+1,ci,bM,on,b4,?_⟩
 iterate 240 apply Exists.intro
 refine⟨?_,rfl⟩;refine⟨bl++[ho L],[],.set true (ho L) z,L,_,(oT.mk ab.src ab.blk (bu.2.2.trans ab.fr) ab.le).fresh bu.1 aK (λb O=>by have:=(j b O).1;omega),(a4.2.1.on ab.fr (λh=>by rcases h with h|h<;>(simp only at h;omega))).on aK (λh=>by have:=(j _ h).1;omega),⟨?_,?_,λb O h=>?_⟩,br.on aK aV,?_,?_,?_,?_,Lk _,?_,by simp;omega,ad⟩
 .rw[Lr,Lq,LK];have:=Gr.strs (l:=bl++[ho L]) (Q:=λb=>B<=b/\(Value.slice bM on b4).ownBlock≠some b) (by rw[Lr,Lq,LK];exact be)
  rwa [Lr,Lq,LK] at this
 .rw[LM];have ac:Gr (λb=>(B<=b/\(Value.slice av bi aX).ownBlock≠some b)/\b<S.heap.size) B 207 11 S bM on b4 (ls.map bj):=a4.2.2.2.1.two.mono λb O hp=>⟨hp,O⟩
  have au:=ac.c8 ab.fr λb O hl=>⟨λh=>by have:=a4.2.2.2.2.2 b O;have:=h.1.1;omega,a4.2.2.2.2.2 b O⟩
  have aY:=au.dm aK.size λb al hp=>aK.block b al (λbG=>hp.elim (λh=>h.1.2 bG) (λh=>aC b bG h));exact aY.mono λb _ hp=>⟨hp.1.1,λh=>by
   rcases aS b h with bR|bR
   .exact hp.1.2 bR.2
   .have:=hp.2;omega⟩
 .rcases aS b O with bR|bR
  .exact aC b bR.2 h
  .have:=(m b h).2;omega
 .refine eG (a5.2 ⟨b1,cI,zc,rfl,cg,?_⟩) kP (Sl.bR _) (Lk _) (Sl.bR _) (Lk _) (Sl.bR _) (Lk _);refine(bs.al λb O=>aK.block b O.2 λh=>by have:=(j b h).2;have:=O.1;omega).mono λb O=>⟨⟨by have:=O.1;omega,λh=>?_⟩,by have:=O.2;omega,λh=>by have:=(m b h).2;have:=O.1;omega⟩
  have ac:=O.1;have au:=O.2;rcases aS b h with bR|bR<;>omega
 .exact tR.2 ⟨Fj ad,ce.2.1 L ad,dN ce.1 2 z bv⟩
 .intro n hn;rw[LN,all_cons] at hn;simp only[aA.all,an.eQ,an.all,LM,LO] at hn;exact⟨L,Lk _,ad,hn⟩
 .rw[LN,tw];simp only[aA.num];omega
 .intro y bb;rw[LN,rP,<-List.append_assoc];rcases Lt.1 bb with bb|bb
  .exact Lt.2 (.inl (ce.1 bb))
  .simp only[LO] at bb;subst bb;exact Lt.2 (.inr (by simp[decls,aA.decl]))
 ):p:=h
theorem lV{p:Prop}(h:p:=by
 have ch:L<=24:=bV.1.le;have gP:¬(wb=s\/wb=S.heap.size):=ad;have cs:S.heap.size<wr.heap.size:=bV.2.2.lt;have ck:Int.tmod (L:Int) 26=(L:Int):=Int.tmod_eq_of_lt ad ad;have cx:Int.tdiv (L:Int) 26=0:=Int.tdiv_eq_zero_of_lt ad ad;go_upto_region 19 with(fail);refine rC (λb=>b=s\/b=S.heap.size) [26] (.free 0 (.free 1 (.free 3 (.free 4 (.free 5 (.held 6 (.free 7 (.free 8 (.free 9 (.free 10 (.free 11 (.free 12 (.held 13 (.free 14 (.free 15 (.free 16 (.free 17 (.free 21 (.pick [2,18] (λi=>bif i == 2 then .pick [18,22] (λi=>bif i == 18 then .held 19 (.free 20 (.pick [22] (λ_=>.free 23 (.pick [24] (λ_=>.free 25 (.pick [26] (λ_=>.stop))))))) else .free 23 (.pick [18,24] (λi=>bif i == 18 then .held 19 (.free 20 (.pick [24] (λ_=>.free 25 (.pick [26] (λ_=>.stop))))) else .pick [18] (λ_=>.held 19 (.free 20 (.free 25 (.pick [26] (λ_=>.stop)))))))) else .held 19 (.free 20 (.pick [2] (λ_=>.pick [22] (λ_=>.free 23 (.pick [24] (λ_=>.free 25 (.pick [26] (λ_=>.stop)))))))))))))))))))))))))))) ?_
 iterate 5 refine tf ?_
 refine nh ?_
 iterate 6 refine tf ?_
 refine nh ?_
 iterate 5 refine tf ?_
 have U:L5 (rj ⟨s,wb,sA,bW,bE,sl,GA,gn,gc,MA,mn,mc,FA,fn,fc,M,F,ar⟩ S wr L #[.int .i64 5,.string ⟨#[]⟩,.int .i64 0,.int .i64 0,.string ⟨#[]⟩,.slice none 0 0,.string ⟨#[]⟩,.slice none 0 0,.slice none 0 0,.slice none 0 0,.slice none 0 0] wr):=ae ⟨bV.1,bV.2.2,LW⟩;clear a0 aj af a7 am aF d0 aL aM;generalize bg:IntKind.u8.wrap (IntKind.i64.wrap (97+(L:Int)))=r;generalize bh:IntKind.u8.wrap (IntKind.i64.wrap (97+Int.tmod (IntKind.i64.wrap 0) 26))=t;have aG:=ag bg bh;clear bg bh;have bw:(strOf [byteOf r,byteOf t]).size=2:=aO _;refine mu (P:=?oU) (ops:=?Ie) (Q:=?Ih) (R:=?Ij) (tails:=?Iu) (rest:=.free 25 (.pick [26] (λ_=>.stop))) (aa:=?HP)
  (C:=λ(a3:Nat) (Y:Value) bD=>∃(z:VE) (b1:L3) (cI zc:Nat),Y=.agg #[.int .i64 z.bg,.int .i64 z.numOf,.string z.bA,.slice b1 cI zc]/\rj ⟨s,wb,sA,bW,bE,sl,GA,gn,gc,MA,mn,mc,FA,fn,fc,M,F,ar⟩ S wr L #[.int .i64 1,.string ⟨#[]⟩,.int .i64 z.bg,.int .i64 z.numOf,.string z.bA,.slice b1 cI zc,.string ⟨#[]⟩,.slice none 0 0,.slice none 0 0,.slice none 0 0,.slice none 0 0] bD/\Sl bD (λb=>S.heap.size<b/\b<bD.heap.size) b1 cI (z.args.map bp)/\z.src bl 2/\cI<=zc) (λkey=>?wP) ?wI
 case wP=>
  refine a2 ?_ ?_
  ·
   refine aB rfl (λK hK=>?_) rfl;go_simp;refine(jQ ⟨s,wb,sA,bW,bE,sl,GA,gn,gc,MA,mn,mc,FA,fn,fc,M,F,ar⟩ L bl av bi aX _ ((U.c.aj bf (LW.drew)).wr a4.1) ((Sl.c8 a4.2.2.2.2.1 (U.c.aj bf (LW.drew)).fr).mono λb O=>⟨O.1,λh=>O.2 (.inl h)⟩) ad).mono ?_;rintro e v1 ⟨x,cw,cc,cC,rfl,hx,aN,bo,h,he⟩
   try simp only at h he
   have ax:Fr (λb=>b=s) wr v1:=Fr.aF he;have H:=ae (U.call bf cq h ax);have aQ:=ag hx aN;have aW:=ae ((bo.mono λb O=>(⟨by have:=U.s.lt;have:=O.1;have:wr.drew.heap.size=wr.heap.size:=rfl;omega,O.2⟩:S.heap.size<b/\b<v1.heap.size)));refine dq hK (he.mono λ_ h=>.inl h) ?_;clear hK K;clear hx aN bo h he ax;refine a2 ?_ ?_
   ·
    refine dT ?_;refine bB (λV=>Ext v1 V/\aq V v1.heap.size 5 #[.int .u8 r,.int .u8 t]) ⟨LW.alloc _,LX⟩ (λv2 hV=>?_);have a1:=ae (H.aj bf hV.1);have aT:=ae hV.2;have cJ:S.heap.size<v1.heap.size:=H.s.lt;have bU:=ae ((aW.al λb O=>hV.1.block b O.2 λh=>h).mono λb O=>(⟨O.1,Ll O.2 hV.1.size⟩:S.heap.size<b/\b<v2.heap.size));clear hV;obtain⟨e0,a6,aP⟩:=aT.two;refine cz (v:=?_) rfl (by rfl) (λV hV=>?_) ?_;rotate_left
    .have b6:=mE V v1.heap.size r t ((hV.cell aP ad).trans (e0 0)) ((hV.cell aP ad).trans (e0 1))
     (go_simp<;>with_reducible rfl)
    try simp only[PU]
    clear e0 a6 aP;refine tf ?_;refine ao ?_;obtain⟨d0,aL,aM⟩:=a1.s.two;refine aB rfl (λK hK=>?_) rfl;go_simp;refine dq hK (LW.setCell (.inl (.inr rfl)) _) ?_;clear hK K;refine bB (λV=>rj ⟨s,wb,sA,bW,bE,sl,GA,gn,gc,MA,mn,mc,FA,fn,fc,M,F,ar⟩ S wr L #[.int .i64 1,.string ⟨#[]⟩,.int .i64 0,.int .i64 0,.string ⟨#[]⟩,.slice none 0 0,.string ⟨#[]⟩,.slice none 0 0,.slice none 0 0,.slice none 0 0,.slice none 0 0] V/\Fr (λb=>b=S.heap.size) v2 V) ⟨by exact a1.aM a4.1 0 _,by exact(Fr.refl (λb=>b=S.heap.size) v2).setCell (.inl rfl) _⟩ (λbt hV=>?_);have a9:=ae hV.1;have bY:=ae ((bU.al λb O=>hV.2.block b O.2 (aD O.1)).mono λb O=>(⟨O.1,Ll O.2 hV.2.size⟩:S.heap.size<b/\b<bt.heap.size));have bK:=ae (aT.on hV.2 ad);clear hV d0 aL aM;refine tf ?_;refine ao ?_;obtain⟨d0,aL,aM⟩:=a9.s.two;refine aB rfl (λK hK=>?_) rfl;go_simp;refine dq hK ((((LW.setCell (.inl (.inr rfl)) _).setCell (.inl (.inr rfl)) _).setCell (.inl (.inr rfl)) _).setCell (.inl (.inr rfl)) _) ?_;clear hK K;refine bB (λV=>rj ⟨s,wb,sA,bW,bE,sl,GA,gn,gc,MA,mn,mc,FA,fn,fc,M,F,ar⟩ S wr L #[.int .i64 1,.string ⟨#[]⟩,.int .i64 x.bg,.int .i64 x.numOf,.string x.bA,.slice cw cc cC,.string ⟨#[]⟩,.slice none 0 0,.slice none 0 0,.slice none 0 0,.slice none 0 0] V/\Fr (λb=>b=S.heap.size) bt V) ⟨by exact(((a9.aM a4.1 2 _).aM a4.1 3 _).aM a4.1 4 _).aM a4.1 5 _,by exact((((Fr.refl (λb=>b=S.heap.size) bt).setCell (.inl rfl) _).setCell (.inl rfl) _).setCell (.inl rfl) _).setCell (.inl rfl) _⟩ (λv4 hV=>?_)
    have cb:=ae hV.1;have bZ:=ae ((bY.al λb O=>hV.2.block b O.2 (aD O.1)).mono λb O=>(⟨O.1,Ll O.2 hV.2.size⟩:S.heap.size<b/\b<v4.heap.size));have cp:=ae (bK.on hV.2 ad);clear hV d0 aL aM;have ah:=And.intro cb.o (And.intro bZ.o aQ.o);have aI:∃(z:VE) (b1:L3) (cI zc:Nat),(Value.agg #[.int .i64 x.bg,.int .i64 x.numOf,.string x.bA,.slice cw cc cC])=.agg #[.int .i64 z.bg,.int .i64 z.numOf,.string z.bA,.slice b1 cI zc]/\rj ⟨s,wb,sA,bW,bE,sl,GA,gn,gc,MA,mn,mc,FA,fn,fc,M,F,ar⟩ S wr L #[.int .i64 1,.string ⟨#[]⟩,.int .i64 z.bg,.int .i64 z.numOf,.string z.bA,.slice b1 cI zc,.string ⟨#[]⟩,.slice none 0 0,.slice none 0 0,.slice none 0 0,.slice none 0 0] v4/\Sl v4 (λb=>S.heap.size<b/\b<v4.heap.size) b1 cI (z.args.map bp)/\z.src bl 2/\cI<=zc:=⟨x,cw,cc,cC,rfl,ah⟩
    revert aI;generalize v1.heap.size=a3;exact xN
   ·
    obtain⟨d0,aL,aM⟩:=H.s.two;refine aB rfl (λK hK=>?_) rfl;go_simp;refine dq hK (LW.setCell (.inl (.inr rfl)) _) ?_;clear hK K;refine bB (λV=>rj ⟨s,wb,sA,bW,bE,sl,GA,gn,gc,MA,mn,mc,FA,fn,fc,M,F,ar⟩ S wr L #[.int .i64 1,.string ⟨#[]⟩,.int .i64 0,.int .i64 0,.string ⟨#[]⟩,.slice none 0 0,.string ⟨#[]⟩,.slice none 0 0,.slice none 0 0,.slice none 0 0,.slice none 0 0] V/\Fr (λb=>b=S.heap.size) v1 V) ⟨by exact H.aM a4.1 0 _,by exact(Fr.refl (λb=>b=S.heap.size) v1).setCell (.inl rfl) _⟩ (λbP hV=>?_);have I:=ae hV.1;have aZ:=ae ((aW.al λb O=>hV.2.block b O.2 (aD O.1)).mono λb O=>(⟨O.1,Ll O.2 hV.2.size⟩:S.heap.size<b/\b<bP.heap.size));clear hV d0 aL aM;refine tf ?_;refine a2 ?_ ?_
    ·
     refine dT ?_;refine bB (λV=>Ext bP V/\aq V bP.heap.size 5 #[.int .u8 r,.int .u8 t]) ⟨LW.alloc _,LX⟩ (λv6 hV=>?_);have bc:=ae (I.aj bf hV.1);have aU:=ae hV.2;have cJ:S.heap.size<bP.heap.size:=I.s.lt;have b2:=ae ((aZ.al λb O=>hV.1.block b O.2 λh=>h).mono λb O=>(⟨O.1,Ll O.2 hV.1.size⟩:S.heap.size<b/\b<v6.heap.size));clear hV;obtain⟨e0,a6,aP⟩:=aU.two;refine cz (v:=?_) rfl (by rfl) (λV hV=>?_) ?_;rotate_left
     .have b6:=mE V bP.heap.size r t ((hV.cell aP ad).trans (e0 0)) ((hV.cell aP ad).trans (e0 1))
      (go_simp<;>with_reducible rfl)
     try simp only[PU]
     clear e0 a6 aP;refine tf ?_;refine ao ?_;obtain⟨d0,aL,aM⟩:=bc.s.two;refine aB rfl (λK hK=>?_) rfl;go_simp;refine dq hK ((((LW.setCell (.inl (.inr rfl)) _).setCell (.inl (.inr rfl)) _).setCell (.inl (.inr rfl)) _).setCell (.inl (.inr rfl)) _) ?_;clear hK K;refine bB (λV=>rj ⟨s,wb,sA,bW,bE,sl,GA,gn,gc,MA,mn,mc,FA,fn,fc,M,F,ar⟩ S wr L #[.int .i64 1,.string ⟨#[]⟩,.int .i64 x.bg,.int .i64 x.numOf,.string x.bA,.slice cw cc cC,.string ⟨#[]⟩,.slice none 0 0,.slice none 0 0,.slice none 0 0,.slice none 0 0] V/\Fr (λb=>b=S.heap.size) v6 V) ⟨by exact(((bc.aM a4.1 2 _).aM a4.1 3 _).aM a4.1 4 _).aM a4.1 5 _,by exact((((Fr.refl (λb=>b=S.heap.size) v6).setCell (.inl rfl) _).setCell (.inl rfl) _).setCell (.inl rfl) _).setCell (.inl rfl) _⟩ (λcj hV=>?_);have cd:=ae hV.1;have b5:=ae ((b2.al λb O=>hV.2.block b O.2 (aD O.1)).mono λb O=>(⟨O.1,Ll O.2 hV.2.size⟩:S.heap.size<b/\b<cj.heap.size));have cr:=ae (aU.on hV.2 ad);clear hV d0 aL aM;have ah:=And.intro cd.o (And.intro b5.o aQ.o)
     have aI:∃(z:VE) (b1:L3) (cI zc:Nat),(Value.agg #[.int .i64 x.bg,.int .i64 x.numOf,.string x.bA,.slice cw cc cC])=.agg #[.int .i64 z.bg,.int .i64 z.numOf,.string z.bA,.slice b1 cI zc]/\rj ⟨s,wb,sA,bW,bE,sl,GA,gn,gc,MA,mn,mc,FA,fn,fc,M,F,ar⟩ S wr L #[.int .i64 1,.string ⟨#[]⟩,.int .i64 z.bg,.int .i64 z.numOf,.string z.bA,.slice b1 cI zc,.string ⟨#[]⟩,.slice none 0 0,.slice none 0 0,.slice none 0 0,.slice none 0 0] cj/\Sl cj (λb=>S.heap.size<b/\b<cj.heap.size) b1 cI (z.args.map bp)/\z.src bl 2/\cI<=zc:=⟨x,cw,cc,cC,rfl,ah⟩
     revert aI;generalize bP.heap.size=a3;exact xN
    ·
     obtain⟨d0,aL,aM⟩:=I.s.two;refine aB rfl (λK hK=>?_) rfl;go_simp;refine dq hK ((((LW.setCell (.inl (.inr rfl)) _).setCell (.inl (.inr rfl)) _).setCell (.inl (.inr rfl)) _).setCell (.inl (.inr rfl)) _) ?_;clear hK K;refine bB (λV=>rj ⟨s,wb,sA,bW,bE,sl,GA,gn,gc,MA,mn,mc,FA,fn,fc,M,F,ar⟩ S wr L #[.int .i64 1,.string ⟨#[]⟩,.int .i64 x.bg,.int .i64 x.numOf,.string x.bA,.slice cw cc cC,.string ⟨#[]⟩,.slice none 0 0,.slice none 0 0,.slice none 0 0,.slice none 0 0] V/\Fr (λb=>b=S.heap.size) bP V) ⟨by exact(((I.aM a4.1 2 _).aM a4.1 3 _).aM a4.1 4 _).aM a4.1 5 _,by exact((((Fr.refl (λb=>b=S.heap.size) bP).setCell (.inl rfl) _).setCell (.inl rfl) _).setCell (.inl rfl) _).setCell (.inl rfl) _⟩ (λba hV=>?_);have bd:=ae hV.1;have b7:=ae ((aZ.al λb O=>hV.2.block b O.2 (aD O.1)).mono λb O=>(⟨O.1,Ll O.2 hV.2.size⟩:S.heap.size<b/\b<ba.heap.size));clear hV d0 aL aM;refine ao ?_;refine dT ?_;refine bB (λV=>Ext ba V/\aq V ba.heap.size 5 #[.int .u8 r,.int .u8 t]) ⟨LW.alloc _,LX⟩ (λaH hV=>?_);have cf:=ae (bd.aj bf hV.1);have bO:=ae hV.2;have cJ:S.heap.size<ba.heap.size:=bd.s.lt;have b8:=ae ((b7.al λb O=>hV.1.block b O.2 λh=>h).mono λb O=>(⟨O.1,Ll O.2 hV.1.size⟩:S.heap.size<b/\b<aH.heap.size));clear hV;obtain⟨e0,a6,aP⟩:=bO.two;refine cz (v:=?_) rfl (by rfl) (λV hV=>?_) ?_;rotate_left
     .have b6:=mE V ba.heap.size r t ((hV.cell aP ad).trans (e0 0)) ((hV.cell aP ad).trans (e0 1))
      (go_simp<;>with_reducible rfl)
     try simp only[PU]
     clear e0 a6 aP;refine tf ?_;have ah:=And.intro cf.o (And.intro b8.o aQ.o);have aI:∃(z:VE) (b1:L3) (cI zc:Nat),(Value.agg #[.int .i64 x.bg,.int .i64 x.numOf,.string x.bA,.slice cw cc cC])=.agg #[.int .i64 z.bg,.int .i64 z.numOf,.string z.bA,.slice b1 cI zc]/\rj ⟨s,wb,sA,bW,bE,sl,GA,gn,gc,MA,mn,mc,FA,fn,fc,M,F,ar⟩ S wr L #[.int .i64 1,.string ⟨#[]⟩,.int .i64 z.bg,.int .i64 z.numOf,.string z.bA,.slice b1 cI zc,.string ⟨#[]⟩,.slice none 0 0,.slice none 0 0,.slice none 0 0,.slice none 0 0] aH/\Sl aH (λb=>S.heap.size<b/\b<aH.heap.size) b1 cI (z.args.map bp)/\z.src bl 2/\cI<=zc:=⟨x,cw,cc,cC,rfl,ah⟩
     revert aI;generalize ba.heap.size=a3;exact xN
  ·
   refine dT ?_;refine bB (λV=>Ext wr V/\aq V wr.heap.size 5 #[.int .u8 r,.int .u8 t]) ⟨(LW.alloc _).drew,LX⟩ (λv10 hV=>?_);have k:=ae (U.aj bf hV.1);have W:=ae hV.2;have cJ:S.heap.size<wr.heap.size:=U.s.lt;clear hV;obtain⟨e0,a6,aP⟩:=W.two;refine cz (v:=?_) rfl (by rfl) (λV hV=>?_) ?_;rotate_left
   .have b6:=mE V wr.heap.size r t ((hV.cell aP ad).trans (e0 0)) ((hV.cell aP ad).trans (e0 1))
    (go_simp<;>with_reducible rfl)
   try simp only[PU]
   clear e0 a6 aP;refine tf ?_;refine ao ?_;refine aB rfl (λK hK=>?_) rfl;go_simp;refine(jQ ⟨s,wb,sA,bW,bE,sl,GA,gn,gc,MA,mn,mc,FA,fn,fc,M,F,ar⟩ L bl av bi aX _ ((k.c.aj bf LW).wr a4.1) ((Sl.c8 a4.2.2.2.2.1 (k.c.aj bf LW).fr).mono λb O=>⟨O.1,λh=>O.2 (.inl h)⟩) ad).mono ?_;rintro e v11 ⟨x,cw,cc,cC,rfl,hx,aN,bo,h,he⟩
   try simp only at h he
   have u:Fr (λb=>b=s) v10 v11:=he;have Z:=ae (k.call bf cq h u);have aQ:=ag hx aN;have bz:=ae ((bo.mono λb O=>(⟨by have:=k.s.lt;have:=O.1;omega,O.2⟩:S.heap.size<b/\b<v11.heap.size)));have bq:=ae (W.on u ad);refine dq hK (he.mono λ_ h=>.inl h) ?_;clear hK K;clear hx aN bo h he u;refine ao ?_;obtain⟨d0,aL,aM⟩:=Z.s.two;refine aB rfl (λK hK=>?_) rfl;go_simp;refine dq hK (LW.setCell (.inl (.inr rfl)) _) ?_;clear hK K;refine bB (λV=>rj ⟨s,wb,sA,bW,bE,sl,GA,gn,gc,MA,mn,mc,FA,fn,fc,M,F,ar⟩ S wr L #[.int .i64 1,.string ⟨#[]⟩,.int .i64 0,.int .i64 0,.string ⟨#[]⟩,.slice none 0 0,.string ⟨#[]⟩,.slice none 0 0,.slice none 0 0,.slice none 0 0,.slice none 0 0] V/\Fr (λb=>b=S.heap.size) v11 V) ⟨by exact Z.aM a4.1 0 _,by exact(Fr.refl (λb=>b=S.heap.size) v11).setCell (.inl rfl) _⟩ (λbJ hV=>?_);have ai:=ae hV.1;have bC:=ae ((bz.al λb O=>hV.2.block b O.2 (aD O.1)).mono λb O=>(⟨O.1,Ll O.2 hV.2.size⟩:S.heap.size<b/\b<bJ.heap.size));have bx:=ae (bq.on hV.2 ad);clear hV d0 aL aM;refine tf ?_;refine ao ?_;obtain⟨d0,aL,aM⟩:=ai.s.two;refine aB rfl (λK hK=>?_) rfl;go_simp;refine dq hK ((((LW.setCell (.inl (.inr rfl)) _).setCell (.inl (.inr rfl)) _).setCell (.inl (.inr rfl)) _).setCell (.inl (.inr rfl)) _) ?_;clear hK K
   refine bB (λV=>rj ⟨s,wb,sA,bW,bE,sl,GA,gn,gc,MA,mn,mc,FA,fn,fc,M,F,ar⟩ S wr L #[.int .i64 1,.string ⟨#[]⟩,.int .i64 x.bg,.int .i64 x.numOf,.string x.bA,.slice cw cc cC,.string ⟨#[]⟩,.slice none 0 0,.slice none 0 0,.slice none 0 0,.slice none 0 0] V/\Fr (λb=>b=S.heap.size) bJ V) ⟨by exact(((ai.aM a4.1 2 _).aM a4.1 3 _).aM a4.1 4 _).aM a4.1 5 _,by exact((((Fr.refl (λb=>b=S.heap.size) bJ).setCell (.inl rfl) _).setCell (.inl rfl) _).setCell (.inl rfl) _).setCell (.inl rfl) _⟩ (λay hV=>?_);have bI:=ae hV.1;have bF:=ae ((bC.al λb O=>hV.2.block b O.2 (aD O.1)).mono λb O=>(⟨O.1,Ll O.2 hV.2.size⟩:S.heap.size<b/\b<ay.heap.size));have cm:=ae (bx.on hV.2 ad);clear hV d0 aL aM;have ah:=And.intro bI.o (And.intro bF.o aQ.o);have aI:∃(z:VE) (b1:L3) (cI zc:Nat),(Value.agg #[.int .i64 x.bg,.int .i64 x.numOf,.string x.bA,.slice cw cc cC])=.agg #[.int .i64 z.bg,.int .i64 z.numOf,.string z.bA,.slice b1 cI zc]/\rj ⟨s,wb,sA,bW,bE,sl,GA,gn,gc,MA,mn,mc,FA,fn,fc,M,F,ar⟩ S wr L #[.int .i64 1,.string ⟨#[]⟩,.int .i64 z.bg,.int .i64 z.numOf,.string z.bA,.slice b1 cI zc,.string ⟨#[]⟩,.slice none 0 0,.slice none 0 0,.slice none 0 0,.slice none 0 0] ay/\Sl ay (λb=>S.heap.size<b/\b<ay.heap.size) b1 cI (z.args.map bp)/\z.src bl 2/\cI<=zc:=⟨x,cw,cc,cC,rfl,ah⟩
   revert aI;generalize wr.heap.size=a3;exact xN
 case wI=>
  rintro a3 Y cv ⟨z,b1,cI,zc,rfl,ap,ct,bv,cg⟩;obtain⟨d0,aL,aM⟩:=ap.s.two;refine tf ?_;exact fp
 ):p:=h
end Ch
open Ch in
theorem Iq(d bi:Nat):SK 7 d bi:=by
 exact lU
end Go.Proofs.YtkhnkojkplbioaaGreat

/- Part 38 of the proof. No condition of its own. -/
import Derived.Test.YtflecliffjbleaaGreatS30
import Derived.Test.YtflecliffjbleaaGreatS37
namespace Go.Proofs.YtflecliffjbleaaGreat
open Go.RowKit Go.Proofs.Tryz
set_option maxRecDepth 1000000
set_option maxHeartbeats 25600000
set_option linter.unusedVariables false
variable{B L a7 bi on:Nat}{M P:Nat->Prop}{S ab w:World}{p:kz}
def lu(n:Nat):Code->Option Code
 | .block k c=>if k=n then some c else lu n c
 | .seq a b=>match lu n a with
  | some c=>some c
  | none=>lu n b
 | .loop c=>lu n c
 | .scope c=>lu n c
 | _=>none
noncomputable def xv:Code:=((Tryz.f96.body.bind gd).getD .skip)
noncomputable def E9:Code:=((lu 2 xv).getD .skip)
noncomputable def Iw:Code:=match E9 with
 | .seq a _=>a
 | c=>c
noncomputable def Iz:Code:=match E9 with
 | .seq _ b=>b
 | _=>.skip
def kz.env(p:kz)(ps:List (ByteArray×Bool)):Env:=⟨p.M,ps,p.F.map λf=>(f.name,f.params)⟩
structure oX(p:kz)(S w:World)(L:Nat):Prop where
 src:cp w p.s p.A p.n p.c p.l
 blk:ao w p.wb 169 #[.pointer (some ⟨p.s,0,none⟩),.slice p.GA p.gn p.gc,.slice p.MA p.mn p.mc,.slice p.FA p.fn p.fc,.int .i64 L,.bool p.ar]
 fr:Fr p.MW S w
 le:L<=24
theorem oX.wr{cu:Nat}(h0:gH S p cu)(h:oX p S w L):gH w p L:=
 ⟨h.src,h.blk,h0.ne,Sl.cS h0.ms h.fr,Sl.cS h0.fs h.fr,h0.nm,h0.nf,h0.gO,h0.jf,h.le⟩
theorem oX.next(h:oX p S w L)(bl:p.s<p.wb)(hs:cp ab p.s p.A p.n p.c p.l)(O:Fr (λb=>b=p.s) w ab):oX p S ab L:=
 ⟨hs,h.blk.on O ad,h.fr.trans (O.mono λ_ h=>.inl h),h.le⟩
theorem oX.aj(h:oX p S w L)(bl:p.s<p.wb)(O:Ext w ab):oX p S ab L:=h.next bl (h.src.cT O λ_ _ h=>h) (O.mono λ_ h=>h.elim)
theorem oX.fresh{cu:Nat}(h:oX p S w L)(h0:gH S p cu)(O:Fr M w ab)(hM:∀b,M b->S.heap.size<=b):oX p S ab L:=by
 have ac:=h0.src.lt;have ax:=h0.blk.lt;exact⟨h.src.cT O λb bX hm=>by have:=hM b hm;omega,h.blk.on O λhm=>by have:=hM _ hm;omega,h.fr.eU (O.below h.fr.size λk aj hm=>by have:=hM k hm;omega),h.le⟩
theorem oX.Iq{R:Nat}(h:oX p S w L)(hw:gH ab p R)(O:Fr p.MW w ab):oX p S ab R:=⟨hw.src,hw.blk,h.fr.trans O,hw.kR⟩
def GO(p:kz)(d:Nat)(V T:Ml)(ps:List (ByteArray×Bool))(L:Nat)(w:World)(e:Ending)(ab:World):Prop:=
 ∃(ls:List az) (R:Nat) (bH:Mk) (on bB:Nat),e=.returned (.slice bH on bB)/\Made (p.env ps) d V T L R ls/\on<=bB/\Sl ab (fresh w ab) bH on (ls.map bg)/\gH ab p R/\Fr p.MW w ab
def IK(p:kz)(L:Nat):Prop:=∀(d f:Nat) (V T:Ml) (N:Mk) (bn aq:Nat) (bc:ByteArray) (ps:List (ByteArray×Bool)) (QA:Mk) (b8 qc:Nat) (br:Value) (w:World),d<=2->f<=6->gH w p L->Sl w (off p.MW w) N bn (V.map D.s)->V.length+L<=60->mG T L->
 Sl w (off p.MW w) QA b8 (ps.map cz)->b8<=2->Calls prog 96 #[.pointer (some ⟨p.wb,0,none⟩),.agg #[.string bc,.slice QA b8 qc,br],.slice N bn aq,.int .i64 (d:Int),.int .i64 (f:Int)] w (GO p d V T ps L w)
def g8(p:kz)(bj B:Nat)(bQ bT:Value)(d:Nat)(ps:List (ByteArray×Bool))(V T:Ml)(ls:List az)(N:Int)(S:World)(L:Nat)(aE:World)(bc:ByteArray)(QA:Mk)(b8 qc:Nat)(br:Value)(av:Mk)(bi a7:Nat)(bH:Mk)(on bB:Nat)(w:World):Prop:=∃(aV:Ml) (m:List az) (st:az) (a6:Nat) (cs:List Value),
 oX p aE w a6/\ao w bj 137 #[.string bc,.slice QA b8 qc,br]/\lL B 9 1 188 11 w av bi a7 (aV.map D.s) bH on bB ((ls++m).map bg)/\ao w S.heap.size 188 cs.toArray/\(bg st).rep w (ly (λb=>B<=b/\(Value.slice av bi a7).ownBlock≠some b) w (.slice bH on bB)) cs/\
 fk (p.env ps) d (V++decls ls) (T++decls ls) (.eT (m++[st]))/\(∀n∈(al.eT (m++[st])).all,∃k,a6<=k/\k<L+1/\n=hE k)/\(al.eT (m++[st])).num<=2*(L+1 - a6)/\a6<=L/\aV ⊆ V++decls (ls++(m++[st]))/\aV.length+a6<=60/\on<=12000
def l1(p:kz)(bj B:Nat)(bQ bT:Value)(d:Nat)(ps:List (ByteArray×Bool))(V T:Ml)(ls:List az)(N:Int)(S:World)(L:Nat)(aE:World)(bc:ByteArray)(QA:Mk)(b8 qc:Nat)(br:Value)(a:Act)(w:World):Prop:=∃(av:Mk) (bi a7:Nat) (bH:Mk) (on bB:Nat) (gO o u8 gQ eX bw u16 cM gz eY eZ e3 e4 e5 e6 e7 e8 e9 fa fb fd fe u32 ff fi fj fl fo fp fq fr fs ft fu fv fw fx fy fz fA fB fC fE fF fG fH fI fJ fK fL fM fN fP fQ u64 fR fS fT fU fV fW fX fY fZ f3 f4 f5 f6 f7 f8 f9 ga gb gd ge gf gg gh gi gj gk gl gm go gp gq gs gt gu gv H I am aJ aK aL aO aZ a8 bb bd bf bo bs bz bC bK bZ b2 b6 b9 cd cg ch cl cm cn co cA cB cE cF cG cH cK cL cP cQ cR cS cT cU cV cW cY cZ c4 c5 c6 c7 c8 c9 da db dc de df dg dh di dj dk dl dm dn dp dq dr ds dt du dv dw dy dz dA dB dC dD dE dF dG dH dI dJ dK dM dN dO dR dS dV dW dX dY dZ d0 d1 d2 d3 d4 d5 d6 d7 d8 d9 ea eb ec ed ee eg eh ei ej ek el em en eo ep eq er es et ev ew ex ey ez eA eB eC eD eE eF eG eH eI eJ eL eN eO eP eQ eR eS eT eU bW:Value),g8 p bj B bQ bT d ps V T ls N S L aE bc QA b8 qc br av bi a7 bH on bB w/\a=⟨#[.pointer (some ⟨p.wb,0,none⟩),bQ,.slice av bi a7,.int .i64 (d:Int),bT,gO,.pointer (some ⟨bj,0,none⟩),o,u8,gQ,eX,.slice bH on bB,.int .i64 N,.pointer (some ⟨S.heap.size,0,none⟩),bW,bw,u16,cM,gz,eY,eZ,e3,e4,e5,e6,e7,e8,e9,fa,fb,fd,fe,u32,ff,fi,fj,fl,fo,fp,fq,fr,fs,ft,fu,fv,fw,fx,fy,fz,fA,fB,fC,fE,fF,fG,fH,fI,fJ,fK,fL,fM,fN,fP,fQ,u64,fR,fS,fT,fU,fV,fW,fX,fY,fZ,f3,f4,f5,f6,f7,f8,f9,ga,gb,gd,ge,gf,gg,gh,gi,gj,gk,gl,gm,go,gp,gq,gs,gt,gu,gv,H,I,am,aJ,aK,aL,aO,aZ,a8,bb,bd,bf,bo,bs,bz,bC,bK,bZ,b2,b6,b9,cd,cg,ch,cl,cm,cn,co,cA,cB,cE,cF,cG,cH,cK,cL,cP,cQ,cR,cS,cT,cU,cV,cW,cY,cZ,c4,c5,c6,c7,c8,c9,da,db,dc,de,df,dg,dh,di,dj,dk,dl,dm,dn,dp,dq,dr,ds,dt,du,dv,dw,dy,dz,dA,dB,dC,dD,dE,dF,dG,dH,dI,dJ,dK,dM,dN,dO,dR,dS,dV,dW,dX,dY,dZ,d0,d1,d2,d3,d4,d5,d6,d7,d8,d9,ea,eb,ec,ed,ee,eg,eh,ei,ej,ek,el,em,en,eo,ep,eq,er,es,et,ev,ew,ex,ey,ez,eA,eB,eC,eD,eE,eF,eG,eH,eI,eJ,eL,eN,eO,eP,eQ,eR,eS,eT,eU],[]⟩
theorem g8.simple(p:kz)(bj B:Nat)(bQ bT:Value)(d:Nat)(ps:List (ByteArray×Bool))(V T:Ml)(ls:List az)(N:Int)(L:Nat)(aE:World)(bc:ByteArray)(QA:Mk)(b8 qc:Nat)(br:Value){aV:Ml}{av:Mk}{bH:Mk}{bB cu:Nat}(h0:gH S p cu)(cO:p.wb<bj)(bO:bj<B)(hG:lL B 9 1 188 11 S av bi a7 (aV.map D.s) bH on bB (ls.map bg))
  (hV:aV ⊆ V++decls ls) (cb:aV.length+L+1<=60) (b7:on<=10000) (aS:B<=S.heap.size) {X:World} {a6:Nat} {st:az} {cs:List Value} (hC:oX p S X a6) (cm:ao X S.heap.size 188 cs.toArray) (a9:(bg st).rep X (fresh S X) cs)
  (aU:GJ (p.env ps) d (V++decls ls) (T++decls ls) st) (y:∀n∈st.all,∃k,a6<=k/\k<L+1/\n=hE k) (K:st.num<=2*(L+1 - a6)) (hle:a6<=L) (a:Fr p.MW aE S) (c:ao S bj 137 #[.string bc,.slice QA b8 qc,br]):g8 p bj B bQ bT d ps V T ls N S L aE bc QA b8 qc br av bi a7 bH on bB X:=by
 have bl:=h0.ne;refine⟨aV,[],st,a6,cs,⟨hC.src,hC.blk,a.trans hC.fr,hC.le⟩,c.on hC.fr (λh=>by rcases h with h|h<;>omega),?_,cm,?_,?_,?_,?_,hle,?_,ad,ad⟩
 .rw[L6];exact hG.cS hC.fr λb O _=>by rcases O with O|O<;>omega
 .exact D.aK (λb O=>⟨⟨by have:=O.1;omega,λh=>by have:=(hG.one.lt h).2;have:=O.1;omega⟩,O.2,λh=>by have:=(hG.two.lt h).2;have:=O.1;omega⟩) _ _ a9
 .exact tK.2 aU
 .rw[L8,all_cons];intro n hn;rcases LL.1 hn with hn|hn
  .exact y n hn
  .simp[al.eT,al.all] at hn
 .rw[L8,tp];exact K
 .intro x hx;have:=hV hx;exact Ap
theorem EU{f:aG}{cs:List Value}(h:(dy f).rep w P cs):∃(A:Mk) (n c:Nat) (A2:Mk) (n2 c2:Nat),cs=[.string f.name,.slice A n c,.slice A2 n2 c2]/\n<=c/\Sl w P A n (f.params.map cz):=by
 unfold dy at h;rw[bJ,ct] at h;obtain⟨y,rfl,h⟩:=h;obtain⟨A,n,c,cm,rfl,hc,hs,h⟩:=aL.1 h;obtain⟨A2,n2,c2,bv,rfl,cf,bP,h⟩:=aL.1 h;rw[aQ] at h;subst h;exact⟨A,n,c,A2,n2,c2,rfl,hc,hs⟩
theorem o2:cm prog 135 188 (.agg #[.int .i64 0,.string ⟨#[]⟩,.int .i64 0,.int .i64 0,.string ⟨#[]⟩,.slice none 0 0,.string ⟨#[]⟩,.slice none 0 0,.slice none 0 0,.slice none 0 0,.slice none 0 0]) 11 192:=cm.mk' Tryz.underlying135 (by kernel_rfl) rfl ad
theorem FO{G:Env}{d:Nat}{aV aY T:Ml}{r:eW}{Z:List az}(a9:su G aV r)(hV:aV ⊆ aY)(ac:fk G 0 aV T (.eT Z)):fk G d aY T (.eT ((.lock false r::Z)++[.lock true r])):=by
 rw[LR,nn];refine⟨k6 hV a9,?_⟩;simp only[az.decl,L6];exact tJ.2 ⟨di _ 0 d aV _ _ _ hV (λ_ _ h=>h) (L3 _) ac,tK.2 (k6 (λx hx=>LL.2 (.inl (hV hx))) a9)⟩
theorem bu{P:Program}{ops:Array Oper}{Q:Exit->Act->World->Prop}{R:World->World->Prop}{tails:List Nat}{rest:PT}{a:Act}{W:World}(C:World->Prop)(hC:C W)(h:∀V,C V->cR P ops Q R tails rest a V):cR P ops Q R tails rest a W:=h W hC
structure ri(p:kz)(S wr:World)(L:Nat)(cs:Array Value)(V:World):Prop where
 c:oX p S V L
 s:ao V S.heap.size 188 cs
 f:Fr (λb=>b=p.s\/b=S.heap.size) wr V
theorem ri.aj{p:kz}{S wr V aY:World}{L:Nat}{cs:Array Value}(h:ri p S wr L cs V)(bl:p.s<p.wb)(O:Ext V aY):ri p S wr L cs aY:=⟨h.c.aj bl O,h.s.aj O,h.f.trans (O.mono λ_ h=>h.elim)⟩
theorem ri.call{wr V aY:World}{cs:Array Value}(h:ri p S wr L cs V)(bl:p.s<p.wb)(b2:p.s<S.heap.size)(hs:cp aY p.s p.A p.n p.c p.l)(O:Fr (λb=>b=p.s) V aY):ri p S wr L cs aY:=⟨h.c.next bl hs O,h.s.on O ad,h.f.trans (O.mono λ_ h=>.inl h)⟩
theorem ri.aJ{p:kz}{S wr V:World}{L cu:Nat}{cs:Array Value}(h:ri p S wr L cs V)(h0:gH S p cu)(i:Nat)(v:Value):ri p S wr L (cs.setIfInBounds i v) (V.setCell ⟨S.heap.size,i,none⟩ v):=
 ⟨h.c.fresh (M:=λb=>b=S.heap.size) h0 ((Fr.refl (λb=>b=S.heap.size) V).setCell (.inl rfl) _) (λb O=>ad),h.s.aJ i v,h.f.setCell (.inl (.inr rfl)) _⟩
theorem mM(V:World)(g:Nat)(v1 v2:Int)(h0:V.cell? ⟨g,0,none⟩=some (.int .u8 v1))(ac:V.cell? ⟨g,1,none⟩=some (.int .u8 v2)) :
  (convert 78 9 (.slice (some ⟨g,0,none⟩) 2 2)).run prog V=.ok (.string (strOf [byteOf v1,byteOf v2])) V:=by
 have:=run_convert_bytes_arg (P:=prog) V 78 5 Tryz.underlying78 Tryz.underlying5 g 0 2 2 [v1,v2] rfl (λi al=>by
  obtain rfl|rfl:i=0\/i=1:=ad
  .exact h0
  .exact ac) 9 Tryz.underlying9
 rw[this];rfl
theorem vr{r t:Int}(bw:L<=24)(ac:IntKind.u8.wrap (IntKind.i64.wrap (97+(L:Int)))=r)(ax:IntKind.u8.wrap (IntKind.i64.wrap (97+Int.tmod (IntKind.i64.wrap 0) 26))=t):(⟨#[118]⟩++strOf [byteOf r,byteOf t]:ByteArray)=hE L:=by
 subst ac ax;have h:∀k:Fin 25,(⟨#[118]⟩++strOf [byteOf (IntKind.u8.wrap (IntKind.i64.wrap (97+((k.val:Nat):Int)))),byteOf (IntKind.u8.wrap (IntKind.i64.wrap (97+Int.tmod (IntKind.i64.wrap 0) 26)))]:ByteArray)=hE k.val:=by decide
 exact h ⟨L,ad⟩
theorem vk{w:World}{P Q:Nat->Prop}:∀{l:Ml} {xs:List Value},D.aO w P (l.map D.s) xs->D.aO w Q (l.map D.s) xs
 | [],xs,h=>by simpa only[L4,D.aO] using h
 | e::l,xs,h=>by
  rw[LI] at h ⊢;obtain⟨y,rfl,bb⟩:=ct.1 h;exact ct.2 ⟨y,rfl,vk bb⟩
theorem Gr.strs{Q:Nat->Prop}{e:TypeId}{A:Mk}{n c:Nat}{l:Ml}(h:Gr P B e 1 w A n c (l.map D.s)):Gr Q B e 1 w A n c (l.map D.s):=by
 obtain⟨hl,xs,ac,ax⟩:=h;exact⟨hl,xs,ac,vk ax⟩
theorem wv(s:az):(bg s).sz=11:=by
 cases s<;>simp[bg,gP,D.sz,D.zy,db,jX,gj,kL]
theorem mz:jX.rep w P [.int .i64 0,.int .i64 0,.string ⟨#[]⟩,.slice none 0 0]:=fv.2 ⟨none,0,rfl⟩
theorem kZ:gj.rep w P [.string ⟨#[]⟩,.slice none 0 0]:=by
 exact zY
theorem eG{k:Int}{nm:ByteArray}{e r:D}{aT th el:List D}{e0 e1 e2 e3 bp r1:Value}{cp A2 cD:Mk}{n1 n2 n3 c1 c2 c3:Nat}(he:e.rep w P [e0,e1,e2,e3])(a9:r.rep w P [bp,r1])(ac:Sl w P cp n1 aT)(ch:n1<=c1)(ax:Sl w P A2 n2 th)(c0:n2<=c2)(a1:Sl w P cD n3 el)(a:n3<=c3):
  (gP k nm e r aT th el).rep w P [.int .i64 k,.string nm,e0,e1,e2,e3,bp,r1,.slice cp n1 c1,.slice A2 n2 c2,.slice cD n3 c3]:=by
 unfold gP;rw[bJ];exact bf.2 ⟨_,rfl,ct.2 ⟨_,rfl,g0.2 ⟨[e0,e1,e2,e3],_,rfl,he,g0.2 ⟨[bp,r1],_,rfl,a9,aL.2 ⟨cp,n1,c1,_,rfl,ch,ac,aL.2 ⟨A2,n2,c2,_,rfl,c0,ax,aL.2 ⟨cD,n3,c3,[],rfl,a,a1,aQ.2 rfl⟩⟩⟩⟩⟩⟩⟩
theorem lL.names{av:Mk}{aV:Ml}{bH:Mk}{bB:Nat}{l:List D}{e1 e2:TypeId}{cy:Nat}(h:lL B e1 1 e2 cy w av bi a7 (aV.map D.s) bH on bB l)(hM:∀b,M b->b<B):Sl w (off M w) av bi (aV.map D.s):=
 h.one.sl (λb O hp=>⟨O,λhm=>by have:=hM b hm;have:=hp.1;omega⟩) (λb O hp=>⟨O,λhm=>by have:=hM b hm;omega⟩)
def SK(k:Int)(d bi:Nat):Prop:=∀(p:kz) (bj B:Nat) (bQ bT:Value) (ps:List (ByteArray×Bool)) (V T:Ml) (ls:List az) (N:Int) (S:World) (L:Nat) (aE:World) (bc:ByteArray) (QA:Mk) (b8 qc:Nat) (br:Value) (aV:Ml) (av:Mk) (a7:Nat) (bH:Mk) (on bB:Nat) (cu:Nat) (cO:p.wb<bj) (bO:bj<B) (aS:B<=S.heap.size) (bv:b8<=2) (wr:World) (bl:p.s<p.wb) (cj:p.s<S.heap.size) (ca:p.wb<S.heap.size) (b5:aV.length=bi) (ns:S.heap.size<=wr.heap.size) (a3:Mm (gH S p cu/\ao S bj 137 #[.string bc,.slice QA b8 qc,br]/\Sl S (off p.MW S) QA b8 (ps.map cz)/\lL B 9 1 188 11 S av bi a7 (aV.map D.s) bH on bB (ls.map bg)/\Sl S (off p.MW S) av bi (aV.map D.s)/\∀b,p.MW b->b<B)) (bW:Mm (oX p S wr L/\ao wr bj 137 #[.string bc,.slice QA b8 qc,br]/\ao wr S.heap.size 188 #[.int .i64 5,.string ⟨#[]⟩,.int .i64 0,.int .i64 0,.string ⟨#[]⟩,.slice none 0 0,.string ⟨#[]⟩,.slice none 0 0,.slice none 0 0,.slice none 0 0,.slice none 0 0])) (cb:aV.length+L+1<=60) (b7:on<=10000) (be:d<=2) (cc:Mm (aV ⊆ V++decls ls/\mG (T++decls ls) (L+1)/\∀R,R<=L->IK p R)) (aH:Nat) (aF:Mm (gH aE p aH/\Sl aE (off p.MW aE) QA b8 (ps.map cz)/\Fr p.MW aE S)) (b3:aE.heap.size<=bj)
  (Q:Exit->Act->World->Prop) (hQ0:∀c a d v w,Q (.panic c) (a.put d v) w->Q (.panic c) a w) (hN:∀a w,l1 p bj B bQ bT d ps V T ls N S L aE bc QA b8 qc br a w->Q .normal a w) (K:Act->World->Prop) (hK:∀a w,Code.wp prog Iz Q a w->K a w)
  {gO o u8 gQ eX bw u16 cM gz eY eZ e3 e4 e5 e6 e7 e8 e9 fa fb fd fe u32 ff fi fj fl fo fp fq fr fs ft fu fv fw fx fy fz fA fB fC fE fF fG fH fI fJ fK fL fM fN fP fQ u64 fR fS fT fU fV fW fX fY fZ f3 f4 f5 f6 f7 f8 f9 ga gb gd ge gf gg gh gi gj gk gl gm go gp gq gs gt gu gv H I am aJ aK aL aO aZ a8 bb bd bf bo bs bz bC bK bZ b2 b6 b9 cd cg ch cl cm cn co cA cB cE cF cG cH cK cL cP cQ cR cS cT cU cV cW cY cZ c4 c5 c6 c7 c8 c9 da db dc de df dg dh di dj dk dl dm dn dp dq dr ds dt du dv dw dy dz dA dB dC dD dE dF dG dH dI dJ dK dM dN dO dR dS dV dW dX dY dZ d0 d1 d2 d3 d4 d5 d6 d7 d8 d9 ea eb ec ed ee eg eh ei ej ek el em en eo ep eq er es et ev ew ex ey ez eA eB eC eD eE eF eG eH eI eJ eL eN eO eP eQ eR eS eT eU:Value},
  Code.wp prog Iw (Exit.then K Q) ⟨#[.pointer (some ⟨p.wb,0,none⟩),bQ,.slice av bi a7,.int .i64 (d:Int),bT,gO,.pointer (some ⟨bj,0,none⟩),o,u8,gQ,eX,.slice bH on bB,.int .i64 N,.pointer (some ⟨S.heap.size,0,none⟩),(.int .i64 k),bw,u16,cM,gz,eY,eZ,e3,e4,e5,e6,e7,e8,e9,fa,fb,fd,fe,u32,ff,fi,fj,fl,fo,fp,fq,fr,fs,ft,fu,fv,fw,fx,fy,fz,fA,fB,fC,fE,fF,fG,fH,fI,fJ,fK,fL,fM,fN,fP,fQ,u64,fR,fS,fT,fU,fV,fW,fX,fY,fZ,f3,f4,f5,f6,f7,f8,f9,ga,gb,gd,ge,gf,gg,gh,gi,gj,gk,gl,gm,go,gp,gq,gs,gt,gu,gv,H,I,am,aJ,aK,aL,aO,aZ,a8,bb,bd,bf,bo,bs,bz,bC,bK,bZ,b2,b6,b9,cd,cg,ch,cl,cm,cn,co,cA,cB,cE,cF,cG,cH,cK,cL,cP,cQ,cR,cS,cT,cU,cV,cW,cY,cZ,c4,c5,c6,c7,c8,c9,da,db,dc,de,df,dg,dh,di,dj,dk,dl,dm,dn,dp,dq,dr,ds,dt,du,dv,dw,dy,dz,dA,dB,dC,dD,dE,dF,dG,dH,dI,dJ,dK,dM,dN,dO,dR,dS,dV,dW,dX,dY,dZ,d0,d1,d2,d3,d4,d5,d6,d7,d8,d9,ea,eb,ec,ed,ee,eg,eh,ei,ej,ek,el,em,en,eo,ep,eq,er,es,et,ev,ew,ex,ey,ez,eA,eB,eC,eD,eE,eF,eG,eH,eI,eJ,eL,eN,eO,eP,eQ,eR,eS,eT,eU],[]⟩ wr
namespace CU
theorem pO{p:Prop}(h:p:=by
 exact g8.simple (st:=.lock bb r) ⟨s,wb,sA,bK,bw,sl,GA,gn,gc,MA,mn,mc,FA,fn,fc,M,F,ar⟩ bj B bQ bT d ps V T ls N L aE bc QA b8 qc br a3.1 cO bO a3.2.2.2.1 cc.1 cb b7 aS (al.fresh a3.1 J λb O=>ad) bs
  (eG mz (jH.2 ⟨IA,i,ic,rfl,aL,(R.ak λb O=>J.block b O.2 (aB O.1)).mono λb O=>⟨by have:=O.1;omega,by have:=O.2;omega⟩⟩) (Sl.bT _) (Lz _) (Sl.bT _) (Lz _) (Sl.bT _) (Lz _)) (k6 cc.1 (aU _)) (λn hn=>by simp[az.all] at hn) (by simp only[az.num];omega) (Lz _) aF.2.2 a3.2.1
 ):p:=h
theorem l5{p:Prop}(h:p:=by
 first
  | have cU:decide (k<4)=true:=by simpa using aj.2
  | have cU:decide (k<4)=false:=by simpa using aj.2.1
    have cy:decide (k<7)=true:=by simpa using aj.2.2
 have aN:=ae aj.1;clear aj;go_wp2_with(fail);refine(rb ⟨s,wb,sA,bK,bw,sl,GA,gn,gc,MA,mn,mc,FA,fn,fc,M,F,ar⟩ L aV av bi a7 bc ps QA b8 qc br wr (bW.1.wr a3.1) ((Sl.cS a3.2.2.2.2.1 bW.1.fr).mono λb O=>⟨O.1,λh=>O.2 (.inl h)⟩) ad ((Sl.cS a3.2.2.1 bW.1.fr).mono λb O=>⟨O.1,λh=>O.2 (.inl h)⟩) bv).mono ?_;rintro e aW ⟨r,IA,i,ic,rfl,aU,aL,R,aw,ai⟩;simp only at aU aw ai;have l:=bW.2.2.on ai ad;have a2:=dI (bW.1.next bl aw ai) l aU aL R ai.size;clear a0 ak af a8 am aJ d0 aK aO aU aL R aw ai;obtain⟨d0,aK,aO⟩:=l.two;clear l;go_wp2_with(fail);generalize hX:World.setCell _ _ _=X;have J:Fr (λb=>b=S.heap.size) aW X:=by rw[<-hX];first|exact((Fr.refl (λb=>b=S.heap.size) aW).setCell (.inl rfl) _).setCell (.inl rfl) _|exact(((Fr.refl (λb=>b=S.heap.size) aW).setCell (.inl rfl) _).setCell (.inl rfl) _).setCell (.inl rfl) _
 have bs:ao X S.heap.size 188 #[.int .i64 (if bb then 6 else 5),.string ⟨#[]⟩,.int .i64 0,.int .i64 0,.string ⟨#[]⟩,.slice none 0 0,.string r.name,.slice IA i ic,.slice none 0 0,.slice none 0 0,.slice none 0 0]:=by rw[<-hX,aN.o];first|exact(a2.2.1.aJ 6 _).aJ 7 _|exact((a2.2.1.aJ 0 _).aJ 6 _).aJ 7 _
 clear hX d0 aK aO;obtain⟨al,_,aU,aL,R,bP⟩:=a2.o;have bR:=J.size;have bd:=bW.2.2.lt;exact pN
 ):p:=h
end CU
open CU in
theorem Fa(bb:Bool)(k:Int)(d bi:Nat)(h:(bb=false/\k<4)\/bb=true/\¬k<4/\k<7):SK k d bi:=by
 rcases h with aj|aj
 all_goals
  exact l4
namespace CV
theorem fO{p:Prop}(h:p:=by
 refine ck ?_;generalize hX:World.setCell _ _ _=X;have J:=cJ hX;have bC:ao X S.heap.size 188 #[.int .i64 1,.string (hE L),.int .i64 z.a2,.int .i64 z.numOf,.string z.bt,.slice bX b6 zc,.string ⟨#[]⟩,.slice none 0 0,.slice none 0 0,.slice none 0 0,.slice none 0 0]:=by
  have ac:=aj.s.aJ 1 (.string (⟨#[118]⟩++strOf [byteOf r,byteOf t]));rw[vr ad aI.1 aI.2] at ac;rw[<-hX]
  try rw[vr ad aI.1 aI.2]
  exact ac
 have H:=aj.c.fresh a3.1 J λb O=>ad;have bz:Sl X (λb=>S.heap.size<b/\b<X.heap.size) bX b6 (z.args.map bk):=(cR.ak λb O=>J.block b O.2 (aB O.1)).mono λb O=>⟨O.1,LC O.2 J.size⟩
 have j:∀b,(Value.slice av bi a7).ownBlock=some b->B<=b/\b<S.heap.size:=λb O=>a3.2.2.2.1.one.lt O;have ba:Gr (λ_=>False) B 9 1 X av bi a7 (aV.map D.s):=((Gr.strs (Q:=λ_=>False) a3.2.2.2.1.one).cS aj.c.fr λb O hl=>⟨λh=>h,a3.2.2.2.2.2 b O⟩).dh J.size λb ap hp=>J.block b ap (hp.elim (λh=>h.elim) λhp=>by have:=j b hp;omega);have aR:=hj bC H bz ba aG bM J.size;have cz:=ae j;have cH:S.heap.size<X.heap.size:=bC.lt;have ci:B<=X.heap.size:=ad;clear hX J bC H bz ba j aG bM aj cR d0 aK aO;obtain⟨d0,aK,aO⟩:=aR.1.two;go_wp2_with(at_builtin;refine bI kE rfl (.tmp 114) (.tmp 117) rfl aR.2.2.2.1 (uX.2 rfl) rfl rfl rfl ad ad ci ?_;intro dJ cs cA an ay b1 cf;have ds:=aA an ay b1;clear an ay b1 cf);obtain⟨bt,bo,bE⟩:=ds.o;obtain⟨bC,H,bz,ba,aG,bM,cF⟩:=aR.o;have j:=cz.o;have m:∀b,(Value.slice bH on bB).ownBlock=some b->B<=b/\b<S.heap.size:=λb O=>a3.2.2.2.1.two.lt O;have au:=a3.2.2.2.1.ne;have aC:∀b,(Value.slice dJ (bi+1) cs).ownBlock=some b->(b<S.heap.size/\(Value.slice av bi a7).ownBlock=some b)\/X.heap.size<=b:=λb O=>(bE b O).imp (λh=>⟨(j b h).2,h⟩) id;have aT:¬(Value.slice av bi a7).ownBlock=some S.heap.size:=λh=>by have:=(j _ h).2;omega
 have cD:=bo.size;have b0:L<=24:=H.le
 try refine hN _ _ ?_
 unfold l1;refine⟨dJ,bi+1,cs,bH,on,bB,?_⟩
 iterate 240 apply Exists.intro
 refine⟨?_,rfl⟩;refine⟨aV++[hE L],[],.set true (hE L) z,L,_,(oX.mk H.src H.blk (aF.2.2.trans H.fr) H.le).fresh aF.1 bo (λb O=>by have:=(j b O).1;omega),(a3.2.1.on H.fr (λh=>by rcases h with h|h<;>(simp only at h;omega))).on bo (λh=>by have:=(j _ h).1;omega),⟨?_,?_,λb O h=>?_⟩,bC.on bo aT,?_,?_,?_,?_,Lz _,?_,by simp;omega,ad⟩
 .rw[LJ,LI,L4];have:=Gr.strs (l:=aV++[hE L]) (Q:=λb=>B<=b/\(Value.slice bH on bB).ownBlock≠some b) (by rw[LJ,LI,L4];exact bt)
  rwa [LJ,LI,L4] at this
 .rw[L6];have ac:Gr (λb=>(B<=b/\(Value.slice av bi a7).ownBlock≠some b)/\b<S.heap.size) B 188 11 S bH on bB (ls.map bg):=a3.2.2.2.1.two.mono λb O hp=>⟨hp,O⟩
  have ax:=ac.cS H.fr λb O hl=>⟨λh=>by have:=a3.2.2.2.2.2 b O;have:=h.1.1;omega,a3.2.2.2.2.2 b O⟩
  have a1:=ax.dh bo.size λb ap hp=>bo.block b ap (λbG=>hp.elim (λh=>h.1.2 bG) (λh=>au b bG h));exact a1.mono λb _ hp=>⟨hp.1.1,λh=>by
   rcases aC b h with aU|aU
   .exact hp.1.2 aU.2
   .have:=hp.2;omega⟩
 .rcases aC b O with aU|aU
  .exact au b aU.2 h
  .have:=(m b h).2;omega
 .refine eG (aX.2 ⟨bX,b6,zc,rfl,bM,?_⟩) kZ (Sl.bT _) (Lz _) (Sl.bT _) (Lz _) (Sl.bT _) (Lz _);refine(bz.ak λb O=>bo.block b O.2 λh=>by have:=(j b h).2;have:=O.1;omega).mono λb O=>⟨⟨by have:=O.1;omega,λh=>?_⟩,by have:=O.2;omega,λh=>by have:=(m b h).2;have:=O.1;omega⟩
  have ac:=O.1;have ax:=O.2;rcases aC b h with aU|aU<;>omega
 .exact tK.2 ⟨Fh ad,cc.2.1 L ad,dN cc.1 2 z aG⟩
 .intro n hn;rw[L8,all_cons] at hn;simp only[az.all,al.eT,al.all,L6,Ma] at hn;exact⟨L,Lz _,ad,hn⟩
 .rw[L8,tp];simp only[az.num];omega
 .intro y bb;rw[L8,rO,<-List.append_assoc];rcases LL.1 bb with bb|bb
  .exact LL.2 (.inl (cc.1 bb))
  .simp only[Ma] at bb;subst bb;exact LL.2 (.inr (by simp[decls,az.decl]))
 ):p:=h
theorem l5{p:Prop}(h:p:=by
 have cw:L<=24:=bW.1.le;have cy:¬(wb=s\/wb=S.heap.size):=ad;have cB:S.heap.size<wr.heap.size:=bW.2.2.lt;have bU:Int.tmod (L:Int) 26=(L:Int):=Int.tmod_eq_of_lt ad ad;have ct:Int.tdiv (L:Int) 26=0:=Int.tdiv_eq_zero_of_lt ad ad;go_upto_region 19 with(fail);refine tw (λb=>b=s\/b=S.heap.size) [26] (.free 0 (.free 1 (.free 3 (.free 4 (.free 5 (.held 6 (.free 7 (.free 8 (.free 9 (.free 10 (.free 11 (.free 12 (.held 13 (.free 14 (.free 15 (.free 16 (.free 17 (.free 21 (.pick [2,18] (λi=>bif i == 2 then .pick [18,22] (λi=>bif i == 18 then .held 19 (.free 20 (.pick [22] (λ_=>.free 23 (.pick [24] (λ_=>.free 25 (.pick [26] (λ_=>.stop))))))) else .free 23 (.pick [18,24] (λi=>bif i == 18 then .held 19 (.free 20 (.pick [24] (λ_=>.free 25 (.pick [26] (λ_=>.stop))))) else .pick [18] (λ_=>.held 19 (.free 20 (.free 25 (.pick [26] (λ_=>.stop)))))))) else .held 19 (.free 20 (.pick [2] (λ_=>.pick [22] (λ_=>.free 23 (.pick [24] (λ_=>.free 25 (.pick [26] (λ_=>.stop)))))))))))))))))))))))))))) ?_
 iterate 5 refine tf ?_
 refine oV ?_
 iterate 6 refine tf ?_
 refine oV ?_
 iterate 5 refine tf ?_
 have U:Mm (ri ⟨s,wb,sA,bK,bw,sl,GA,gn,gc,MA,mn,mc,FA,fn,fc,M,F,ar⟩ S wr L #[.int .i64 5,.string ⟨#[]⟩,.int .i64 0,.int .i64 0,.string ⟨#[]⟩,.slice none 0 0,.string ⟨#[]⟩,.slice none 0 0,.slice none 0 0,.slice none 0 0,.slice none 0 0] wr):=ae ⟨bW.1,bW.2.2,Mg⟩;clear a0 ak af a8 am aJ d0 aK aO;generalize bp:IntKind.u8.wrap (IntKind.i64.wrap (97+(L:Int)))=r;generalize bs:IntKind.u8.wrap (IntKind.i64.wrap (97+Int.tmod (IntKind.i64.wrap 0) 26))=t;have aI:=ah bp bs;clear bp bs;have bD:(strOf [byteOf r,byteOf t]).size=2:=aM _;refine q2 (P:=?pI) (ops:=?IM) (Q:=?IP) (R:=?IQ) (tails:=?IT) (rest:=.free 25 (.pick [26] (λ_=>.stop))) (aa:=?IL)
  (C:=λ(a2:Nat) (Y:Value) fg=>∃(z:VE) (bX:Mk) (b6 zc:Nat),Y=.agg #[.int .i64 z.a2,.int .i64 z.numOf,.string z.bt,.slice bX b6 zc]/\ri ⟨s,wb,sA,bK,bw,sl,GA,gn,gc,MA,mn,mc,FA,fn,fc,M,F,ar⟩ S wr L #[.int .i64 1,.string ⟨#[]⟩,.int .i64 z.a2,.int .i64 z.numOf,.string z.bt,.slice bX b6 zc,.string ⟨#[]⟩,.slice none 0 0,.slice none 0 0,.slice none 0 0,.slice none 0 0] fg/\Sl fg (λb=>S.heap.size<b/\b<fg.heap.size) bX b6 (z.args.map bk)/\z.src aV 2/\b6<=zc) (λkey=>?ze) ?y7
 case ze=>
  refine a5 ?_ ?_
  ·
   refine aD rfl (λK hK=>?_) rfl;go_simp;refine(jW ⟨s,wb,sA,bK,bw,sl,GA,gn,gc,MA,mn,mc,FA,fn,fc,M,F,ar⟩ L aV av bi a7 _ ((U.c.aj bl (Mg.drew)).wr a3.1) ((Sl.cS a3.2.2.2.2.1 (U.c.aj bl (Mg.drew)).fr).mono λb O=>⟨O.1,λh=>O.2 (.inl h)⟩) ad).mono ?_;rintro e v1 ⟨x,cr,cd,cC,rfl,hx,aL,ce,h,he⟩
   try simp only at h he
   have aN:Fr (λb=>b=s) wr v1:=Fr.aF he;have I:=ae (U.call bl cj h aN);have aR:=ah hx aL;have aZ:=ae ((ce.mono λb O=>(⟨by have:=U.s.lt;have:=O.1;have:wr.drew.heap.size=wr.heap.size:=rfl;omega,O.2⟩:S.heap.size<b/\b<v1.heap.size)));refine dP hK (he.mono λ_ h=>.inl h) ?_;clear hK K;clear hx aL ce h he aN;refine a5 ?_ ?_
   ·
    refine eu ?_;refine bu (λV=>Ext v1 V/\ao V v1.heap.size 5 #[.int .u8 r,.int .u8 t]) ⟨Mg.alloc _,Mh⟩ (λv2 hV=>?_);have bd:=ae (I.aj bl hV.1);have aW:=ae hV.2;have cY:S.heap.size<v1.heap.size:=I.s.lt;have b2:=ae ((aZ.ak λb O=>hV.1.block b O.2 λh=>h).mono λb O=>(⟨O.1,LC O.2 hV.1.size⟩:S.heap.size<b/\b<v2.heap.size));clear hV;obtain⟨e0,a6,aQ⟩:=aW.two;refine cx (v:=?_) rfl (by rfl) (λV hV=>?_) ?_;rotate_left
    .have b4:=mM V v1.heap.size r t ((hV.cell aQ ad).trans (e0 0)) ((hV.cell aQ ad).trans (e0 1))
     (go_simp<;>with_reducible rfl)
    try simp only[PU]
    clear e0 a6 aQ;refine tf ?_;refine aq ?_;obtain⟨d0,aK,aO⟩:=bd.s.two;refine aD rfl (λK hK=>?_) rfl;go_simp;refine dP hK (Mg.setCell (.inl (.inr rfl)) _) ?_;clear hK K;refine bu (λV=>ri ⟨s,wb,sA,bK,bw,sl,GA,gn,gc,MA,mn,mc,FA,fn,fc,M,F,ar⟩ S wr L #[.int .i64 1,.string ⟨#[]⟩,.int .i64 0,.int .i64 0,.string ⟨#[]⟩,.slice none 0 0,.string ⟨#[]⟩,.slice none 0 0,.slice none 0 0,.slice none 0 0,.slice none 0 0] V/\Fr (λb=>b=S.heap.size) v2 V) ⟨by exact bd.aJ a3.1 0 _,by exact(Fr.refl (λb=>b=S.heap.size) v2).setCell (.inl rfl) _⟩ (λbx hV=>?_);have bf:=ae hV.1;have b9:=ae ((b2.ak λb O=>hV.2.block b O.2 (aB O.1)).mono λb O=>(⟨O.1,LC O.2 hV.2.size⟩:S.heap.size<b/\b<bx.heap.size));have bY:=ae (aW.on hV.2 ad);clear hV d0 aK aO;refine tf ?_;refine aq ?_;obtain⟨d0,aK,aO⟩:=bf.s.two;refine aD rfl (λK hK=>?_) rfl;go_simp;refine dP hK ((((Mg.setCell (.inl (.inr rfl)) _).setCell (.inl (.inr rfl)) _).setCell (.inl (.inr rfl)) _).setCell (.inl (.inr rfl)) _) ?_;clear hK K;refine bu (λV=>ri ⟨s,wb,sA,bK,bw,sl,GA,gn,gc,MA,mn,mc,FA,fn,fc,M,F,ar⟩ S wr L #[.int .i64 1,.string ⟨#[]⟩,.int .i64 x.a2,.int .i64 x.numOf,.string x.bt,.slice cr cd cC,.string ⟨#[]⟩,.slice none 0 0,.slice none 0 0,.slice none 0 0,.slice none 0 0] V/\Fr (λb=>b=S.heap.size) bx V) ⟨by exact(((bf.aJ a3.1 2 _).aJ a3.1 3 _).aJ a3.1 4 _).aJ a3.1 5 _,by exact((((Fr.refl (λb=>b=S.heap.size) bx).setCell (.inl rfl) _).setCell (.inl rfl) _).setCell (.inl rfl) _).setCell (.inl rfl) _⟩ (λv4 hV=>?_)
    have co:=ae hV.1;have cg:=ae ((b9.ak λb O=>hV.2.block b O.2 (aB O.1)).mono λb O=>(⟨O.1,LC O.2 hV.2.size⟩:S.heap.size<b/\b<v4.heap.size));have cE:=ae (bY.on hV.2 ad);clear hV d0 aK aO;have ag:=And.intro co.o (And.intro cg.o aR.o);have aP:∃(z:VE) (bX:Mk) (b6 zc:Nat),(Value.agg #[.int .i64 x.a2,.int .i64 x.numOf,.string x.bt,.slice cr cd cC])=.agg #[.int .i64 z.a2,.int .i64 z.numOf,.string z.bt,.slice bX b6 zc]/\ri ⟨s,wb,sA,bK,bw,sl,GA,gn,gc,MA,mn,mc,FA,fn,fc,M,F,ar⟩ S wr L #[.int .i64 1,.string ⟨#[]⟩,.int .i64 z.a2,.int .i64 z.numOf,.string z.bt,.slice bX b6 zc,.string ⟨#[]⟩,.slice none 0 0,.slice none 0 0,.slice none 0 0,.slice none 0 0] v4/\Sl v4 (λb=>S.heap.size<b/\b<v4.heap.size) bX b6 (z.args.map bk)/\z.src aV 2/\b6<=zc:=⟨x,cr,cd,cC,rfl,ag⟩
    revert aP;generalize v1.heap.size=a2;exact xJ
   ·
    obtain⟨d0,aK,aO⟩:=I.s.two;refine aD rfl (λK hK=>?_) rfl;go_simp;refine dP hK (Mg.setCell (.inl (.inr rfl)) _) ?_;clear hK K;refine bu (λV=>ri ⟨s,wb,sA,bK,bw,sl,GA,gn,gc,MA,mn,mc,FA,fn,fc,M,F,ar⟩ S wr L #[.int .i64 1,.string ⟨#[]⟩,.int .i64 0,.int .i64 0,.string ⟨#[]⟩,.slice none 0 0,.string ⟨#[]⟩,.slice none 0 0,.slice none 0 0,.slice none 0 0,.slice none 0 0] V/\Fr (λb=>b=S.heap.size) v1 V) ⟨by exact I.aJ a3.1 0 _,by exact(Fr.refl (λb=>b=S.heap.size) v1).setCell (.inl rfl) _⟩ (λbn hV=>?_);have W:=ae hV.1;have a4:=ae ((aZ.ak λb O=>hV.2.block b O.2 (aB O.1)).mono λb O=>(⟨O.1,LC O.2 hV.2.size⟩:S.heap.size<b/\b<bn.heap.size));clear hV d0 aK aO;refine tf ?_;refine a5 ?_ ?_
    ·
     refine eu ?_;refine bu (λV=>Ext bn V/\ao V bn.heap.size 5 #[.int .u8 r,.int .u8 t]) ⟨Mg.alloc _,Mh⟩ (λv6 hV=>?_);have bh:=ae (W.aj bl hV.1);have aY:=ae hV.2;have cY:S.heap.size<bn.heap.size:=W.s.lt;have ch:=ae ((a4.ak λb O=>hV.1.block b O.2 λh=>h).mono λb O=>(⟨O.1,LC O.2 hV.1.size⟩:S.heap.size<b/\b<v6.heap.size));clear hV;obtain⟨e0,a6,aQ⟩:=aY.two;refine cx (v:=?_) rfl (by rfl) (λV hV=>?_) ?_;rotate_left
     .have b4:=mM V bn.heap.size r t ((hV.cell aQ ad).trans (e0 0)) ((hV.cell aQ ad).trans (e0 1))
      (go_simp<;>with_reducible rfl)
     try simp only[PU]
     clear e0 a6 aQ;refine tf ?_;refine aq ?_;obtain⟨d0,aK,aO⟩:=bh.s.two;refine aD rfl (λK hK=>?_) rfl;go_simp;refine dP hK ((((Mg.setCell (.inl (.inr rfl)) _).setCell (.inl (.inr rfl)) _).setCell (.inl (.inr rfl)) _).setCell (.inl (.inr rfl)) _) ?_;clear hK K;refine bu (λV=>ri ⟨s,wb,sA,bK,bw,sl,GA,gn,gc,MA,mn,mc,FA,fn,fc,M,F,ar⟩ S wr L #[.int .i64 1,.string ⟨#[]⟩,.int .i64 x.a2,.int .i64 x.numOf,.string x.bt,.slice cr cd cC,.string ⟨#[]⟩,.slice none 0 0,.slice none 0 0,.slice none 0 0,.slice none 0 0] V/\Fr (λb=>b=S.heap.size) v6 V) ⟨by exact(((bh.aJ a3.1 2 _).aJ a3.1 3 _).aJ a3.1 4 _).aJ a3.1 5 _,by exact((((Fr.refl (λb=>b=S.heap.size) v6).setCell (.inl rfl) _).setCell (.inl rfl) _).setCell (.inl rfl) _).setCell (.inl rfl) _⟩ (λbJ hV=>?_);have cp:=ae hV.1;have cl:=ae ((ch.ak λb O=>hV.2.block b O.2 (aB O.1)).mono λb O=>(⟨O.1,LC O.2 hV.2.size⟩:S.heap.size<b/\b<bJ.heap.size));have cG:=ae (aY.on hV.2 ad);clear hV d0 aK aO;have ag:=And.intro cp.o (And.intro cl.o aR.o)
     have aP:∃(z:VE) (bX:Mk) (b6 zc:Nat),(Value.agg #[.int .i64 x.a2,.int .i64 x.numOf,.string x.bt,.slice cr cd cC])=.agg #[.int .i64 z.a2,.int .i64 z.numOf,.string z.bt,.slice bX b6 zc]/\ri ⟨s,wb,sA,bK,bw,sl,GA,gn,gc,MA,mn,mc,FA,fn,fc,M,F,ar⟩ S wr L #[.int .i64 1,.string ⟨#[]⟩,.int .i64 z.a2,.int .i64 z.numOf,.string z.bt,.slice bX b6 zc,.string ⟨#[]⟩,.slice none 0 0,.slice none 0 0,.slice none 0 0,.slice none 0 0] bJ/\Sl bJ (λb=>S.heap.size<b/\b<bJ.heap.size) bX b6 (z.args.map bk)/\z.src aV 2/\b6<=zc:=⟨x,cr,cd,cC,rfl,ag⟩
     revert aP;generalize bn.heap.size=a2;exact xJ
    ·
     obtain⟨d0,aK,aO⟩:=W.s.two;refine aD rfl (λK hK=>?_) rfl;go_simp;refine dP hK ((((Mg.setCell (.inl (.inr rfl)) _).setCell (.inl (.inr rfl)) _).setCell (.inl (.inr rfl)) _).setCell (.inl (.inr rfl)) _) ?_;clear hK K;refine bu (λV=>ri ⟨s,wb,sA,bK,bw,sl,GA,gn,gc,MA,mn,mc,FA,fn,fc,M,F,ar⟩ S wr L #[.int .i64 1,.string ⟨#[]⟩,.int .i64 x.a2,.int .i64 x.numOf,.string x.bt,.slice cr cd cC,.string ⟨#[]⟩,.slice none 0 0,.slice none 0 0,.slice none 0 0,.slice none 0 0] V/\Fr (λb=>b=S.heap.size) bn V) ⟨by exact(((W.aJ a3.1 2 _).aJ a3.1 3 _).aJ a3.1 4 _).aJ a3.1 5 _,by exact((((Fr.refl (λb=>b=S.heap.size) bn).setCell (.inl rfl) _).setCell (.inl rfl) _).setCell (.inl rfl) _).setCell (.inl rfl) _⟩ (λa9 hV=>?_);have bm:=ae hV.1;have cm:=ae ((a4.ak λb O=>hV.2.block b O.2 (aB O.1)).mono λb O=>(⟨O.1,LC O.2 hV.2.size⟩:S.heap.size<b/\b<a9.heap.size));clear hV d0 aK aO;refine aq ?_;refine eu ?_;refine bu (λV=>Ext a9 V/\ao V a9.heap.size 5 #[.int .u8 r,.int .u8 t]) ⟨Mg.alloc _,Mh⟩ (λbq hV=>?_);have cq:=ae (bm.aj bl hV.1);have bZ:=ae hV.2;have cY:S.heap.size<a9.heap.size:=bm.s.lt;have cn:=ae ((cm.ak λb O=>hV.1.block b O.2 λh=>h).mono λb O=>(⟨O.1,LC O.2 hV.1.size⟩:S.heap.size<b/\b<bq.heap.size));clear hV;obtain⟨e0,a6,aQ⟩:=bZ.two;refine cx (v:=?_) rfl (by rfl) (λV hV=>?_) ?_;rotate_left
     .have b4:=mM V a9.heap.size r t ((hV.cell aQ ad).trans (e0 0)) ((hV.cell aQ ad).trans (e0 1))
      (go_simp<;>with_reducible rfl)
     try simp only[PU]
     clear e0 a6 aQ;refine tf ?_;have ag:=And.intro cq.o (And.intro cn.o aR.o);have aP:∃(z:VE) (bX:Mk) (b6 zc:Nat),(Value.agg #[.int .i64 x.a2,.int .i64 x.numOf,.string x.bt,.slice cr cd cC])=.agg #[.int .i64 z.a2,.int .i64 z.numOf,.string z.bt,.slice bX b6 zc]/\ri ⟨s,wb,sA,bK,bw,sl,GA,gn,gc,MA,mn,mc,FA,fn,fc,M,F,ar⟩ S wr L #[.int .i64 1,.string ⟨#[]⟩,.int .i64 z.a2,.int .i64 z.numOf,.string z.bt,.slice bX b6 zc,.string ⟨#[]⟩,.slice none 0 0,.slice none 0 0,.slice none 0 0,.slice none 0 0] bq/\Sl bq (λb=>S.heap.size<b/\b<bq.heap.size) bX b6 (z.args.map bk)/\z.src aV 2/\b6<=zc:=⟨x,cr,cd,cC,rfl,ag⟩
     revert aP;generalize a9.heap.size=a2;exact xJ
  ·
   refine eu ?_;refine bu (λV=>Ext wr V/\ao V wr.heap.size 5 #[.int .u8 r,.int .u8 t]) ⟨(Mg.alloc _).drew,Mh⟩ (λv10 hV=>?_);have k:=ae (U.aj bl hV.1);have Z:=ae hV.2;have cY:S.heap.size<wr.heap.size:=U.s.lt;clear hV;obtain⟨e0,a6,aQ⟩:=Z.two;refine cx (v:=?_) rfl (by rfl) (λV hV=>?_) ?_;rotate_left
   .have b4:=mM V wr.heap.size r t ((hV.cell aQ ad).trans (e0 0)) ((hV.cell aQ ad).trans (e0 1))
    (go_simp<;>with_reducible rfl)
   try simp only[PU]
   clear e0 a6 aQ;refine tf ?_;refine aq ?_;refine aD rfl (λK hK=>?_) rfl;go_simp;refine(jW ⟨s,wb,sA,bK,bw,sl,GA,gn,gc,MA,mn,mc,FA,fn,fc,M,F,ar⟩ L aV av bi a7 _ ((k.c.aj bl Mg).wr a3.1) ((Sl.cS a3.2.2.2.2.1 (k.c.aj bl Mg).fr).mono λb O=>⟨O.1,λh=>O.2 (.inl h)⟩) ad).mono ?_;rintro e v11 ⟨x,cr,cd,cC,rfl,hx,aL,ce,h,he⟩
   try simp only at h he
   have u:Fr (λb=>b=s) v10 v11:=he;have ab:=ae (k.call bl cj h u);have aR:=ah hx aL;have bL:=ae ((ce.mono λb O=>(⟨by have:=k.s.lt;have:=O.1;omega,O.2⟩:S.heap.size<b/\b<v11.heap.size)));have bA:=ae (Z.on u ad);refine dP hK (he.mono λ_ h=>.inl h) ?_;clear hK K;clear hx aL ce h he u;refine aq ?_;obtain⟨d0,aK,aO⟩:=ab.s.two;refine aD rfl (λK hK=>?_) rfl;go_simp;refine dP hK (Mg.setCell (.inl (.inr rfl)) _) ?_;clear hK K;refine bu (λV=>ri ⟨s,wb,sA,bK,bw,sl,GA,gn,gc,MA,mn,mc,FA,fn,fc,M,F,ar⟩ S wr L #[.int .i64 1,.string ⟨#[]⟩,.int .i64 0,.int .i64 0,.string ⟨#[]⟩,.slice none 0 0,.string ⟨#[]⟩,.slice none 0 0,.slice none 0 0,.slice none 0 0,.slice none 0 0] V/\Fr (λb=>b=S.heap.size) v11 V) ⟨by exact ab.aJ a3.1 0 _,by exact(Fr.refl (λb=>b=S.heap.size) v11).setCell (.inl rfl) _⟩ (λbV hV=>?_);have ai:=ae hV.1;have bP:=ae ((bL.ak λb O=>hV.2.block b O.2 (aB O.1)).mono λb O=>(⟨O.1,LC O.2 hV.2.size⟩:S.heap.size<b/\b<bV.heap.size));have bF:=ae (bA.on hV.2 ad);clear hV d0 aK aO;refine tf ?_;refine aq ?_;obtain⟨d0,aK,aO⟩:=ai.s.two;refine aD rfl (λK hK=>?_) rfl;go_simp;refine dP hK ((((Mg.setCell (.inl (.inr rfl)) _).setCell (.inl (.inr rfl)) _).setCell (.inl (.inr rfl)) _).setCell (.inl (.inr rfl)) _) ?_;clear hK K
   refine bu (λV=>ri ⟨s,wb,sA,bK,bw,sl,GA,gn,gc,MA,mn,mc,FA,fn,fc,M,F,ar⟩ S wr L #[.int .i64 1,.string ⟨#[]⟩,.int .i64 x.a2,.int .i64 x.numOf,.string x.bt,.slice cr cd cC,.string ⟨#[]⟩,.slice none 0 0,.slice none 0 0,.slice none 0 0,.slice none 0 0] V/\Fr (λb=>b=S.heap.size) bV V) ⟨by exact(((ai.aJ a3.1 2 _).aJ a3.1 3 _).aJ a3.1 4 _).aJ a3.1 5 _,by exact((((Fr.refl (λb=>b=S.heap.size) bV).setCell (.inl rfl) _).setCell (.inl rfl) _).setCell (.inl rfl) _).setCell (.inl rfl) _⟩ (λaw hV=>?_);have bS:=ae hV.1;have bR:=ae ((bP.ak λb O=>hV.2.block b O.2 (aB O.1)).mono λb O=>(⟨O.1,LC O.2 hV.2.size⟩:S.heap.size<b/\b<aw.heap.size));have cv:=ae (bF.on hV.2 ad);clear hV d0 aK aO;have ag:=And.intro bS.o (And.intro bR.o aR.o);have aP:∃(z:VE) (bX:Mk) (b6 zc:Nat),(Value.agg #[.int .i64 x.a2,.int .i64 x.numOf,.string x.bt,.slice cr cd cC])=.agg #[.int .i64 z.a2,.int .i64 z.numOf,.string z.bt,.slice bX b6 zc]/\ri ⟨s,wb,sA,bK,bw,sl,GA,gn,gc,MA,mn,mc,FA,fn,fc,M,F,ar⟩ S wr L #[.int .i64 1,.string ⟨#[]⟩,.int .i64 z.a2,.int .i64 z.numOf,.string z.bt,.slice bX b6 zc,.string ⟨#[]⟩,.slice none 0 0,.slice none 0 0,.slice none 0 0,.slice none 0 0] aw/\Sl aw (λb=>S.heap.size<b/\b<aw.heap.size) bX b6 (z.args.map bk)/\z.src aV 2/\b6<=zc:=⟨x,cr,cd,cC,rfl,ag⟩
   revert aP;generalize wr.heap.size=a2;exact xJ
 case y7=>
  rintro a2 Y cI ⟨z,bX,b6,zc,rfl,aj,cR,aG,bM⟩;obtain⟨d0,aK,aO⟩:=aj.s.two;refine tf ?_;exact gr
 ):p:=h
end CV
open CV in
theorem Iy(d bi:Nat):SK 7 d bi:=by
 exact l4
end Go.Proofs.YtflecliffjbleaaGreat

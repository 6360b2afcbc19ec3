/- Part 34 of the proof. No condition of its own. -/
import Derived.Test.YtnhhdaggkiomoaaGreatQ28
import Derived.Test.YtnhhdaggkiomoaaGreatQ33
namespace Go.Proofs.YtnhhdaggkiomoaaGreat
open Go.RowKit Go.Proofs.Tryz
set_option maxRecDepth 1000000
set_option maxHeartbeats 25600000
set_option linter.unusedVariables false
variable{B L b7 ba bi on:Nat}{M P:Nat→Prop}{S ab w:World}{p:kj}
def kY(n:Nat):Code→Option Code
 | .block k c=>if k=n then some c else kY n c
 | .seq a b=>match kY n a with
  | some c=>some c
  | none=>kY n b
 | .loop c=>kY n c
 | .scope c=>kY n c
 | _=>none
noncomputable def w1:Code:=((Tryz.f77.body.bind fP).getD .skip)
noncomputable def Ex:Code:=((kY 2 w1).getD .skip)
noncomputable def HD:Code:=match Ex with
 | .seq a _=>a
 | c=>c
noncomputable def HG:Code:=match Ex with
 | .seq _ b=>b
 | _=>.skip
def kj.env(p:kj)(ps:List (ByteArray×Bool)):Env:=⟨p.M,ps,p.F.map fun f=>(f.name,f.params)⟩
structure oA(p:kj)(S w:World)(L:Nat):Prop where
 src:cm w p.s p.A p.n p.c p.l
 blk:aq w p.wb 134 #[.pointer (some ⟨p.s,0,none⟩),.slice p.GA p.gn p.gc,.slice p.MA p.mn p.mc,.slice p.FA p.fn p.fc,.int .i64 L,.bool p.ar]
 fr:Fr p.MW S w
 le:L≤24
theorem oA.wr{cB:Nat}(h0:gw S p cB)(h:oA p S w L):gw w p L:=
 ⟨h.src,h.blk,h0.ne,Sl.c4 h0.ms h.fr,Sl.c4 h0.fs h.fr,h0.nm,h0.nf,h0.gp,h0.jy,h.le⟩
theorem oA.next(h:oA p S w L)(bf:p.s<p.wb)(hs:cm ab p.s p.A p.n p.c p.l)(O:Fr (fun b=>b=p.s) w ab):oA p S ab L:=
 ⟨hs,h.blk.on O ad,h.fr.trans (O.mono fun _ h=>.inl h),h.le⟩
theorem oA.ai(h:oA p S w L)(bf:p.s<p.wb)(O:Ext w ab):oA p S ab L:=h.next bf (h.src.cQ O fun _ _ h=>h) (O.mono fun _ h=>h.elim)
theorem oA.fresh{cB:Nat}(h:oA p S w L)(h0:gw S p cB)(O:Fr M w ab)(hM:∀b,M b→S.heap.size≤b):oA p S ab L:=by
 have ac:=h0.src.lt;have av:=h0.blk.lt;exact⟨h.src.cQ O fun b bU hm=>by have:=hM b hm;omega,h.blk.on O fun hm=>by have:=hM _ hm;omega,h.fr.eN (O.below h.fr.size fun k ap hm=>by have:=hM k hm;omega),h.le⟩
theorem oA.Ht{R:Nat}(h:oA p S w L)(hw:gw ab p R)(O:Fr p.MW w ab):oA p S ab R:=⟨hw.src,hw.blk,h.fr.trans O,hw.kB⟩
def FZ(p:kj)(d:Nat)(V T:Lt)(ps:List (ByteArray×Bool))(L:Nat)(w:World)(e:Ending)(ab:World):Prop:=
 ∃(ls:List aA) (R:Nat) (bq:Ls) (on b7:Nat),e=.returned (.slice bq on b7)∧Made (p.env ps) d V T L R ls∧on≤b7∧Sl ab (fresh w ab) bq on (ls.map bg)∧gw ab p R∧Fr p.MW w ab
def HS(p:kj)(L:Nat):Prop:=∀(d f:Nat) (V T:Lt) (N:Ls) (bc aa:Nat) (aZ:ByteArray) (ps:List (ByteArray×Bool)) (QA:Ls) (cq qc:Nat) (bx:Value) (w:World),d≤2→f≤6→gw w p L→Sl w (off p.MW w) N bc (V.map D.s)→V.length+L≤60→mg T L→
 Sl w (off p.MW w) QA cq (ps.map ds)→cq≤2→Calls prog 77 #[.pointer (some ⟨p.wb,0,none⟩),.agg #[.string aZ,.slice QA cq qc,bx],.slice N bc aa,.int .i64 (d:Int),.int .i64 (f:Int)] w (FZ p d V T ps L w)
def gY(p:kj)(ck B:Nat)(bP bv:Value)(d:Nat)(ps:List (ByteArray×Bool))(V T:Lt)(ls:List aA)(N:Int)(S:World)(L:Nat)(aw:World)(aZ:ByteArray)(QA:Ls)(cq qc:Nat)(bx:Value)(au:Ls)(bi ba:Nat)(bq:Ls)(on b7:Nat)(w:World):Prop:=∃(aI:Lt) (m:List aA) (st:aA) (a6:Nat) (cs:List Value),
 oA p aw w a6∧aq w ck 143 #[.string aZ,.slice QA cq qc,bx]∧ld B 9 1 180 11 w au bi ba (aI.map D.s) bq on b7 ((ls++m).map bg)∧aq w S.heap.size 180 cs.toArray∧(bg st).rep w (lv (fun b=>B≤b∧(Value.slice au bi ba).ownBlock≠some b) w (.slice bq on b7)) cs∧
 e4 (p.env ps) d (V++decls ls) (T++decls ls) (.eM (m++[st]))∧(∀n∈(an.eM (m++[st])).all,∃k,a6≤k∧k<L+1∧n=hg k)∧(an.eM (m++[st])).num≤2*(L+1 - a6)∧a6≤L∧aI ⊆ V++decls (ls++(m++[st]))∧aI.length+a6≤60∧on≤12000
def lF(p:kj)(ck B:Nat)(bP bv:Value)(d:Nat)(ps:List (ByteArray×Bool))(V T:Lt)(ls:List aA)(N:Int)(S:World)(L:Nat)(aw:World)(aZ:ByteArray)(QA:Ls)(cq qc:Nat)(bx:Value)(a:Act)(w:World):Prop:=∃(au:Ls) (bi ba:Nat) (bq:Ls) (on b7:Nat) (gK z u8 gL eO bS u16 gq gr eR eS eT eU eV eW eY eZ e3 e6 e7 e8 e9 u32 fa fb fd fe ff fh fi fk fl fm fo fp fq fr fs ft fv fw fx fy fz fA fB fC fD fE fF fG fH fI fJ u64 fK fL fM fN fO fP fQ fR fS fT fU fV fW fX fY fZ f3 f4 f5 f6 f7 f8 f9 ga gb gd ge gf gg gh gi gj gk gl gm H I am aF aL aM aN aU a1 a8 bb be bj bo br bt bA bF bG bL bM bW bZ b1 b2 b8 ca cb ce cj cn co cw cy cz cA cD cE cF cG cH cJ cM cO cP cQ cS cT cU cV cW cX cY cZ c4 c5 c6 c7 c8 c9 da db dc dd de df dg dh di dj dk dl dm dn dp dr dt du dv dw dx dy dA dB dD dE dF dG dH dJ dK dM dQ dR dS dT dV dW dX dY dZ d0 d1 d2 d3 d4 d5 d6 d7 d8 d9 ea eb ec ed ee ef eg eh ei ej ek el em en eo ep eq er es et eu ev ew ex ey ez eA eB eC eD eE eF eG eH eI eJ eL eM bR:Value),gY p ck B bP bv d ps V T ls N S L aw aZ QA cq qc bx au bi ba bq on b7 w∧a=⟨#[.pointer (some ⟨p.wb,0,none⟩),bP,.slice au bi ba,.int .i64 (d:Int),bv,gK,.pointer (some ⟨ck,0,none⟩),z,u8,gL,eO,.slice bq on b7,.int .i64 N,.pointer (some ⟨S.heap.size,0,none⟩),bR,bS,u16,gq,gr,eR,eS,eT,eU,eV,eW,eY,eZ,e3,e6,e7,e8,e9,u32,fa,fb,fd,fe,ff,fh,fi,fk,fl,fm,fo,fp,fq,fr,fs,ft,fv,fw,fx,fy,fz,fA,fB,fC,fD,fE,fF,fG,fH,fI,fJ,u64,fK,fL,fM,fN,fO,fP,fQ,fR,fS,fT,fU,fV,fW,fX,fY,fZ,f3,f4,f5,f6,f7,f8,f9,ga,gb,gd,ge,gf,gg,gh,gi,gj,gk,gl,gm,H,I,am,aF,aL,aM,aN,aU,a1,a8,bb,be,bj,bo,br,bt,bA,bF,bG,bL,bM,bW,bZ,b1,b2,b8,ca,cb,ce,cj,cn,co,cw,cy,cz,cA,cD,cE,cF,cG,cH,cJ,cM,cO,cP,cQ,cS,cT,cU,cV,cW,cX,cY,cZ,c4,c5,c6,c7,c8,c9,da,db,dc,dd,de,df,dg,dh,di,dj,dk,dl,dm,dn,dp,dr,dt,du,dv,dw,dx,dy,dA,dB,dD,dE,dF,dG,dH,dJ,dK,dM,dQ,dR,dS,dT,dV,dW,dX,dY,dZ,d0,d1,d2,d3,d4,d5,d6,d7,d8,d9,ea,eb,ec,ed,ee,ef,eg,eh,ei,ej,ek,el,em,en,eo,ep,eq,er,es,et,eu,ev,ew,ex,ey,ez,eA,eB,eC,eD,eE,eF,eG,eH,eI,eJ,eL,eM],[]⟩
theorem gY.simple(p:kj)(ck B:Nat)(bP bv:Value)(d:Nat)(ps:List (ByteArray×Bool))(V T:Lt)(ls:List aA)(N:Int)(L:Nat)(aw:World)(aZ:ByteArray)(QA:Ls)(cq qc:Nat)(bx:Value){aI:Lt}{au:Ls}{bq:Ls}{cB:Nat}(h0:gw S p cB)(bX:p.wb<ck)(eN:ck<B)(hG:ld B 9 1 180 11 S au bi ba (aI.map D.s) bq on b7 (ls.map bg))
  (hV:aI ⊆ V++decls ls) (cg:aI.length+L+1≤60) (bV:on≤10000) (aR:B≤S.heap.size) {X:World} {a6:Nat} {st:aA} {cs:List Value} (hC:oA p S X a6) (co:aq X S.heap.size 180 cs.toArray) (a5:(bg st).rep X (fresh S X) cs)
  (bn:FT (p.env ps) d (V++decls ls) (T++decls ls) st) (y:∀n∈st.all,∃k,a6≤k∧k<L+1∧n=hg k) (K:st.num≤2*(L+1 - a6)) (hle:a6≤L) (a:Fr p.MW aw S) (c:aq S ck 143 #[.string aZ,.slice QA cq qc,bx]):gY p ck B bP bv d ps V T ls N S L aw aZ QA cq qc bx au bi ba bq on b7 X:=by
 have bf:=h0.ne;refine⟨aI,[],st,a6,cs,⟨hC.src,hC.blk,a.trans hC.fr,hC.le⟩,c.on hC.fr (fun h=>by rcases h with h|h<;>omega),?_,co,?_,?_,?_,?_,hle,?_,ad,ad⟩
 ·rw[Lg];exact hG.c4 hC.fr fun b O _=>by rcases O with O|O<;>omega
 ·exact D.aL (fun b O=>⟨⟨by have:=O.1;omega,fun h=>by have:=(hG.one.lt h).2;have:=O.1;omega⟩,O.2,fun h=>by have:=(hG.two.lt h).2;have:=O.1;omega⟩) _ _ a5
 ·exact tj.2 bn
 ·rw[Lh,all_cons];intro n hn;rcases KP.1 hn with hn|hn
  ·exact y n hn
  ·simp[an.eM,an.all] at hn
 ·rw[Lh,sX];exact K
 ·intro x hx;have:=hV hx;exact zN
theorem Ef{f:aK}{cs:List Value}(h:(dr f).rep w P cs):∃(A:Ls) (n c:Nat) (A2:Ls) (n2 c2:Nat),cs=[.string f.name,.slice A n c,.slice A2 n2 c2]∧n≤c∧Sl w P A n (f.params.map ds):=by
 unfold dr at h;rw[bK,cp] at h;obtain⟨y,rfl,h⟩:=h;obtain⟨A,n,c,cG,rfl,hc,hs,h⟩:=aN.1 h;obtain⟨A2,n2,c2,b5,rfl,b9,bO,h⟩:=aN.1 h;rw[aP] at h;subst h;exact⟨A,n,c,A2,n2,c2,rfl,hc,hs⟩
theorem oD:ch prog 141 180 (.agg #[.int .i64 0,.string ⟨#[]⟩,.int .i64 0,.int .i64 0,.string ⟨#[]⟩,.slice none 0 0,.string ⟨#[]⟩,.slice none 0 0,.slice none 0 0,.slice none 0 0,.slice none 0 0]) 11 192:=ch.mk' Tryz.underlying141 (by kernel_rfl) rfl ad
theorem E4{G:Env}{d:Nat}{aI aV T:Lt}{r:eO}{R:List aA}(a5:rX G aI r)(hV:aI ⊆ aV)(ac:e4 G 0 aI T (.eM R)):e4 G d aV T (.eM ((.lock false r::R)++[.lock true r])):=by
 rw[KV,mY];refine⟨kK hV a5,?_⟩;simp only[aA.decl,Lg];exact ti.2 ⟨dd _ 0 d aI _ _ _ hV (fun _ _ h=>h) (Ld _) ac,tj.2 (kK (fun x hx=>KP.2 (.inl (hV hx))) a5)⟩
theorem bw{P:Program}{ops:Array Oper}{Q:Exit→Act→World→Prop}{R:World→World→Prop}{tails:List Nat}{rest:PT}{a:Act}{W:World}(C:World→Prop)(hC:C W)(h:∀V,C V→cP P ops Q R tails rest a V):cP P ops Q R tails rest a W:=h W hC
structure qP(p:kj)(S wr:World)(L:Nat)(cs:Array Value)(V:World):Prop where
 c:oA p S V L
 s:aq V S.heap.size 180 cs
 f:Fr (fun b=>b=p.s∨b=S.heap.size) wr V
theorem qP.ai{p:kj}{S wr V aV:World}{L:Nat}{cs:Array Value}(h:qP p S wr L cs V)(bf:p.s<p.wb)(O:Ext V aV):qP p S wr L cs aV:=⟨h.c.ai bf O,h.s.ai O,h.f.trans (O.mono fun _ h=>h.elim)⟩
theorem qP.call{wr V aV:World}{cs:Array Value}(h:qP p S wr L cs V)(bf:p.s<p.wb)(b1:p.s<S.heap.size)(hs:cm aV p.s p.A p.n p.c p.l)(O:Fr (fun b=>b=p.s) V aV):qP p S wr L cs aV:=⟨h.c.next bf hs O,h.s.on O ad,h.f.trans (O.mono fun _ h=>.inl h)⟩
theorem qP.aM{p:kj}{S wr V:World}{L cB:Nat}{cs:Array Value}(h:qP p S wr L cs V)(h0:gw S p cB)(i:Nat)(v:Value):qP p S wr L (cs.setIfInBounds i v) (V.setCell ⟨S.heap.size,i,none⟩ v):=
 ⟨h.c.fresh (M:=fun b=>b=S.heap.size) h0 ((Fr.refl (fun b=>b=S.heap.size) V).setCell (.inl rfl) _) (fun b O=>ad),h.s.aM i v,h.f.setCell (.inl (.inr rfl)) _⟩
theorem mo(V:World)(g:Nat)(v1 v2:Int)(h0:V.cell? ⟨g,0,none⟩=some (.int .u8 v1))(ac:V.cell? ⟨g,1,none⟩=some (.int .u8 v2)) :
  (convert 136 9 (.slice (some ⟨g,0,none⟩) 2 2)).run prog V=.ok (.string (strOf [byteOf v1,byteOf v2])) V:=by
 have:=run_convert_bytes_arg (P:=prog) V 136 5 Tryz.underlying136 Tryz.underlying5 g 0 2 2 [v1,v2] rfl (fun i an=>by
  obtain rfl|rfl:i=0∨i=1:=ad
  ·exact h0
  ·exact ac) 9 Tryz.underlying9
 rw[this];rfl
theorem uQ{r t:Int}(bS:L≤24)(ac:IntKind.u8.wrap (IntKind.i64.wrap (97+(L:Int)))=r)(av:IntKind.u8.wrap (IntKind.i64.wrap (97+Int.tmod (IntKind.i64.wrap 0) 26))=t):(⟨#[118]⟩++strOf [byteOf r,byteOf t]:ByteArray)=hg L:=by
 subst ac av;have h:∀k:Fin 25,(⟨#[118]⟩++strOf [byteOf (IntKind.u8.wrap (IntKind.i64.wrap (97+((k.val:Nat):Int)))),byteOf (IntKind.u8.wrap (IntKind.i64.wrap (97+Int.tmod (IntKind.i64.wrap 0) 26)))]:ByteArray)=hg k.val:=by decide
 exact h ⟨L,ad⟩
theorem uK{w:World}{P Q:Nat→Prop}:∀{l:Lt} {xs:List Value},D.aQ w P (l.map D.s) xs→D.aQ w Q (l.map D.s) xs
 | [],xs,h=>by simpa only[Le,D.aQ] using h
 | e::l,xs,h=>by
  rw[KM] at h ⊢;obtain⟨y,rfl,bb⟩:=cp.1 h;exact cp.2 ⟨y,rfl,uK bb⟩
theorem Gr.strs{Q:Nat→Prop}{e:TypeId}{A:Ls}{n c:Nat}{l:Lt}(h:Gr P B e 1 w A n c (l.map D.s)):Gr Q B e 1 w A n c (l.map D.s):=by
 obtain⟨hl,xs,ac,av⟩:=h;exact⟨hl,xs,ac,uK av⟩
theorem vN(s:aA):(bg s).sz=11:=by
 cases s<;>simp[bg,gD,D.sz,D.yM,c8,jL,fU,ky]
theorem l5:jL.rep w P [.int .i64 0,.int .i64 0,.string ⟨#[]⟩,.slice none 0 0]:=fh.2 ⟨none,0,rfl⟩
theorem kG:fU.rep w P [.string ⟨#[]⟩,.slice none 0 0]:=by
 exact zl
theorem eC{k:Int}{nm:ByteArray}{e r:D}{a1 th el:List D}{e0 e1 e2 e3 bl r1:Value}{bY A2 cC:Ls}{n1 n2 n3 c1 c2 c3:Nat}(he:e.rep w P [e0,e1,e2,e3])(a5:r.rep w P [bl,r1])(ac:Sl w P bY n1 a1)(b7:n1≤c1)(av:Sl w P A2 n2 th)(c8:n2≤c2)(aV:Sl w P cC n3 el)(aR:n3≤c3):
  (gD k nm e r a1 th el).rep w P [.int .i64 k,.string nm,e0,e1,e2,e3,bl,r1,.slice bY n1 c1,.slice A2 n2 c2,.slice cC n3 c3]:=by
 unfold gD;rw[bK];exact bm.2 ⟨_,rfl,cp.2 ⟨_,rfl,gO.2 ⟨[e0,e1,e2,e3],_,rfl,he,gO.2 ⟨[bl,r1],_,rfl,a5,aN.2 ⟨bY,n1,c1,_,rfl,b7,ac,aN.2 ⟨A2,n2,c2,_,rfl,c8,av,aN.2 ⟨cC,n3,c3,[],rfl,aR,aV,aP.2 rfl⟩⟩⟩⟩⟩⟩⟩
theorem ld.names{au:Ls}{aI:Lt}{bq:Ls}{l:List D}{e1 e2:TypeId}{bo:Nat}(h:ld B e1 1 e2 bo w au bi ba (aI.map D.s) bq on b7 l)(hM:∀b,M b→b<B):Sl w (off M w) au bi (aI.map D.s):=
 h.one.sl (fun b O hp=>⟨O,fun hm=>by have:=hM b hm;have:=hp.1;omega⟩) (fun b O hp=>⟨O,fun hm=>by have:=hM b hm;omega⟩)
def SK(k:Int)(d bi:Nat):Prop:=∀(p:kj) (ck B:Nat) (bP bv:Value) (ps:List (ByteArray×Bool)) (V T:Lt) (ls:List aA) (N:Int) (S:World) (L:Nat) (aw:World) (aZ:ByteArray) (QA:Ls) (cq qc:Nat) (bx:Value) (aI:Lt) (au:Ls) (ba:Nat) (bq:Ls) (on b7:Nat) (cB:Nat) (bX:p.wb<ck) (eN:ck<B) (aR:B≤S.heap.size) (bK:cq≤2) (wr:World) (bf:p.s<p.wb) (dC:p.s<S.heap.size) (cu:p.wb<S.heap.size) (b5:aI.length=bi) (m1:S.heap.size≤wr.heap.size) (a7:Lu (gw S p cB∧aq S ck 143 #[.string aZ,.slice QA cq qc,bx]∧Sl S (off p.MW S) QA cq (ps.map ds)∧ld B 9 1 180 11 S au bi ba (aI.map D.s) bq on b7 (ls.map bg)∧Sl S (off p.MW S) au bi (aI.map D.s)∧∀b,p.MW b→b<B)) (bR:Lu (oA p S wr L∧aq wr ck 143 #[.string aZ,.slice QA cq qc,bx]∧aq wr S.heap.size 180 #[.int .i64 5,.string ⟨#[]⟩,.int .i64 0,.int .i64 0,.string ⟨#[]⟩,.slice none 0 0,.string ⟨#[]⟩,.slice none 0 0,.slice none 0 0,.slice none 0 0,.slice none 0 0])) (cg:aI.length+L+1≤60) (bV:on≤10000) (bc:d≤2) (cc:Lu (aI ⊆ V++decls ls∧mg (T++decls ls) (L+1)∧∀R,R≤L→HS p R)) (aH:Nat) (bl:Lu (gw aw p aH∧Sl aw (off p.MW aw) QA cq (ps.map ds)∧Fr p.MW aw S)) (b4:aw.heap.size≤ck)
  (Q:Exit→Act→World→Prop) (hQ0:∀c a d v w,Q (.panic c) (a.put d v) w→Q (.panic c) a w) (hN:∀a w,lF p ck B bP bv d ps V T ls N S L aw aZ QA cq qc bx a w→Q .normal a w) (K:Act→World→Prop) (hK:∀a w,Code.wp prog HG Q a w→K a w)
  {gK z u8 gL eO bS u16 gq gr eR eS eT eU eV eW eY eZ e3 e6 e7 e8 e9 u32 fa fb fd fe ff fh fi fk fl fm fo fp fq fr fs ft fv fw fx fy fz fA fB fC fD fE fF fG fH fI fJ u64 fK fL fM fN fO fP fQ fR fS fT fU fV fW fX fY fZ f3 f4 f5 f6 f7 f8 f9 ga gb gd ge gf gg gh gi gj gk gl gm H I am aF aL aM aN aU a1 a8 bb be bj bo br bt bA bF bG bL bM bW bZ b1 b2 b8 ca cb ce cj cn co cw cy cz cA cD cE cF cG cH cJ cM cO cP cQ cS cT cU cV cW cX cY cZ c4 c5 c6 c7 c8 c9 da db dc dd de df dg dh di dj dk dl dm dn dp dr dt du dv dw dx dy dA dB dD dE dF dG dH dJ dK dM dQ dR dS dT dV dW dX dY dZ d0 d1 d2 d3 d4 d5 d6 d7 d8 d9 ea eb ec ed ee ef eg eh ei ej ek el em en eo ep eq er es et eu ev ew ex ey ez eA eB eC eD eE eF eG eH eI eJ eL eM:Value},
  Code.wp prog HD (Exit.then K Q) ⟨#[.pointer (some ⟨p.wb,0,none⟩),bP,.slice au bi ba,.int .i64 (d:Int),bv,gK,.pointer (some ⟨ck,0,none⟩),z,u8,gL,eO,.slice bq on b7,.int .i64 N,.pointer (some ⟨S.heap.size,0,none⟩),(.int .i64 k),bS,u16,gq,gr,eR,eS,eT,eU,eV,eW,eY,eZ,e3,e6,e7,e8,e9,u32,fa,fb,fd,fe,ff,fh,fi,fk,fl,fm,fo,fp,fq,fr,fs,ft,fv,fw,fx,fy,fz,fA,fB,fC,fD,fE,fF,fG,fH,fI,fJ,u64,fK,fL,fM,fN,fO,fP,fQ,fR,fS,fT,fU,fV,fW,fX,fY,fZ,f3,f4,f5,f6,f7,f8,f9,ga,gb,gd,ge,gf,gg,gh,gi,gj,gk,gl,gm,H,I,am,aF,aL,aM,aN,aU,a1,a8,bb,be,bj,bo,br,bt,bA,bF,bG,bL,bM,bW,bZ,b1,b2,b8,ca,cb,ce,cj,cn,co,cw,cy,cz,cA,cD,cE,cF,cG,cH,cJ,cM,cO,cP,cQ,cS,cT,cU,cV,cW,cX,cY,cZ,c4,c5,c6,c7,c8,c9,da,db,dc,dd,de,df,dg,dh,di,dj,dk,dl,dm,dn,dp,dr,dt,du,dv,dw,dx,dy,dA,dB,dD,dE,dF,dG,dH,dJ,dK,dM,dQ,dR,dS,dT,dV,dW,dX,dY,dZ,d0,d1,d2,d3,d4,d5,d6,d7,d8,d9,ea,eb,ec,ed,ee,ef,eg,eh,ei,ej,ek,el,em,en,eo,ep,eq,er,es,et,eu,ev,ew,ex,ey,ez,eA,eB,eC,eD,eE,eF,eG,eH,eI,eJ,eL,eM],[]⟩ wr
namespace BE
theorem po{p:Prop}(h:p:=by
 exact gY.simple (st:=.lock bb r) ⟨s,wb,sA,bL,bD,sl,GA,gn,gc,MA,mn,mc,FA,fn,fc,M,F,ar⟩ ck B bP bv d ps V T ls N L aw aZ QA cq qc bx a7.1 bX eN a7.2.2.2.1 cc.1 cg bV aR (an.fresh a7.1 J fun b O=>ad) bA
  (eC l5 (jw.2 ⟨IA,i,ic,rfl,aN,(ax.ak fun b O=>J.block b O.2 (aD O.1)).mono fun b O=>⟨by have:=O.1;omega,by have:=O.2;omega⟩⟩) (Sl.bO _) (KG _) (Sl.bO _) (KG _) (Sl.bO _) (KG _)) (kK cc.1 (bn _)) (fun n hn=>by simp[aA.all] at hn) (by simp only[aA.num];omega) (KG _) bl.2.2 a7.2.1
 ):p:=h
theorem lH{p:Prop}(h:p:=by
 first
  | have br:decide (k<4)=true:=by simpa using ap.2
  | have br:decide (k<4)=false:=by simpa using ap.2.1
    have bo:decide (k<7)=true:=by simpa using ap.2.2
 have aB:=ae ap.1;clear ap;go_wp2_with(fail);refine(qM ⟨s,wb,sA,bL,bD,sl,GA,gn,gc,MA,mn,mc,FA,fn,fc,M,F,ar⟩ L aI au bi ba aZ ps QA cq qc bx wr (bR.1.wr a7.1) ((Sl.c4 a7.2.2.2.2.1 bR.1.fr).mono fun b O=>⟨O.1,fun h=>O.2 (.inl h)⟩) ad ((Sl.c4 a7.2.2.1 bR.1.fr).mono fun b O=>⟨O.1,fun h=>O.2 (.inl h)⟩) bK).mono ?_;rintro e aT ⟨r,IA,i,ic,rfl,bn,aN,ax,ay,aj⟩;simp only at bn ay aj;have l:=bR.2.2.on aj ad;have aW:=cT (bR.1.next bf ay aj) l bn aN ax aj.size;clear a0 ai af a8 am aF d0 aL aM bn aN ax ay aj;obtain⟨d0,aL,aM⟩:=l.two;clear l;go_wp2_with(fail);generalize hX:World.setCell _ _ _=X;have J:Fr (fun b=>b=S.heap.size) aT X:=by rw[←hX];first|exact((Fr.refl (fun b=>b=S.heap.size) aT).setCell (.inl rfl) _).setCell (.inl rfl) _|exact(((Fr.refl (fun b=>b=S.heap.size) aT).setCell (.inl rfl) _).setCell (.inl rfl) _).setCell (.inl rfl) _
 have bA:aq X S.heap.size 180 #[.int .i64 (if bb then 6 else 5),.string ⟨#[]⟩,.int .i64 0,.int .i64 0,.string ⟨#[]⟩,.slice none 0 0,.string r.name,.slice IA i ic,.slice none 0 0,.slice none 0 0,.slice none 0 0]:=by rw[←hX,aB.o];first|exact(aW.2.1.aM 6 _).aM 7 _|exact((aW.2.1.aM 0 _).aM 6 _).aM 7 _
 clear hX d0 aL aM;obtain⟨an,_,bn,aN,ax,bO⟩:=aW.o;have bC:=J.size;have bM:=bR.2.2.lt;exact pk
 ):p:=h
end BE
open BE in
theorem Ey(bb:Bool)(k:Int)(d bi:Nat)(h:(bb=false∧k<4)∨bb=true∧¬k<4∧k<7):SK k d bi:=by
 rcases h with ap|ap
 all_goals
  exact lG
namespace BF
theorem eQ{p:Prop}(h:p:=by
 refine b3 ?_;generalize hX:World.setCell _ _ _=X;have J:=cL hX;have bo:aq X S.heap.size 180 #[.int .i64 1,.string (hg L),.int .i64 z.a9,.int .i64 z.numOf,.string z.bu,.slice bU cQ zc,.string ⟨#[]⟩,.slice none 0 0,.slice none 0 0,.slice none 0 0,.slice none 0 0]:=by
  have ac:=ax.s.aM 1 (.string (⟨#[118]⟩++strOf [byteOf r,byteOf t]));rw[uQ ad aJ.1 aJ.2] at ac;rw[←hX]
  try rw[uQ ad aJ.1 aJ.2]
  exact ac
 have ab:=ax.c.fresh a7.1 J fun b O=>ad;have br:Sl X (fun b=>S.heap.size<b∧b<X.heap.size) bU cQ (z.args.map bk):=(cP.ak fun b O=>J.block b O.2 (aD O.1)).mono fun b O=>⟨O.1,KH O.2 J.size⟩
 have j:∀b,(Value.slice au bi ba).ownBlock=some b→B≤b∧b<S.heap.size:=fun b O=>a7.2.2.2.1.one.lt O;have a5:Gr (fun _=>False) B 9 1 X au bi ba (aI.map D.s):=((Gr.strs (Q:=fun _=>False) a7.2.2.2.1.one).c4 ax.c.fr fun b O hl=>⟨fun h=>h,a7.2.2.2.2.2 b O⟩).dj J.size fun b ak hp=>J.block b ak (hp.elim (fun h=>h.elim) fun hp=>by have:=j b hp;omega);have aQ:=hR bo ab br a5 bt bm J.size;have ct:=ae j;have cf:S.heap.size<X.heap.size:=bo.lt;have b0:B≤X.heap.size:=ad;clear hX J bo ab br a5 j bt bm ax cP d0 aL aM;obtain⟨d0,aL,aM⟩:=aQ.1.two;go_wp2_with(at_builtin;refine bQ kr rfl (.tmp 114) (.tmp 117) rfl aQ.2.2.2.1 (uv.2 rfl) rfl rfl rfl ad ad b0 ?_;intro dQ cp c6 bB az al b9;have dw:=aB bB az al;clear bB az al b9);obtain⟨bj,aK,bC⟩:=dw.o;obtain⟨bo,ab,br,a5,bt,bm,cv⟩:=aQ.o;have j:=ct.o;have m:∀b,(Value.slice bq on b7).ownBlock=some b→B≤b∧b<S.heap.size:=fun b O=>a7.2.2.2.1.two.lt O;have aE:=a7.2.2.2.1.ne;have aS:∀b,(Value.slice dQ (bi+1) cp).ownBlock=some b→(b<S.heap.size∧(Value.slice au bi ba).ownBlock=some b)∨X.heap.size≤b:=fun b O=>(bC b O).imp (fun h=>⟨(j b h).2,h⟩) id;have a9:¬(Value.slice au bi ba).ownBlock=some S.heap.size:=fun h=>by have:=(j _ h).2;omega
 have cC:=aK.size;have bY:L≤24:=ab.le
 try refine hN _ _ ?_
 unfold lF;refine⟨dQ,bi+1,cp,bq,on,b7,?_⟩
 iterate 240 apply Exists.intro
 refine⟨?_,rfl⟩;refine⟨aI++[hg L],[],.set true (hg L) z,L,_,(oA.mk ab.src ab.blk (bl.2.2.trans ab.fr) ab.le).fresh bl.1 aK (fun b O=>by have:=(j b O).1;omega),(a7.2.1.on ab.fr (fun h=>by rcases h with h|h<;>(simp only at h;omega))).on aK (fun h=>by have:=(j _ h).1;omega),⟨?_,?_,fun b O h=>?_⟩,bo.on aK a9,?_,?_,?_,?_,KG _,?_,by simp;omega,ad⟩
 ·rw[KN,KM,Le];have:=Gr.strs (l:=aI++[hg L]) (Q:=fun b=>B≤b∧(Value.slice bq on b7).ownBlock≠some b) (by rw[KN,KM,Le];exact bj)
  rwa [KN,KM,Le] at this
 ·rw[Lg];have ac:Gr (fun b=>(B≤b∧(Value.slice au bi ba).ownBlock≠some b)∧b<S.heap.size) B 180 11 S bq on b7 (ls.map bg):=a7.2.2.2.1.two.mono fun b O hp=>⟨hp,O⟩
  have av:=ac.c4 ab.fr fun b O hl=>⟨fun h=>by have:=a7.2.2.2.2.2 b O;have:=h.1.1;omega,a7.2.2.2.2.2 b O⟩
  have aV:=av.dj aK.size fun b ak hp=>aK.block b ak (fun bM=>hp.elim (fun h=>h.1.2 bM) (fun h=>aE b bM h));exact aV.mono fun b _ hp=>⟨hp.1.1,fun h=>by
   rcases aS b h with bz|bz
   ·exact hp.1.2 bz.2
   ·have:=hp.2;omega⟩
 ·rcases aS b O with bz|bz
  ·exact aE b bz.2 h
  ·have:=(m b h).2;omega
 ·refine eC (a1.2 ⟨bU,cQ,zc,rfl,bm,?_⟩) kG (Sl.bO _) (KG _) (Sl.bO _) (KG _) (Sl.bO _) (KG _);refine(br.ak fun b O=>aK.block b O.2 fun h=>by have:=(j b h).2;have:=O.1;omega).mono fun b O=>⟨⟨by have:=O.1;omega,fun h=>?_⟩,by have:=O.2;omega,fun h=>by have:=(m b h).2;have:=O.1;omega⟩
  have ac:=O.1;have av:=O.2;rcases aS b h with bz|bz<;>omega
 ·exact tj.2 ⟨ED ad,cc.2.1 L ad,dK cc.1 2 z bt⟩
 ·intro n hn;rw[Lh,all_cons] at hn;simp only[aA.all,an.eM,an.all,Lg,Li] at hn;exact⟨L,KG _,ad,hn⟩
 ·rw[Lh,sX];simp only[aA.num];omega
 ·intro y bb;rw[Lh,rm,←List.append_assoc];rcases KP.1 bb with bb|bb
  ·exact KP.2 (.inl (cc.1 bb))
  ·simp only[Li] at bb;subst bb;exact KP.2 (.inr (by simp[decls,aA.decl]))
 ):p:=h
theorem lH{p:Prop}(h:p:=by
 have co:L≤24:=bR.1.le;have gP:¬(wb=s∨wb=S.heap.size):=ad;have cz:S.heap.size<wr.heap.size:=bR.2.2.lt;have cr:Int.tmod (L:Int) 26=(L:Int):=Int.tmod_eq_of_lt ad ad;have ca:Int.tdiv (L:Int) 26=0:=Int.tdiv_eq_zero_of_lt ad ad;go_upto_region 19 with(fail);refine q4 (fun b=>b=s∨b=S.heap.size) [26] (.free 0 (.free 1 (.free 3 (.free 4 (.free 5 (.held 6 (.free 7 (.free 8 (.free 9 (.free 10 (.free 11 (.free 12 (.held 13 (.free 14 (.free 15 (.free 16 (.free 17 (.free 21 (.pick [2,18] (fun i=>bif i == 2 then .pick [18,22] (fun i=>bif i == 18 then .held 19 (.free 20 (.pick [22] (fun _=>.free 23 (.pick [24] (fun _=>.free 25 (.pick [26] (fun _=>.stop))))))) else .free 23 (.pick [18,24] (fun i=>bif i == 18 then .held 19 (.free 20 (.pick [24] (fun _=>.free 25 (.pick [26] (fun _=>.stop))))) else .pick [18] (fun _=>.held 19 (.free 20 (.free 25 (.pick [26] (fun _=>.stop)))))))) else .held 19 (.free 20 (.pick [2] (fun _=>.pick [22] (fun _=>.free 23 (.pick [24] (fun _=>.free 25 (.pick [26] (fun _=>.stop)))))))))))))))))))))))))))) ?_
 iterate 5 refine tf ?_
 refine mV ?_
 iterate 6 refine tf ?_
 refine mV ?_
 iterate 5 refine tf ?_
 have U:Lu (qP ⟨s,wb,sA,bL,bD,sl,GA,gn,gc,MA,mn,mc,FA,fn,fc,M,F,ar⟩ S wr L #[.int .i64 5,.string ⟨#[]⟩,.int .i64 0,.int .i64 0,.string ⟨#[]⟩,.slice none 0 0,.string ⟨#[]⟩,.slice none 0 0,.slice none 0 0,.slice none 0 0,.slice none 0 0] wr):=ae ⟨bR.1,bR.2.2,Lo⟩;clear a0 ai af a8 am aF d0 aL aM;generalize bs:IntKind.u8.wrap (IntKind.i64.wrap (97+(L:Int)))=r;generalize bA:IntKind.u8.wrap (IntKind.i64.wrap (97+Int.tmod (IntKind.i64.wrap 0) 26))=t;have aJ:=ag bs bA;clear bs bA;have bE:(strOf [byteOf r,byteOf t]).size=2:=aO _;refine l8 (P:=?oB) (ops:=?Hu) (Q:=?Hw) (R:=?Hy) (tails:=?HI) (rest:=.free 25 (.pick [26] (fun _=>.stop))) (aa:=?G6)
  (C:=fun(aW:Nat) (Y:Value) bT=>∃(z:VE) (bU:Ls) (cQ zc:Nat),Y=.agg #[.int .i64 z.a9,.int .i64 z.numOf,.string z.bu,.slice bU cQ zc]∧qP ⟨s,wb,sA,bL,bD,sl,GA,gn,gc,MA,mn,mc,FA,fn,fc,M,F,ar⟩ S wr L #[.int .i64 1,.string ⟨#[]⟩,.int .i64 z.a9,.int .i64 z.numOf,.string z.bu,.slice bU cQ zc,.string ⟨#[]⟩,.slice none 0 0,.slice none 0 0,.slice none 0 0,.slice none 0 0] bT∧Sl bT (fun b=>S.heap.size<b∧b<bT.heap.size) bU cQ (z.args.map bk)∧z.src aI 2∧cQ≤zc) (fun key=>?wa) ?vY
 case wa=>
  refine aY ?_ ?_
  ·
   refine aC rfl (fun K hK=>?_) rfl;go_simp;refine(jK ⟨s,wb,sA,bL,bD,sl,GA,gn,gc,MA,mn,mc,FA,fn,fc,M,F,ar⟩ L aI au bi ba _ ((U.c.ai bf (Lo.drew)).wr a7.1) ((Sl.c4 a7.2.2.2.2.1 (U.c.ai bf (Lo.drew)).fr).mono fun b O=>⟨O.1,fun h=>O.2 (.inl h)⟩) ad).mono ?_;rintro e v1 ⟨x,cO,cG,cV,rfl,hx,aN,cd,h,he⟩
   try simp only at h he
   have aG:Fr (fun b=>b=s) wr v1:=Fr.aF he;have H:=ae (U.call bf dC h aG);have aQ:=ag hx aN;have a2:=ae ((cd.mono fun b O=>(⟨by have:=U.s.lt;have:=O.1;have:wr.drew.heap.size=wr.heap.size:=rfl;omega,O.2⟩:S.heap.size<b∧b<v1.heap.size)));refine dz hK (he.mono fun _ h=>.inl h) ?_;clear hK K;clear hx aN cd h he aG;refine aY ?_ ?_
   ·
    refine dP ?_;refine bw (fun V=>Ext v1 V∧aq V v1.heap.size 5 #[.int .u8 r,.int .u8 t]) ⟨Lo.alloc _,Lp⟩ (fun v2 hV=>?_);have a4:=ae (H.ai bf hV.1);have aU:=ae hV.2;have cZ:S.heap.size<v1.heap.size:=H.s.lt;have b2:=ae ((a2.ak fun b O=>hV.1.block b O.2 fun h=>h).mono fun b O=>(⟨O.1,KH O.2 hV.1.size⟩:S.heap.size<b∧b<v2.heap.size));clear hV;obtain⟨e0,a6,aP⟩:=aU.two;refine cx (v:=?_) rfl (by rfl) (fun V hV=>?_) ?_;rotate_left
    ·have b6:=mo V v1.heap.size r t ((hV.cell aP ad).trans (e0 0)) ((hV.cell aP ad).trans (e0 1))
     (go_simp<;>with_reducible rfl)
    try simp only[PU]
    clear e0 a6 aP;refine tf ?_;refine ao ?_;obtain⟨d0,aL,aM⟩:=a4.s.two;refine aC rfl (fun K hK=>?_) rfl;go_simp;refine dz hK (Lo.setCell (.inl (.inr rfl)) _) ?_;clear hK K;refine bw (fun V=>qP ⟨s,wb,sA,bL,bD,sl,GA,gn,gc,MA,mn,mc,FA,fn,fc,M,F,ar⟩ S wr L #[.int .i64 1,.string ⟨#[]⟩,.int .i64 0,.int .i64 0,.string ⟨#[]⟩,.slice none 0 0,.string ⟨#[]⟩,.slice none 0 0,.slice none 0 0,.slice none 0 0,.slice none 0 0] V∧Fr (fun b=>b=S.heap.size) v2 V) ⟨by exact a4.aM a7.1 0 _,by exact(Fr.refl (fun b=>b=S.heap.size) v2).setCell (.inl rfl) _⟩ (fun aj hV=>?_);have bd:=ae hV.1;have b8:=ae ((b2.ak fun b O=>hV.2.block b O.2 (aD O.1)).mono fun b O=>(⟨O.1,KH O.2 hV.2.size⟩:S.heap.size<b∧b<aj.heap.size));have bZ:=ae (aU.on hV.2 ad);clear hV d0 aL aM;refine tf ?_;refine ao ?_;obtain⟨d0,aL,aM⟩:=bd.s.two;refine aC rfl (fun K hK=>?_) rfl;go_simp;refine dz hK ((((Lo.setCell (.inl (.inr rfl)) _).setCell (.inl (.inr rfl)) _).setCell (.inl (.inr rfl)) _).setCell (.inl (.inr rfl)) _) ?_;clear hK K;refine bw (fun V=>qP ⟨s,wb,sA,bL,bD,sl,GA,gn,gc,MA,mn,mc,FA,fn,fc,M,F,ar⟩ S wr L #[.int .i64 1,.string ⟨#[]⟩,.int .i64 x.a9,.int .i64 x.numOf,.string x.bu,.slice cO cG cV,.string ⟨#[]⟩,.slice none 0 0,.slice none 0 0,.slice none 0 0,.slice none 0 0] V∧Fr (fun b=>b=S.heap.size) aj V) ⟨by exact(((bd.aM a7.1 2 _).aM a7.1 3 _).aM a7.1 4 _).aM a7.1 5 _,by exact((((Fr.refl (fun b=>b=S.heap.size) aj).setCell (.inl rfl) _).setCell (.inl rfl) _).setCell (.inl rfl) _).setCell (.inl rfl) _⟩ (fun v4 hV=>?_)
    have cl:=ae hV.1;have cb:=ae ((b8.ak fun b O=>hV.2.block b O.2 (aD O.1)).mono fun b O=>(⟨O.1,KH O.2 hV.2.size⟩:S.heap.size<b∧b<v4.heap.size));have cw:=ae (bZ.on hV.2 ad);clear hV d0 aL aM;have ah:=And.intro cl.o (And.intro cb.o aQ.o);have aT:∃(z:VE) (bU:Ls) (cQ zc:Nat),(Value.agg #[.int .i64 x.a9,.int .i64 x.numOf,.string x.bu,.slice cO cG cV])=.agg #[.int .i64 z.a9,.int .i64 z.numOf,.string z.bu,.slice bU cQ zc]∧qP ⟨s,wb,sA,bL,bD,sl,GA,gn,gc,MA,mn,mc,FA,fn,fc,M,F,ar⟩ S wr L #[.int .i64 1,.string ⟨#[]⟩,.int .i64 z.a9,.int .i64 z.numOf,.string z.bu,.slice bU cQ zc,.string ⟨#[]⟩,.slice none 0 0,.slice none 0 0,.slice none 0 0,.slice none 0 0] v4∧Sl v4 (fun b=>S.heap.size<b∧b<v4.heap.size) bU cQ (z.args.map bk)∧z.src aI 2∧cQ≤zc:=⟨x,cO,cG,cV,rfl,ah⟩
    revert aT;generalize v1.heap.size=aW;exact xg
   ·
    obtain⟨d0,aL,aM⟩:=H.s.two;refine aC rfl (fun K hK=>?_) rfl;go_simp;refine dz hK (Lo.setCell (.inl (.inr rfl)) _) ?_;clear hK K;refine bw (fun V=>qP ⟨s,wb,sA,bL,bD,sl,GA,gn,gc,MA,mn,mc,FA,fn,fc,M,F,ar⟩ S wr L #[.int .i64 1,.string ⟨#[]⟩,.int .i64 0,.int .i64 0,.string ⟨#[]⟩,.slice none 0 0,.string ⟨#[]⟩,.slice none 0 0,.slice none 0 0,.slice none 0 0,.slice none 0 0] V∧Fr (fun b=>b=S.heap.size) v1 V) ⟨by exact H.aM a7.1 0 _,by exact(Fr.refl (fun b=>b=S.heap.size) v1).setCell (.inl rfl) _⟩ (fun bn hV=>?_);have I:=ae hV.1;have a3:=ae ((a2.ak fun b O=>hV.2.block b O.2 (aD O.1)).mono fun b O=>(⟨O.1,KH O.2 hV.2.size⟩:S.heap.size<b∧b<bn.heap.size));clear hV d0 aL aM;refine tf ?_;refine aY ?_ ?_
    ·
     refine dP ?_;refine bw (fun V=>Ext bn V∧aq V bn.heap.size 5 #[.int .u8 r,.int .u8 t]) ⟨Lo.alloc _,Lp⟩ (fun v6 hV=>?_);have be:=ae (I.ai bf hV.1);have aX:=ae hV.2;have cZ:S.heap.size<bn.heap.size:=I.s.lt;have ce:=ae ((a3.ak fun b O=>hV.1.block b O.2 fun h=>h).mono fun b O=>(⟨O.1,KH O.2 hV.1.size⟩:S.heap.size<b∧b<v6.heap.size));clear hV;obtain⟨e0,a6,aP⟩:=aX.two;refine cx (v:=?_) rfl (by rfl) (fun V hV=>?_) ?_;rotate_left
     ·have b6:=mo V bn.heap.size r t ((hV.cell aP ad).trans (e0 0)) ((hV.cell aP ad).trans (e0 1))
      (go_simp<;>with_reducible rfl)
     try simp only[PU]
     clear e0 a6 aP;refine tf ?_;refine ao ?_;obtain⟨d0,aL,aM⟩:=be.s.two;refine aC rfl (fun K hK=>?_) rfl;go_simp;refine dz hK ((((Lo.setCell (.inl (.inr rfl)) _).setCell (.inl (.inr rfl)) _).setCell (.inl (.inr rfl)) _).setCell (.inl (.inr rfl)) _) ?_;clear hK K;refine bw (fun V=>qP ⟨s,wb,sA,bL,bD,sl,GA,gn,gc,MA,mn,mc,FA,fn,fc,M,F,ar⟩ S wr L #[.int .i64 1,.string ⟨#[]⟩,.int .i64 x.a9,.int .i64 x.numOf,.string x.bu,.slice cO cG cV,.string ⟨#[]⟩,.slice none 0 0,.slice none 0 0,.slice none 0 0,.slice none 0 0] V∧Fr (fun b=>b=S.heap.size) v6 V) ⟨by exact(((be.aM a7.1 2 _).aM a7.1 3 _).aM a7.1 4 _).aM a7.1 5 _,by exact((((Fr.refl (fun b=>b=S.heap.size) v6).setCell (.inl rfl) _).setCell (.inl rfl) _).setCell (.inl rfl) _).setCell (.inl rfl) _⟩ (fun bp hV=>?_);have cm:=ae hV.1;have ch:=ae ((ce.ak fun b O=>hV.2.block b O.2 (aD O.1)).mono fun b O=>(⟨O.1,KH O.2 hV.2.size⟩:S.heap.size<b∧b<bp.heap.size));have cy:=ae (aX.on hV.2 ad);clear hV d0 aL aM;have ah:=And.intro cm.o (And.intro ch.o aQ.o)
     have aT:∃(z:VE) (bU:Ls) (cQ zc:Nat),(Value.agg #[.int .i64 x.a9,.int .i64 x.numOf,.string x.bu,.slice cO cG cV])=.agg #[.int .i64 z.a9,.int .i64 z.numOf,.string z.bu,.slice bU cQ zc]∧qP ⟨s,wb,sA,bL,bD,sl,GA,gn,gc,MA,mn,mc,FA,fn,fc,M,F,ar⟩ S wr L #[.int .i64 1,.string ⟨#[]⟩,.int .i64 z.a9,.int .i64 z.numOf,.string z.bu,.slice bU cQ zc,.string ⟨#[]⟩,.slice none 0 0,.slice none 0 0,.slice none 0 0,.slice none 0 0] bp∧Sl bp (fun b=>S.heap.size<b∧b<bp.heap.size) bU cQ (z.args.map bk)∧z.src aI 2∧cQ≤zc:=⟨x,cO,cG,cV,rfl,ah⟩
     revert aT;generalize bn.heap.size=aW;exact xg
    ·
     obtain⟨d0,aL,aM⟩:=I.s.two;refine aC rfl (fun K hK=>?_) rfl;go_simp;refine dz hK ((((Lo.setCell (.inl (.inr rfl)) _).setCell (.inl (.inr rfl)) _).setCell (.inl (.inr rfl)) _).setCell (.inl (.inr rfl)) _) ?_;clear hK K;refine bw (fun V=>qP ⟨s,wb,sA,bL,bD,sl,GA,gn,gc,MA,mn,mc,FA,fn,fc,M,F,ar⟩ S wr L #[.int .i64 1,.string ⟨#[]⟩,.int .i64 x.a9,.int .i64 x.numOf,.string x.bu,.slice cO cG cV,.string ⟨#[]⟩,.slice none 0 0,.slice none 0 0,.slice none 0 0,.slice none 0 0] V∧Fr (fun b=>b=S.heap.size) bn V) ⟨by exact(((I.aM a7.1 2 _).aM a7.1 3 _).aM a7.1 4 _).aM a7.1 5 _,by exact((((Fr.refl (fun b=>b=S.heap.size) bn).setCell (.inl rfl) _).setCell (.inl rfl) _).setCell (.inl rfl) _).setCell (.inl rfl) _⟩ (fun bF hV=>?_);have bh:=ae hV.1;have ci:=ae ((a3.ak fun b O=>hV.2.block b O.2 (aD O.1)).mono fun b O=>(⟨O.1,KH O.2 hV.2.size⟩:S.heap.size<b∧b<bF.heap.size));clear hV d0 aL aM;refine ao ?_;refine dP ?_;refine bw (fun V=>Ext bF V∧aq V bF.heap.size 5 #[.int .u8 r,.int .u8 t]) ⟨Lo.alloc _,Lp⟩ (fun bu hV=>?_);have cn:=ae (bh.ai bf hV.1);have b1:=ae hV.2;have cZ:S.heap.size<bF.heap.size:=bh.s.lt;have cj:=ae ((ci.ak fun b O=>hV.1.block b O.2 fun h=>h).mono fun b O=>(⟨O.1,KH O.2 hV.1.size⟩:S.heap.size<b∧b<bu.heap.size));clear hV;obtain⟨e0,a6,aP⟩:=b1.two;refine cx (v:=?_) rfl (by rfl) (fun V hV=>?_) ?_;rotate_left
     ·have b6:=mo V bF.heap.size r t ((hV.cell aP ad).trans (e0 0)) ((hV.cell aP ad).trans (e0 1))
      (go_simp<;>with_reducible rfl)
     try simp only[PU]
     clear e0 a6 aP;refine tf ?_;have ah:=And.intro cn.o (And.intro cj.o aQ.o);have aT:∃(z:VE) (bU:Ls) (cQ zc:Nat),(Value.agg #[.int .i64 x.a9,.int .i64 x.numOf,.string x.bu,.slice cO cG cV])=.agg #[.int .i64 z.a9,.int .i64 z.numOf,.string z.bu,.slice bU cQ zc]∧qP ⟨s,wb,sA,bL,bD,sl,GA,gn,gc,MA,mn,mc,FA,fn,fc,M,F,ar⟩ S wr L #[.int .i64 1,.string ⟨#[]⟩,.int .i64 z.a9,.int .i64 z.numOf,.string z.bu,.slice bU cQ zc,.string ⟨#[]⟩,.slice none 0 0,.slice none 0 0,.slice none 0 0,.slice none 0 0] bu∧Sl bu (fun b=>S.heap.size<b∧b<bu.heap.size) bU cQ (z.args.map bk)∧z.src aI 2∧cQ≤zc:=⟨x,cO,cG,cV,rfl,ah⟩
     revert aT;generalize bF.heap.size=aW;exact xg
  ·
   refine dP ?_;refine bw (fun V=>Ext wr V∧aq V wr.heap.size 5 #[.int .u8 r,.int .u8 t]) ⟨(Lo.alloc _).drew,Lp⟩ (fun v10 hV=>?_);have k:=ae (U.ai bf hV.1);have W:=ae hV.2;have cZ:S.heap.size<wr.heap.size:=U.s.lt;clear hV;obtain⟨e0,a6,aP⟩:=W.two;refine cx (v:=?_) rfl (by rfl) (fun V hV=>?_) ?_;rotate_left
   ·have b6:=mo V wr.heap.size r t ((hV.cell aP ad).trans (e0 0)) ((hV.cell aP ad).trans (e0 1))
    (go_simp<;>with_reducible rfl)
   try simp only[PU]
   clear e0 a6 aP;refine tf ?_;refine ao ?_;refine aC rfl (fun K hK=>?_) rfl;go_simp;refine(jK ⟨s,wb,sA,bL,bD,sl,GA,gn,gc,MA,mn,mc,FA,fn,fc,M,F,ar⟩ L aI au bi ba _ ((k.c.ai bf Lo).wr a7.1) ((Sl.c4 a7.2.2.2.2.1 (k.c.ai bf Lo).fr).mono fun b O=>⟨O.1,fun h=>O.2 (.inl h)⟩) ad).mono ?_;rintro e v11 ⟨x,cO,cG,cV,rfl,hx,aN,cd,h,he⟩
   try simp only at h he
   have u:Fr (fun b=>b=s) v10 v11:=he;have Z:=ae (k.call bf dC h u);have aQ:=ag hx aN;have bI:=ae ((cd.mono fun b O=>(⟨by have:=k.s.lt;have:=O.1;omega,O.2⟩:S.heap.size<b∧b<v11.heap.size)));have bG:=ae (W.on u ad);refine dz hK (he.mono fun _ h=>.inl h) ?_;clear hK K;clear hx aN cd h he u;refine ao ?_;obtain⟨d0,aL,aM⟩:=Z.s.two;refine aC rfl (fun K hK=>?_) rfl;go_simp;refine dz hK (Lo.setCell (.inl (.inr rfl)) _) ?_;clear hK K;refine bw (fun V=>qP ⟨s,wb,sA,bL,bD,sl,GA,gn,gc,MA,mn,mc,FA,fn,fc,M,F,ar⟩ S wr L #[.int .i64 1,.string ⟨#[]⟩,.int .i64 0,.int .i64 0,.string ⟨#[]⟩,.slice none 0 0,.string ⟨#[]⟩,.slice none 0 0,.slice none 0 0,.slice none 0 0,.slice none 0 0] V∧Fr (fun b=>b=S.heap.size) v11 V) ⟨by exact Z.aM a7.1 0 _,by exact(Fr.refl (fun b=>b=S.heap.size) v11).setCell (.inl rfl) _⟩ (fun bW hV=>?_);have ap:=ae hV.1;have bJ:=ae ((bI.ak fun b O=>hV.2.block b O.2 (aD O.1)).mono fun b O=>(⟨O.1,KH O.2 hV.2.size⟩:S.heap.size<b∧b<bW.heap.size));have bH:=ae (bG.on hV.2 ad);clear hV d0 aL aM;refine tf ?_;refine ao ?_;obtain⟨d0,aL,aM⟩:=ap.s.two;refine aC rfl (fun K hK=>?_) rfl;go_simp;refine dz hK ((((Lo.setCell (.inl (.inr rfl)) _).setCell (.inl (.inr rfl)) _).setCell (.inl (.inr rfl)) _).setCell (.inl (.inr rfl)) _) ?_;clear hK K
   refine bw (fun V=>qP ⟨s,wb,sA,bL,bD,sl,GA,gn,gc,MA,mn,mc,FA,fn,fc,M,F,ar⟩ S wr L #[.int .i64 1,.string ⟨#[]⟩,.int .i64 x.a9,.int .i64 x.numOf,.string x.bu,.slice cO cG cV,.string ⟨#[]⟩,.slice none 0 0,.slice none 0 0,.slice none 0 0,.slice none 0 0] V∧Fr (fun b=>b=S.heap.size) bW V) ⟨by exact(((ap.aM a7.1 2 _).aM a7.1 3 _).aM a7.1 4 _).aM a7.1 5 _,by exact((((Fr.refl (fun b=>b=S.heap.size) bW).setCell (.inl rfl) _).setCell (.inl rfl) _).setCell (.inl rfl) _).setCell (.inl rfl) _⟩ (fun ay hV=>?_);have bS:=ae hV.1;have bO:=ae ((bJ.ak fun b O=>hV.2.block b O.2 (aD O.1)).mono fun b O=>(⟨O.1,KH O.2 hV.2.size⟩:S.heap.size<b∧b<ay.heap.size));have cs:=ae (bH.on hV.2 ad);clear hV d0 aL aM;have ah:=And.intro bS.o (And.intro bO.o aQ.o);have aT:∃(z:VE) (bU:Ls) (cQ zc:Nat),(Value.agg #[.int .i64 x.a9,.int .i64 x.numOf,.string x.bu,.slice cO cG cV])=.agg #[.int .i64 z.a9,.int .i64 z.numOf,.string z.bu,.slice bU cQ zc]∧qP ⟨s,wb,sA,bL,bD,sl,GA,gn,gc,MA,mn,mc,FA,fn,fc,M,F,ar⟩ S wr L #[.int .i64 1,.string ⟨#[]⟩,.int .i64 z.a9,.int .i64 z.numOf,.string z.bu,.slice bU cQ zc,.string ⟨#[]⟩,.slice none 0 0,.slice none 0 0,.slice none 0 0,.slice none 0 0] ay∧Sl ay (fun b=>S.heap.size<b∧b<ay.heap.size) bU cQ (z.args.map bk)∧z.src aI 2∧cQ≤zc:=⟨x,cO,cG,cV,rfl,ah⟩
   revert aT;generalize wr.heap.size=aW;exact xg
 case vY=>
  rintro aW Y cA ⟨z,bU,cQ,zc,rfl,ax,cP,bt,bm⟩;obtain⟨d0,aL,aM⟩:=ax.s.two;refine tf ?_;exact fj
 ):p:=h
end BF
open BF in
theorem HF(d bi:Nat):SK 7 d bi:=by
 exact lG
namespace BG
theorem sk{p:Prop}(h:p:=by
 refine aE ?_;generalize hX:World.setCell _ _ _=X;have J:Fr (fun b=>b=S.heap.size) aT X:=hX▸((((((Fr.refl (fun b=>b=S.heap.size) aT).setCell (.inl rfl) _).setCell (.inl rfl) _).setCell (.inl rfl) _).setCell (.inl rfl) _).setCell (.inl rfl) _).setCell (.inl rfl) _;have bA:aq X S.heap.size 180 #[.int .i64 2,.string nm,.int .i64 x.a9,.int .i64 x.numOf,.string x.bu,.slice cO cG cV,.string ⟨#[]⟩,.slice none 0 0,.slice none 0 0,.slice none 0 0,.slice none 0 0]:=hX▸(((((aW.2.1.aM 0 _).aM 1 _).aM 2 _).aM 3 _).aM 4 _).aM 5 _;clear hX d0 aL aM;go_wp2_with(fail);obtain⟨an,_,hx,aN,cd,bO⟩:=aW.o;have bC:=J.size;have bM:=bR.2.2.lt
 try refine hN _ _ ?_
 unfold lF;apply Exists.intro
 refine⟨bi,ba,bq,on,b7,?_⟩
 iterate 240 apply Exists.intro
 refine⟨?_,rfl⟩;exact gY.simple (st:=.set false nm x) ⟨s,wb,sA,bL,bD,sl,GA,gn,gc,MA,mn,mc,FA,fn,fc,M,F,ar⟩ ck B bP bv d ps V T ls N L aw aZ QA cq qc bx a7.1 bX eN a7.2.2.2.1 cc.1 cg bV aR (an.fresh a7.1 J fun b O=>ad) bA (eC (a1.2 ⟨cO,cG,cV,rfl,aN,(cd.ak fun b O=>J.block b O.2 (aD O.1)).mono fun b O=>⟨by have:=O.1;omega,by have:=O.2;omega⟩⟩) kG (Sl.bO _) (KG _) (Sl.bO _) (KG _) (Sl.bO _) (KG _)) ⟨cc.1 cR.o,dK cc.1 2 x hx⟩ (fun n hn=>by simp[aA.all] at hn) (by simp only[aA.num];omega) (KG _) bl.2.2 a7.2.1
 ):p:=h
theorem lH{p:Prop}(h:p:=by
 have o:(0:Int)<(bi:Int):=ad;have gP:¬(wb=s∨wb=S.heap.size):=ad;go_upto_region 22 with(fail);refine eK (fun b=>b=s∨b=S.heap.size) [(0,3),(1,3),(2,3),(3,3),(4,0),(5,3),(6,3),(10,3),(11,3),(13,3),(7,1),(8,3),(9,0),(12,1),(14,1),(15,3),(16,2),(17,3),(18,2)] ?_
 iterate 4 refine pf ?_
 refine ow ?_
 iterate 5 refine pf ?_
 refine aJ rfl (fun K hK=>?_);go_simp;refine(a2 wr.drew s sA bL bD sl bi (bR.1.ai bf Lo.drew).src ad ad).mono ?_;rintro e aS ⟨cv,rfl,a3,bU,h,he⟩;obtain⟨j,rfl⟩:=KL a3;have aj:Fr (fun b=>b=s) wr aS:=Fr.aF he.fr;have u:=bR.1.next bf h aj;obtain⟨i,t,nm,cs,g,O,hm,a5,bp,hc⟩:=Sl.gZ (z:=1) a7.2.2.2.2.1 (fun _=>rfl) (k:=j) ad;subst g;obtain rfl:=uv.1 a5;have c0:=(u.fr.cell O.1 O.2).trans (hc 0 _ rfl);simp only[Nat.mul_one,KQ] at c0;have r:¬(i=s∨i=S.heap.size):=fun h=>by
  rcases h with h|h
  ·exact O.2 (.inl h)
  ·have:=O.1;omega
 have m:i<aS.heap.size:=by have:=u.fr.size;have:=O.1;omega
 have cl:(0:Int)≤(j:Int):=ad;have cK:(j:Int)<(bi:Int):=ad;have cR:=ae (KJ hm);have H1:=ag u (bR.2.2.on aj ad);have cn:=aj.size;refine dz hK (he.fr.mono fun _ h=>.inl h) ?_;clear hK K;clear a0 ai af a8 am aF d0 aL aM a5 bp hc hm h he aj u O a3 bU;refine pf ?_;refine Kb ?_;refine aJ rfl (fun K hK=>?_);go_simp;refine(jK ⟨s,wb,sA,bL,bD,sl,GA,gn,gc,MA,mn,mc,FA,fn,fc,M,F,ar⟩ L aI _ bi ba aS (H1.1.wr a7.1) ((Sl.c4 a7.2.2.2.2.1 H1.1.fr).mono fun b O=>⟨O.1,fun h=>O.2 (.inl h)⟩) ad).mono ?_;rintro e aT ⟨x,cO,cG,cV,rfl,hx,aN,cd,h,he⟩;simp only at h he;have l:=H1.2.on he ad;have aW:=cT (H1.1.next bf h he) l hx aN cd he.size;obtain⟨d0,aL,aM⟩:=l.two;refine dz hK (he.mono fun _ h=>.inl h) ?_;clear hK K;clear l hx aN cd h he c0;refine aJ rfl (fun K hK=>?_);go_simp;refine dz hK (Lo.setCell (.inl (.inr rfl)) _) ?_;clear hK K;refine pf ?_;exact sj
 ):p:=h
end BG
open BG in
theorem HE(d bi:Nat)(bJ:0<bi):SK 8 d bi:=by
 exact lG
end Go.Proofs.YtnhhdaggkiomoaaGreat

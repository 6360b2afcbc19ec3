/- Part 33 of the proof (WrD WrDLockF WrDLockT WrDSetT WrDSetF WrDDef8), without conditions of its own. -/
import Derived.Test.YtjhgbdckgkppnaaGreatQ27
import Derived.Test.YtjhgbdckgkppnaaGreatQ32
namespace Go.Proofs.YtjhgbdckgkppnaaGreat
open Go.RowKit Go.Proofs.Tryz
set_option maxRecDepth 1000000
set_option maxHeartbeats 25600000
set_option linter.unusedVariables false
variable{be:GS}{B L ba bj eN on u:Nat}{M P:Nat→Prop}{au o:GR}{p:Prop}{S ab w:World}
def j0(n:Nat):Code→Option Code
 | .block k c=>if k=n then some c else j0 n c
 | .seq a b=>match j0 n a with
  | some c=>some c
  | none=>j0 n b
 | .loop c=>j0 n c
 | .scope c=>j0 n c
 | _=>none
noncomputable def tW:Code:=((Tryz.f74.body.bind e6).getD .skip)
noncomputable def Br:Code:=((j0 2 tW).getD .skip)
noncomputable def En:Code:=match Br with
 | .seq a _=>a
 | c=>c
noncomputable def Er:Code:=match Br with
 | .seq _ b=>b
 | _=>.skip
def jr.env(p:jr)(ps:List (ByteArray×Bool)):Env:=⟨p.M,ps,p.F.map fun f=>(f.name,f.params)⟩
structure mf(p:jr)(S w:World)(L:Nat):Prop where
 src:bV w p.s p.A p.n p.c p.l
 blk:ag w p.wb 129 #[.pointer (some ⟨p.s,0,none⟩),.slice p.GA p.gn p.gc,.slice p.MA p.mn p.mc,.slice p.FA p.fn p.fc,.int .i64 L,.bool p.ar]
 fr:Fr p.MW S w
 le:L≤24
theorem mf.wr{p:jr}(h0:fE S p eN)(h:mf p S w L):fE w p L:=
 ⟨h.src,h.blk,h0.ne,Sl.cZ h0.ms h.fr,Sl.cZ h0.fs h.fr,h0.nm,h0.nf,h0.eI,h0.ir,h.le⟩
theorem mf.next{p:jr}(h:mf p S w L)(a2:p.s<p.wb)(hs:bV ab p.s p.A p.n p.c p.l)(O:Fr (fun b=>b=p.s) w ab):mf p S ab L:=
 ⟨hs,h.blk.on O ad,h.fr.trans (O.mono fun _ h=>.inl h),h.le⟩
theorem mf.al{p:jr}(h:mf p S w L)(a2:p.s<p.wb)(O:Ext w ab):mf p S ab L:=h.next a2 (h.src.ch O fun _ _ h=>h) (O.mono fun _ h=>h.elim)
theorem mf.fresh{p:jr}(h:mf p S w L)(h0:fE S p eN)(O:Fr M w ab)(a5:∀b,M b→S.heap.size≤b):mf p S ab L:=by
 have ac:=h0.src.lt;have J:=h0.blk.lt;exact⟨h.src.ch O fun b bQ hm=>by have:=a5 b hm;omega,h.blk.on O fun hm=>by have:=a5 _ hm;omega,h.fr.eg (O.below h.fr.size fun k ap hm=>by have:=a5 k hm;omega),h.le⟩
theorem mf.Cf{p:jr}{R:Nat}(h:mf p S w L)(hw:fE ab p R)(O:Fr p.MW w ab):mf p S ab R:=⟨hw.src,hw.blk,h.fr.trans O,hw.jE⟩
def CQ(p:jr)(d:Nat)(V T:GS)(ps:List (ByteArray×Bool))(L:Nat)(w:World)(e:Ending)(ab:World):Prop:=
 ∃(ls:List ay) (R:Nat) (au:GR) (on bj:Nat),e=.returned (.slice au on bj)∧Made (p.env ps) d V T L R ls∧on≤bj∧Sl ab (fresh w ab) au on (ls.map aW)∧fE ab p R∧Fr p.MW w ab
def Ey(p:jr)(L:Nat):Prop:=∀(d f:Nat) (V T:GS) (U:GR) (aF ak:Nat) (bc:ByteArray) (ps:List (ByteArray×Bool)) (QA:GR) (ch qc:Nat) (bP:Value) (w:World),d≤2→f≤6→fE w p L→Sl w (off p.MW w) U aF (V.map D.s)→V.length+L≤60→kV T L→
 Sl w (off p.MW w) QA ch (ps.map cW)→ch≤2→Calls prog 74 #[.pointer (some ⟨p.wb,0,none⟩),.agg #[.string bc,.slice QA ch qc,bP],.slice U aF ak,.int .i64 (d:Int),.int .i64 (f:Int)] w (CQ p d V T ps L w)
def eL(p:jr)(b1 B:Nat)(d8 cp:Value)(d:Nat)(ps:List (ByteArray×Bool))(V T:GS)(ls:List ay)(N:Int)(S:World)(L:Nat)(W:World)(bc:ByteArray)(QA:GR)(ch qc:Nat)(bP:Value)(o:GR)(ba u:Nat)(au:GR)(on bj:Nat)(w:World):Prop:=∃(be:GS) (m:List ay) (st:ay) (bZ:Nat) (cs:List Value),
 mf p W w bZ∧ag w b1 140 #[.string bc,.slice QA ch qc,bP]∧jO B 9 1 175 11 w o ba u (be.map D.s) au on bj ((ls++m).map aW)∧ag w S.heap.size 175 cs.toArray∧(aW st).rep w (j2 (fun b=>B≤b∧(Value.slice o ba u).ownBlock≠some b) w (.slice au on bj)) cs∧
 ej (p.env ps) d (V++decls ls) (T++decls ls) (.ef (m++[st]))∧(∀n∈(aj.ef (m++[st])).all,∃k,bZ≤k∧k<L+1∧n=gk k)∧(aj.ef (m++[st])).num≤2*(L+1 - bZ)∧bZ≤L∧be ⊆ V++decls (ls++(m++[st]))∧be.length+bZ≤60∧on≤12000
def js(p:jr)(b1 B:Nat)(d8 cp:Value)(d:Nat)(ps:List (ByteArray×Bool))(V T:GS)(ls:List ay)(N:Int)(S:World)(L:Nat)(W:World)(bc:ByteArray)(QA:GR)(ch qc:Nat)(bP:Value)(a:Act)(w:World):Prop:=∃(o:GR) (ba u:Nat) (au:GR) (on bj:Nat) (gE E u8 gG eO g u16 s bG eP eQ eR eS eT eU eV eW eX eY eZ e3 e4 u32 e5 e6 e7 e8 e9 fa fb fd fe ff fh fi fj fk fl fm fo fp fq fr fs ft fu fv fw fx fy fz fA fB fC u64 fD fF fG fH fI fJ fK fL fM fN fO fP fQ fR fS fT fU fV fW fX fY fZ f0 f1 f2 f3 f6 f7 f8 f9 ga gb gd ge gf am aE aL aP a3 a4 a6 a7 bg bh bk bp br bs bt bz bC bL bY b0 b6 b7 ca cg ci cn cq ct cv cw cx cz cB cC cD cE cF cG cH cI cJ cK cL cM cN cO cP cQ cR cS cT cU cV cX cY cZ c5 c7 c8 c9 da db dc dd de df dg dh dj dk dl dm dn dp dq ds dt du dv dx dy dz dB dC dD dE dF dG dH dI dJ dK dL dM dO dP dQ dR dT dV dW dX dY dZ d0 d1 d2 d3 d4 d5 d6 d7 d9 ea eb ec ed ee ef eg ei ek el em en eo ep eq er es et eu ev ew ex ey ez eA eB eC eD eE eF eG eH eI eJ eK eM bi:Value),eL p b1 B d8 cp d ps V T ls N S L W bc QA ch qc bP o ba u au on bj w∧a=⟨#[.pointer (some ⟨p.wb,0,none⟩),d8,.slice o ba u,.int .i64 (d:Int),cp,gE,.pointer (some ⟨b1,0,none⟩),E,u8,gG,eO,.slice au on bj,.int .i64 N,.pointer (some ⟨S.heap.size,0,none⟩),bi,g,u16,s,bG,eP,eQ,eR,eS,eT,eU,eV,eW,eX,eY,eZ,e3,e4,u32,e5,e6,e7,e8,e9,fa,fb,fd,fe,ff,fh,fi,fj,fk,fl,fm,fo,fp,fq,fr,fs,ft,fu,fv,fw,fx,fy,fz,fA,fB,fC,u64,fD,fF,fG,fH,fI,fJ,fK,fL,fM,fN,fO,fP,fQ,fR,fS,fT,fU,fV,fW,fX,fY,fZ,f0,f1,f2,f3,f6,f7,f8,f9,ga,gb,gd,ge,gf,am,aE,aL,aP,a3,a4,a6,a7,bg,bh,bk,bp,br,bs,bt,bz,bC,bL,bY,b0,b6,b7,ca,cg,ci,cn,cq,ct,cv,cw,cx,cz,cB,cC,cD,cE,cF,cG,cH,cI,cJ,cK,cL,cM,cN,cO,cP,cQ,cR,cS,cT,cU,cV,cX,cY,cZ,c5,c7,c8,c9,da,db,dc,dd,de,df,dg,dh,dj,dk,dl,dm,dn,dp,dq,ds,dt,du,dv,dx,dy,dz,dB,dC,dD,dE,dF,dG,dH,dI,dJ,dK,dL,dM,dO,dP,dQ,dR,dT,dV,dW,dX,dY,dZ,d0,d1,d2,d3,d4,d5,d6,d7,d9,ea,eb,ec,ed,ee,ef,eg,ei,ek,el,em,en,eo,ep,eq,er,es,et,eu,ev,ew,ex,ey,ez,eA,eB,eC,eD,eE,eF,eG,eH,eI,eJ,eK,eM],[]⟩
theorem eL.simple(p:jr)(b1 B:Nat)(d8 cp:Value)(d:Nat)(ps:List (ByteArray×Bool))(V T:GS)(ls:List ay)(N:Int)(L:Nat)(W:World)(bc:ByteArray)(QA:GR)(ch qc:Nat)(bP:Value)(h0:fE S p eN)(cl:p.wb<b1)(cd:b1<B)(bR:jO B 9 1 175 11 S o ba u (be.map D.s) au on bj (ls.map aW))
  (hV:be ⊆ V++decls ls) (dS:be.length+L+1≤60) (c2:on≤10000) (aT:B≤S.heap.size) {X:World} {bZ:Nat} {st:ay} {cs:List Value} (hC:mf p S X bZ) (b8:ag X S.heap.size 175 cs.toArray) (aX:(aW st).rep X (fresh S X) cs)
  (aJ:CJ (p.env ps) d (V++decls ls) (T++decls ls) st) (y:∀n∈st.all,∃k,bZ≤k∧k<L+1∧n=gk k) (K:st.num≤2*(L+1 - bZ)) (hle:bZ≤L) (cr:Fr p.MW W S) (c1:ag S b1 140 #[.string bc,.slice QA ch qc,bP]):eL p b1 B d8 cp d ps V T ls N S L W bc QA ch qc bP o ba u au on bj X:=by
 have a2:=h0.ne;refine⟨be,[],st,bZ,cs,⟨hC.src,hC.blk,cr.trans hC.fr,hC.le⟩,c1.on hC.fr (fun h=>by rcases h with h|h<;>omega),?_,b8,?_,?_,?_,?_,hle,?_,ad,ad⟩
 ·rw[GF];exact bR.cZ hC.fr fun b O _=>by rcases O with O|O<;>omega
 ·exact D.aP (fun b O=>⟨⟨by have:=O.1;omega,fun h=>by have:=(bR.one.lt h).2;have:=O.1;omega⟩,O.2,fun h=>by have:=(bR.two.lt h).2;have:=O.1;omega⟩) _ _ aX
 ·exact qJ.2 aJ
 ·rw[GG,all_cons];intro n hn;rcases Gk.1 hn with hn|hn
  ·exact y n hn
  ·simp[aj.ef,aj.all] at hn
 ·rw[GG,m7];exact K
 ·intro x hx;have:=hV hx;exact Dg
theorem Ba{f:aG}{cs:List Value}(h:(c7 f).rep w P cs):∃(A:GR) (n c:Nat) (A2:GR) (bl c2:Nat),cs=[.string f.name,.slice A n c,.slice A2 bl c2]∧n≤c∧Sl w P A n (f.params.map cW):=by
 unfold c7 at h;rw[bw,ca] at h;obtain⟨y,rfl,h⟩:=h;obtain⟨A,n,c,bu,rfl,hc,hs,h⟩:=aJ.1 h;obtain⟨A2,bl,c2,bA,rfl,ce,bK,h⟩:=aJ.1 h;rw[aM] at h;subst h;exact⟨A,n,c,A2,bl,c2,rfl,hc,hs⟩
theorem jQ:b0 prog 138 175 (.agg #[.int .i64 0,.string ⟨#[]⟩,.int .i64 0,.int .i64 0,.string ⟨#[]⟩,.slice none 0 0,.string ⟨#[]⟩,.slice none 0 0,.slice none 0 0,.slice none 0 0,.slice none 0 0]) 11 192:=b0.mk' Tryz.underlying138 (by kernel_rfl) rfl ad
theorem uC{G:Env}{d:Nat}{ab T:GS}{r:d2}{v:List ay}(aX:pN G be r)(hV:be ⊆ ab)(ac:ej G 0 be T (.ef v)):ej G d ab T (.ef ((.lock false r::v)++[.lock true r])):=by
 rw[Gs,lG];refine⟨iN hV aX,?_⟩;simp only[ay.decl,GF];exact qI.2 ⟨cP _ 0 d be _ _ _ hV (fun _ _ h=>h) (Gz _) ac,qJ.2 (iN (fun x hx=>Gk.2 (.inl (hV hx))) aX)⟩
theorem aO{P:Program}{ops:Array Oper}{Q:Exit→Act→World→Prop}{R:World→World→Prop}{tails:List Nat}{rest:PT}{a:Act}{W:World}(C:World→Prop)(hC:C W)(h:∀V,C V→cN P ops Q R tails rest a V):cN P ops Q R tails rest a W:=h W hC
structure oS(p:jr)(S wr:World)(L:Nat)(cs:Array Value)(V:World):Prop where
 c:mf p S V L
 s:ag V S.heap.size 175 cs
 f:Fr (fun b=>b=p.s∨b=S.heap.size) wr V
theorem oS.al{p:jr}{S wr V ab:World}{L:Nat}{cs:Array Value}(h:oS p S wr L cs V)(a2:p.s<p.wb)(O:Ext V ab):oS p S wr L cs ab:=⟨h.c.al a2 O,h.s.al O,h.f.trans (O.mono fun _ h=>h.elim)⟩
theorem oS.call{p:jr}{wr V:World}{cs:Array Value}(h:oS p S wr L cs V)(a2:p.s<p.wb)(dX:p.s<S.heap.size)(hs:bV ab p.s p.A p.n p.c p.l)(O:Fr (fun b=>b=p.s) V ab):oS p S wr L cs ab:=⟨h.c.next a2 hs O,h.s.on O ad,h.f.trans (O.mono fun _ h=>.inl h)⟩
theorem oS.aH{p:jr}{S wr V:World}{L eN:Nat}{cs:Array Value}(h:oS p S wr L cs V)(h0:fE S p eN)(i:Nat)(v:Value):oS p S wr L (cs.setIfInBounds i v) (V.setCell ⟨S.heap.size,i,none⟩ v):=
 ⟨h.c.fresh (M:=fun b=>b=S.heap.size) h0 ((Fr.refl (fun b=>b=S.heap.size) V).setCell (.inl rfl) _) (fun b O=>ad),h.s.aH i v,h.f.setCell (.inl (.inr rfl)) _⟩
theorem k0(V:World)(g:Nat)(v1 v2:Int)(h0:V.cell? ⟨g,0,none⟩=some (.int .u8 v1))(ac:V.cell? ⟨g,1,none⟩=some (.int .u8 v2)) :
  (convert 131 9 (.slice (some ⟨g,0,none⟩) 2 2)).run prog V=.ok (.string (strOf [byteOf v1,byteOf v2])) V:=by
 have:=run_convert_bytes_arg (P:=prog) V 131 5 Tryz.underlying131 Tryz.underlying5 g 0 2 2 [v1,v2] rfl (fun i aJ=>by
  obtain rfl|rfl:i=0∨i=1:=ad
  ·exact h0
  ·exact ac) 9 Tryz.underlying9
 rw[this];rfl
theorem rY{t I:Int}(ca:L≤24)(ac:IntKind.u8.wrap (IntKind.i64.wrap (97+(L:Int)))=t)(J:IntKind.u8.wrap (IntKind.i64.wrap (97+Int.tmod (IntKind.i64.wrap 0) 26))=I):(⟨#[118]⟩++strOf [byteOf t,byteOf I]:ByteArray)=gk L:=by
 subst ac J;have h:∀k:Fin 25,(⟨#[118]⟩++strOf [byteOf (IntKind.u8.wrap (IntKind.i64.wrap (97+((k.val:Nat):Int)))),byteOf (IntKind.u8.wrap (IntKind.i64.wrap (97+Int.tmod (IntKind.i64.wrap 0) 26)))]:ByteArray)=gk k.val:=by decide
 exact h ⟨L,ad⟩
theorem rU{w:World}{P Q:Nat→Prop}:∀{l:GS} {xs:List Value},D.aL w P (l.map D.s) xs→D.aL w Q (l.map D.s) xs
 | [],xs,h=>by simpa only[GC,D.aL] using h
 | e::l,xs,h=>by
  rw[Gh] at h ⊢;obtain⟨y,rfl,a3⟩:=ca.1 h;exact ca.2 ⟨y,rfl,rU a3⟩
theorem Gr.strs{Q:Nat→Prop}{e:TypeId}{A:GR}{n c:Nat}{l:GS}(h:Gr P B e 1 w A n c (l.map D.s)):Gr Q B e 1 w A n c (l.map D.s):=by
 obtain⟨hl,xs,ac,J⟩:=h;exact⟨hl,xs,ac,rU J⟩
theorem nV(s:ay):(aW s).sz=11:=by
 cases s<;>simp[aW,fL,D.sz,D.vM,cS,iO,ff,jB]
theorem im:iO.rep w P [.int .i64 0,.int .i64 0,.string ⟨#[]⟩,.slice none 0 0]:=eA.2 ⟨none,0,rfl⟩
theorem i7:ff.rep w P [.string ⟨#[]⟩,.slice none 0 0]:=by
 exact wh
theorem de{k:Int}{nm:ByteArray}{e r:D}{aO th el:List D}{e0 e1 e2 e3 bx fg:Value}{cC A2 cl:GR}{n1 bl cn c1 c2 c3:Nat}(he:e.rep w P [e0,e1,e2,e3])(aX:r.rep w P [bx,fg])(ac:Sl w P cC n1 aO)(ar:n1≤c1)(J:Sl w P A2 bl th)(dd:bl≤c2)(aS:Sl w P cl cn el)(a3:cn≤c3):
  (fL k nm e r aO th el).rep w P [.int .i64 k,.string nm,e0,e1,e2,e3,bx,fg,.slice cC n1 c1,.slice A2 bl c2,.slice cl cn c3]:=by
 unfold fL;rw[bw];exact a9.2 ⟨_,rfl,ca.2 ⟨_,rfl,fY.2 ⟨[e0,e1,e2,e3],_,rfl,he,fY.2 ⟨[bx,fg],_,rfl,aX,aJ.2 ⟨cC,n1,c1,_,rfl,ar,ac,aJ.2 ⟨A2,bl,c2,_,rfl,dd,J,aJ.2 ⟨cl,cn,c3,[],rfl,a3,aS,aM.2 rfl⟩⟩⟩⟩⟩⟩⟩
theorem jO.names{l:List D}{e1 e2:TypeId}{aR:Nat}(h:jO B e1 1 e2 aR w o ba u (be.map D.s) au on bj l)(a5:∀b,M b→b<B):Sl w (off M w) o ba (be.map D.s):=
 h.one.sl (fun b O hp=>⟨O,fun hm=>by have:=a5 b hm;have:=hp.1;omega⟩) (fun b O hp=>⟨O,fun hm=>by have:=a5 b hm;omega⟩)
def SK(k:Int)(d ba:Nat):Prop:=∀(p:jr) (b1 B:Nat) (d8 cp:Value) (ps:List (ByteArray×Bool)) (V T:GS) (ls:List ay) (N:Int) (S:World) (L:Nat) (W:World) (bc:ByteArray) (QA:GR) (ch qc:Nat) (bP:Value) (be:GS) (o:GR) (u:Nat) (au:GR) (on bj:Nat) (eN:Nat) (h0:fE S p eN) (cl:p.wb<b1) (cd:b1<B) (aT:B≤S.heap.size) (c1:ag S b1 140 #[.string bc,.slice QA ch qc,bP]) (bi:Sl S (off p.MW S) QA ch (ps.map cW)) (bu:ch≤2) (bR:jO B 9 1 175 11 S o ba u (be.map D.s) au on bj (ls.map aW)) (wr:World) (hC:mf p S wr L) (b8:ag wr S.heap.size 175 #[.int .i64 5,.string ⟨#[]⟩,.int .i64 0,.int .i64 0,.string ⟨#[]⟩,.slice none 0 0,.string ⟨#[]⟩,.slice none 0 0,.slice none 0 0,.slice none 0 0,.slice none 0 0]) (hV:be ⊆ V++decls ls) (dS:be.length+L+1≤60) (bX:kV (T++decls ls) (L+1)) (c2:on≤10000) (bB:d≤2) (dw:∀R,R≤L→Ey p R) (bM:Nat) (bW:fE W p bM) (co:Sl W (off p.MW W) QA ch (ps.map cW)) (cr:Fr p.MW W S) (ej:W.heap.size≤b1)
  (Q:Exit→Act→World→Prop) (hQ0:∀c a d v w,Q (.panic c) (a.put d v) w→Q (.panic c) a w) (cj:∀a w,js p b1 B d8 cp d ps V T ls N S L W bc QA ch qc bP a w→Q .normal a w) (K:Act→World→Prop) (hK:∀a w,Code.wp prog Er Q a w→K a w)
  {gE E u8 gG eO g u16 s bG eP eQ eR eS eT eU eV eW eX eY eZ e3 e4 u32 e5 e6 e7 e8 e9 fa fb fd fe ff fh fi fj fk fl fm fo fp fq fr fs ft fu fv fw fx fy fz fA fB fC u64 fD fF fG fH fI fJ fK fL fM fN fO fP fQ fR fS fT fU fV fW fX fY fZ f0 f1 f2 f3 f6 f7 f8 f9 ga gb gd ge gf am aE aL aP a3 a4 a6 a7 bg bh bk bp br bs bt bz bC bL bY b0 b6 b7 ca cg ci cn cq ct cv cw cx cz cB cC cD cE cF cG cH cI cJ cK cL cM cN cO cP cQ cR cS cT cU cV cX cY cZ c5 c7 c8 c9 da db dc dd de df dg dh dj dk dl dm dn dp dq ds dt du dv dx dy dz dB dC dD dE dF dG dH dI dJ dK dL dM dO dP dQ dR dT dV dW dX dY dZ d0 d1 d2 d3 d4 d5 d6 d7 d9 ea eb ec ed ee ef eg ei ek el em en eo ep eq er es et eu ev ew ex ey ez eA eB eC eD eE eF eG eH eI eJ eK eM:Value},
  Code.wp prog En (Exit.then K Q) ⟨#[.pointer (some ⟨p.wb,0,none⟩),d8,.slice o ba u,.int .i64 (d:Int),cp,gE,.pointer (some ⟨b1,0,none⟩),E,u8,gG,eO,.slice au on bj,.int .i64 N,.pointer (some ⟨S.heap.size,0,none⟩),(.int .i64 k),g,u16,s,bG,eP,eQ,eR,eS,eT,eU,eV,eW,eX,eY,eZ,e3,e4,u32,e5,e6,e7,e8,e9,fa,fb,fd,fe,ff,fh,fi,fj,fk,fl,fm,fo,fp,fq,fr,fs,ft,fu,fv,fw,fx,fy,fz,fA,fB,fC,u64,fD,fF,fG,fH,fI,fJ,fK,fL,fM,fN,fO,fP,fQ,fR,fS,fT,fU,fV,fW,fX,fY,fZ,f0,f1,f2,f3,f6,f7,f8,f9,ga,gb,gd,ge,gf,am,aE,aL,aP,a3,a4,a6,a7,bg,bh,bk,bp,br,bs,bt,bz,bC,bL,bY,b0,b6,b7,ca,cg,ci,cn,cq,ct,cv,cw,cx,cz,cB,cC,cD,cE,cF,cG,cH,cI,cJ,cK,cL,cM,cN,cO,cP,cQ,cR,cS,cT,cU,cV,cX,cY,cZ,c5,c7,c8,c9,da,db,dc,dd,de,df,dg,dh,dj,dk,dl,dm,dn,dp,dq,ds,dt,du,dv,dx,dy,dz,dB,dC,dD,dE,dF,dG,dH,dI,dJ,dK,dL,dM,dO,dP,dQ,dR,dT,dV,dW,dX,dY,dZ,d0,d1,d2,d3,d4,d5,d6,d7,d9,ea,eb,ec,ed,ee,ef,eg,ei,ek,el,em,en,eo,ep,eq,er,es,et,eu,ev,ew,ex,ey,ez,eA,eB,eC,eD,eE,eF,eG,eH,eI,eJ,eK,eM],[]⟩ wr
namespace yB
theorem ku(h:p:=by
 exact eL.simple (st:=.lock false r) ⟨s,wb,bN,bG,bq,sl,GA,gn,gc,MA,mn,mc,FA,fn,fc,M,F,ar⟩ b1 B d8 cp d ps V T ls N L W bc QA ch qc bP aF.1 cl cd aF.2.2.2.1 cg.1 dS c2 aT (U.fresh aF.1 aw fun b O=>ad) bk
  (de im (fR.2 ⟨IA,i,ic,rfl,Z,(aa.ao fun b O=>aw.block b O.2 (aB O.1)).mono fun b O=>⟨by have:=O.1;omega,by have:=O.2;omega⟩⟩) (Sl.bu _) (Gb _) (Sl.bu _) (Gb _) (Sl.bu _) (Gb _)) (iN cg.1 (aJ _)) (fun n hn=>by simp[ay.all] at hn) (by simp only[ay.num];omega) (Gb _) bd.2.2 aF.2.1
 ):p:=h
theorem w7(h:p:=by
 have aw:Fr (fun b=>b=S.heap.size) aQ X:=ah▸((Fr.refl (fun b=>b=S.heap.size) aQ).setCell (.inl rfl) _).setCell (.inl rfl) _;have bk:ag X S.heap.size 175 #[.int .i64 5,.string ⟨#[]⟩,.int .i64 0,.int .i64 0,.string ⟨#[]⟩,.slice none 0 0,.string r.name,.slice IA i ic,.slice none 0 0,.slice none 0 0,.slice none 0 0]:=ah▸(aZ.2.1.aH 6 _).aH 7 _;exact x3
 ):p:=h
theorem gx(h:p:=by
 have cc:decide (k<4)=true:=by simpa using ap
 exact w6
 ):p:=h
end yB
open yB in
theorem CF(k:Int)(d ba:Nat)(ap:k<4):SK k d ba:=by
 exact gw
namespace yC
theorem ku(h:p:=by
 exact eL.simple (st:=.lock true r) ⟨s,wb,bN,bG,bq,sl,GA,gn,gc,MA,mn,mc,FA,fn,fc,M,F,ar⟩ b1 B d8 cp d ps V T ls N L W bc QA ch qc bP aF.1 cl cd aF.2.2.2.1 cg.1 dS c2 aT (U.fresh aF.1 aw fun b O=>ad) bk
  (de im (fR.2 ⟨IA,i,ic,rfl,Z,(aa.ao fun b O=>aw.block b O.2 (aB O.1)).mono fun b O=>⟨by have:=O.1;omega,by have:=O.2;omega⟩⟩) (Sl.bu _) (Gb _) (Sl.bu _) (Gb _) (Sl.bu _) (Gb _)) (iN cg.1 (aJ _)) (fun n hn=>by simp[ay.all] at hn) (by simp only[ay.num];omega) (Gb _) bd.2.2 aF.2.1
 ):p:=h
theorem w7(h:p:=by
 have aw:Fr (fun b=>b=S.heap.size) aQ X:=ah▸(((Fr.refl (fun b=>b=S.heap.size) aQ).setCell (.inl rfl) _).setCell (.inl rfl) _).setCell (.inl rfl) _;have bk:ag X S.heap.size 175 #[.int .i64 6,.string ⟨#[]⟩,.int .i64 0,.int .i64 0,.string ⟨#[]⟩,.slice none 0 0,.string r.name,.slice IA i ic,.slice none 0 0,.slice none 0 0,.slice none 0 0]:=ah▸((aZ.2.1.aH 0 _).aH 6 _).aH 7 _;exact x3
 ):p:=h
theorem gx(h:p:=by
 have cc:decide (k<4)=false:=by simpa using ap
 have aR:decide (k<7)=true:=by simpa using az
 exact w6
 ):p:=h
end yC
open yC in
theorem CG(k:Int)(d ba:Nat)(ap:¬k<4)(az:k<7):SK k d ba:=by
 exact gw
namespace yD
theorem gz(h:p:=by
 refine bU ?_;generalize ah:World.setCell _ _ _=X;have aw:Fr (fun b=>b=S.heap.size) cS X:=ah▸(Fr.refl (fun b=>b=S.heap.size) cS).setCell (.inl rfl) _;have bz:ag X S.heap.size 175 #[.int .i64 1,.string (gk L),.int .i64 z.aU,.int .i64 z.numOf,.string z.aZ,.slice bQ aJ zc,.string ⟨#[]⟩,.slice none 0 0,.slice none 0 0,.slice none 0 0,.slice none 0 0]:=by
  have ac:=a9.s.aH 1 (.string (⟨#[118]⟩++strOf [byteOf t,byteOf I]));rw[rY ad aZ.1 aZ.2] at ac;rw[←ah]
  try rw[rY ad aZ.1 aZ.2]
  exact ac
 have ab:=a9.c.fresh aF.1 aw fun b O=>ad;have br:Sl X (fun b=>S.heap.size<b∧b<X.heap.size) bQ aJ (z.args.map a4):=(cV.ao fun b O=>aw.block b O.2 (aB O.1)).mono fun b O=>⟨O.1,Gc O.2 aw.size⟩
 have j:∀b,(Value.slice o ba u).ownBlock=some b→B≤b∧b<S.heap.size:=fun b O=>aF.2.2.2.1.one.lt O;have a8:Gr (fun _=>False) B 9 1 X o ba u (be.map D.s):=((Gr.strs (Q:=fun _=>False) aF.2.2.2.1.one).cZ a9.c.fr fun b O hl=>⟨fun h=>h,aF.2.2.2.2.2 b O⟩).cz aw.size fun b ao hp=>aw.block b ao (hp.elim (fun h=>h.elim) fun hp=>by have:=j b hp;omega);have aU:=gK bz ab br a8 bv bV aw.size;have cO:=ae j;have cL:S.heap.size<X.heap.size:=bz.lt;have cf:B≤X.heap.size:=ad;clear ah aw bz ab br a8 j bv bV a9 cV a6 aL aP;obtain⟨a6,aL,aP⟩:=aU.1.two;go_wp2_with (at_builtin;refine bS jt rfl (.tmp 114) (.tmp 117) rfl aU.2.2.2.1 (rI.2 rfl) rfl rfl rfl ad ad cf ?_;intro bL cM cJ an aq b3 ce;have bK:=aK an aq b3;clear an aq b3 ce);obtain⟨bm,aA,bI⟩:=bK.o;obtain⟨bz,ab,br,a8,bv,bV,cQ⟩:=aU.o;have j:=cO.o;have m:∀b,(Value.slice au on bj).ownBlock=some b→B≤b∧b<S.heap.size:=fun b O=>aF.2.2.2.1.two.lt O;have ax:=aF.2.2.2.1.ne;have aD:∀b,(Value.slice bL (ba+1) cM).ownBlock=some b→(b<S.heap.size∧(Value.slice o ba u).ownBlock=some b)∨X.heap.size≤b:=fun b O=>(bI b O).imp (fun h=>⟨(j b h).2,h⟩) id;have bf:¬(Value.slice o ba u).ownBlock=some S.heap.size:=fun h=>by have:=(j _ h).2;omega
 have cT:=aA.size;have cn:L≤24:=ab.le
 try refine cj _ _ ?_
 unfold js;refine⟨bL,ba+1,cM,au,on,bj,?_⟩
 iterate 240 apply Exists.intro
 refine⟨?_,rfl⟩;refine⟨be++[gk L],[],.set true (gk L) z,L,_,(mf.mk ab.src ab.blk (bd.2.2.trans ab.fr) ab.le).fresh bd.1 aA (fun b O=>by have:=(j b O).1;omega),(aF.2.1.on ab.fr (fun h=>by rcases h with h|h<;>(simp only at h;omega))).on aA (fun h=>by have:=(j _ h).1;omega),⟨?_,?_,fun b O h=>?_⟩,bz.on aA bf,?_,?_,?_,?_,Gb _,?_,by simp;omega,ad⟩
 ·rw[Gi,Gh,GC];have:=Gr.strs (l:=be++[gk L]) (Q:=fun b=>B≤b∧(Value.slice au on bj).ownBlock≠some b) (by rw[Gi,Gh,GC];exact bm)
  rwa [Gi,Gh,GC] at this
 ·rw[GF];have ac:Gr (fun b=>(B≤b∧(Value.slice o ba u).ownBlock≠some b)∧b<S.heap.size) B 175 11 S au on bj (ls.map aW):=aF.2.2.2.1.two.mono fun b O hp=>⟨hp,O⟩
  have J:=ac.cZ ab.fr fun b O hl=>⟨fun h=>by have:=aF.2.2.2.2.2 b O;have:=h.1.1;omega,aF.2.2.2.2.2 b O⟩
  have aS:=J.cz aA.size fun b ao hp=>aA.block b ao (fun bC=>hp.elim (fun h=>h.1.2 bC) (fun h=>ax b bC h));exact aS.mono fun b _ hp=>⟨hp.1.1,fun h=>by
   rcases aD b h with bo|bo
   ·exact hp.1.2 bo.2
   ·have:=hp.2;omega⟩
 ·rcases aD b O with bo|bo
  ·exact ax b bo.2 h
  ·have:=(m b h).2;omega
 ·refine de (aV.2 ⟨bQ,aJ,zc,rfl,bV,?_⟩) i7 (Sl.bu _) (Gb _) (Sl.bu _) (Gb _) (Sl.bu _) (Gb _);refine(br.ao fun b O=>aA.block b O.2 fun h=>by have:=(j b h).2;have:=O.1;omega).mono fun b O=>⟨⟨by have:=O.1;omega,fun h=>?_⟩,by have:=O.2;omega,fun h=>by have:=(m b h).2;have:=O.1;omega⟩
  have ac:=O.1;have J:=O.2;rcases aD b h with bo|bo<;>omega
 ·exact qJ.2 ⟨Bx ad,cg.2.1 L ad,dv cg.1 2 z bv⟩
 ·intro n hn;rw[GG,all_cons] at hn;simp only[ay.all,aj.ef,aj.all,GF,GH] at hn;exact⟨L,Gb _,ad,hn⟩
 ·rw[GG,m7];simp only[ay.num];omega
 ·intro y a3;rw[GG,pb,←Gq];rcases Gk.1 a3 with a3|a3
  ·exact Gk.2 (.inl (cg.1 a3))
  ·simp only[GH] at a3;subst a3;exact Gk.2 (.inr (by simp[decls,ay.decl]))
 ):p:=h
theorem gx(h:p:=by
 have cB:L≤24:=bs.1.le;have gJ:¬(wb=s∨wb=S.heap.size):=ad;have cU:S.heap.size<wr.heap.size:=bs.2.2.lt;have cI:Int.tmod (L:Int) 26=(L:Int):=Int.tmod_eq_of_lt ad ad;have aC:Int.tdiv (L:Int) 26=0:=Int.tdiv_eq_zero_of_lt ad ad;go_upto_region 19 with(fail);refine o2 (fun b=>b=s∨b=S.heap.size) [26] (.free 0 (.free 1 (.free 3 (.free 4 (.free 5 (.held 6 (.free 7 (.free 8 (.free 9 (.free 10 (.free 11 (.free 12 (.held 13 (.free 14 (.free 15 (.free 16 (.free 17 (.free 21 (.pick [2,18] (fun i=>bif i == 2 then .pick [18,22] (fun i=>bif i == 18 then .held 19 (.free 20 (.pick [22] (fun _=>.free 23 (.pick [24] (fun _=>.free 25 (.pick [26] (fun _=>.stop))))))) else .free 23 (.pick [18,24] (fun i=>bif i == 18 then .held 19 (.free 20 (.pick [24] (fun _=>.free 25 (.pick [26] (fun _=>.stop))))) else .pick [18] (fun _=>.held 19 (.free 20 (.free 25 (.pick [26] (fun _=>.stop)))))))) else .held 19 (.free 20 (.pick [2] (fun _=>.pick [22] (fun _=>.free 23 (.pick [24] (fun _=>.free 25 (.pick [26] (fun _=>.stop)))))))))))))))))))))))))))) ?_
 iterate 5 refine tf ?_
 refine mE ?_
 iterate 6 refine tf ?_
 refine mE ?_
 iterate 5 refine tf ?_
 have H:GU (oS ⟨s,wb,bN,bG,bq,sl,GA,gn,gc,MA,mn,mc,FA,fn,fc,M,F,ar⟩ S wr L #[.int .i64 5,.string ⟨#[]⟩,.int .i64 0,.int .i64 0,.string ⟨#[]⟩,.slice none 0 0,.string ⟨#[]⟩,.slice none 0 0,.slice none 0 0,.slice none 0 0,.slice none 0 0] wr):=ae ⟨bs.1,bs.2.2,GN⟩;clear a0 al af a7 am aE a6 aL aP;generalize bZ:IntKind.u8.wrap (IntKind.i64.wrap (97+(L:Int)))=t;generalize b5:IntKind.u8.wrap (IntKind.i64.wrap (97+Int.tmod (IntKind.i64.wrap 0) 26))=I;have aZ:=ai bZ b5;clear bZ b5;have b7:(strOf [byteOf t,byteOf I]).size=2:=aI _;refine oJ (P:=?mM) (ops:=?gQ) (Q:=?gR) (R:=?gS) (tails:=?gT) (rest:=.free 25 (.pick [26] (fun _=>.stop))) (aa:=?gP)
  (C:=fun(a1:Nat) (Y:Value) bF=>∃(z:VE) (bQ:GR) (aJ zc:Nat),Y=.agg #[.int .i64 z.aU,.int .i64 z.numOf,.string z.aZ,.slice bQ aJ zc]∧oS ⟨s,wb,bN,bG,bq,sl,GA,gn,gc,MA,mn,mc,FA,fn,fc,M,F,ar⟩ S wr L #[.int .i64 1,.string ⟨#[]⟩,.int .i64 z.aU,.int .i64 z.numOf,.string z.aZ,.slice bQ aJ zc,.string ⟨#[]⟩,.slice none 0 0,.slice none 0 0,.slice none 0 0,.slice none 0 0] bF∧Sl bF (fun b=>S.heap.size<b∧b<bF.heap.size) bQ aJ (z.args.map a4)∧z.src be 2∧aJ≤zc) (fun key=>?gh) ?gg
 case gh=>
  refine aR ?_ ?_
  ·
   refine az rfl (fun K hK=>?_) rfl;go_simp;refine(iM ⟨s,wb,bN,bG,bq,sl,GA,gn,gc,MA,mn,mc,FA,fn,fc,M,F,ar⟩ L be o ba u _ ((H.c.al a2 (GN.drew)).wr aF.1) ((Sl.cZ aF.2.2.2.2.1 (H.c.al a2 (GN.drew)).fr).mono fun b O=>⟨O.1,fun h=>O.2 (.inl h)⟩) ad).mono ?_;rintro e v1 ⟨x,b4,b2,cu,rfl,hx,aG,bh,h,he⟩
   try simp only at h he
   have bk:Fr (fun b=>b=s) wr v1:=Fr.aE he;have Z:=ae (H.call a2 b0 h bk);have aU:=ai hx aG;have bD:=ae ((bh.mono fun b O=>(⟨by have:=H.s.lt;have:=O.1;have:wr.drew.heap.size=wr.heap.size:=rfl;omega,O.2⟩:S.heap.size<b∧b<v1.heap.size)));refine hK _ _ (he.mono fun _ h=>.inl h) ?_;clear hK K
   try simp only[PU]
   clear hx aG bh h he bk;refine aR ?_ ?_
   ·
    refine dU ?_;refine aO (fun V=>Ext v1 V∧ag V v1.heap.size 5 #[.int .u8 t,.int .u8 I]) ⟨GN.alloc _,GO⟩ (fun v2 hV=>?_);have bH:=ae (Z.al a2 hV.1);have bw:=ae hV.2;have dj:S.heap.size<v1.heap.size:=Z.s.lt;have cw:=ae ((bD.ao fun b O=>hV.1.block b O.2 fun h=>h).mono fun b O=>(⟨O.1,Gc O.2 hV.1.size⟩:S.heap.size<b∧b<v2.heap.size));clear hV;obtain⟨e0,bl,a5⟩:=bw.two;refine bx (v:=?_) rfl (by rfl) (fun V hV=>?_) ?_;rotate_left
    ·have bJ:=k0 V v1.heap.size t I ((hV.cell a5 ad).trans (e0 0)) ((hV.cell a5 ad).trans (e0 1))
     (go_simp<;>with_reducible rfl)
    try simp only[PU]
    clear e0 bl a5;refine tf ?_;refine ak ?_;obtain⟨a6,aL,aP⟩:=bH.s.two;refine az rfl (fun K hK=>?_) rfl;go_simp;refine hK _ _ (GN.setCell (.inl (.inr rfl)) _) ?_;clear hK K
    try simp only[PU]
    refine aO (fun V=>oS ⟨s,wb,bN,bG,bq,sl,GA,gn,gc,MA,mn,mc,FA,fn,fc,M,F,ar⟩ S wr L #[.int .i64 1,.string ⟨#[]⟩,.int .i64 0,.int .i64 0,.string ⟨#[]⟩,.slice none 0 0,.string ⟨#[]⟩,.slice none 0 0,.slice none 0 0,.slice none 0 0,.slice none 0 0] V∧Fr (fun b=>b=S.heap.size) v2 V) ⟨by exact bH.aH aF.1 0 _,by exact(Fr.refl (fun b=>b=S.heap.size) v2).setCell (.inl rfl) _⟩ (fun r hV=>?_);have bO:=ae hV.1;have cx:=ae ((cw.ao fun b O=>hV.2.block b O.2 (aB O.1)).mono fun b O=>(⟨O.1,Gc O.2 hV.2.size⟩:S.heap.size<b∧b<r.heap.size));have ct:=ae (bw.on hV.2 ad);clear hV a6 aL aP;refine tf ?_;refine ak ?_;obtain⟨a6,aL,aP⟩:=bO.s.two;refine az rfl (fun K hK=>?_) rfl;go_simp;refine hK _ _ ((((GN.setCell (.inl (.inr rfl)) _).setCell (.inl (.inr rfl)) _).setCell (.inl (.inr rfl)) _).setCell (.inl (.inr rfl)) _) ?_;clear hK K
    try simp only[PU]
    refine aO (fun V=>oS ⟨s,wb,bN,bG,bq,sl,GA,gn,gc,MA,mn,mc,FA,fn,fc,M,F,ar⟩ S wr L #[.int .i64 1,.string ⟨#[]⟩,.int .i64 x.aU,.int .i64 x.numOf,.string x.aZ,.slice b4 b2 cu,.string ⟨#[]⟩,.slice none 0 0,.slice none 0 0,.slice none 0 0,.slice none 0 0] V∧Fr (fun b=>b=S.heap.size) r V) ⟨by exact(((bO.aH aF.1 2 _).aH aF.1 3 _).aH aF.1 4 _).aH aF.1 5 _,by exact((((Fr.refl (fun b=>b=S.heap.size) r).setCell (.inl rfl) _).setCell (.inl rfl) _).setCell (.inl rfl) _).setCell (.inl rfl) _⟩ (fun v4 hV=>?_);have cF:=ae hV.1;have cy:=ae ((cx.ao fun b O=>hV.2.block b O.2 (aB O.1)).mono fun b O=>(⟨O.1,Gc O.2 hV.2.size⟩:S.heap.size<b∧b<v4.heap.size));have cP:=ae (ct.on hV.2 ad);clear hV a6 aL aP;have av:=And.intro cF.o (And.intro cy.o aU.o);have bn:∃(z:VE) (bQ:GR) (aJ zc:Nat),(Value.agg #[.int .i64 x.aU,.int .i64 x.numOf,.string x.aZ,.slice b4 b2 cu])=.agg #[.int .i64 z.aU,.int .i64 z.numOf,.string z.aZ,.slice bQ aJ zc]∧oS ⟨s,wb,bN,bG,bq,sl,GA,gn,gc,MA,mn,mc,FA,fn,fc,M,F,ar⟩ S wr L #[.int .i64 1,.string ⟨#[]⟩,.int .i64 z.aU,.int .i64 z.numOf,.string z.aZ,.slice bQ aJ zc,.string ⟨#[]⟩,.slice none 0 0,.slice none 0 0,.slice none 0 0,.slice none 0 0] v4∧Sl v4 (fun b=>S.heap.size<b∧b<v4.heap.size) bQ aJ (z.args.map a4)∧z.src be 2∧aJ≤zc:=⟨x,b4,b2,cu,rfl,av⟩
    revert bn;generalize v1.heap.size=a1;exact ug
   ·
    obtain⟨a6,aL,aP⟩:=Z.s.two;refine az rfl (fun K hK=>?_) rfl;go_simp;refine hK _ _ (GN.setCell (.inl (.inr rfl)) _) ?_;clear hK K
    try simp only[PU]
    refine aO (fun V=>oS ⟨s,wb,bN,bG,bq,sl,GA,gn,gc,MA,mn,mc,FA,fn,fc,M,F,ar⟩ S wr L #[.int .i64 1,.string ⟨#[]⟩,.int .i64 0,.int .i64 0,.string ⟨#[]⟩,.slice none 0 0,.string ⟨#[]⟩,.slice none 0 0,.slice none 0 0,.slice none 0 0,.slice none 0 0] V∧Fr (fun b=>b=S.heap.size) v1 V) ⟨by exact Z.aH aF.1 0 _,by exact(Fr.refl (fun b=>b=S.heap.size) v1).setCell (.inl rfl) _⟩ (fun aN hV=>?_);have ap:=ae hV.1;have bE:=ae ((bD.ao fun b O=>hV.2.block b O.2 (aB O.1)).mono fun b O=>(⟨O.1,Gc O.2 hV.2.size⟩:S.heap.size<b∧b<aN.heap.size));clear hV a6 aL aP;refine tf ?_;refine aR ?_ ?_
    ·
     refine dU ?_;refine aO (fun V=>Ext aN V∧ag V aN.heap.size 5 #[.int .u8 t,.int .u8 I]) ⟨GN.alloc _,GO⟩ (fun v6 hV=>?_);have bT:=ae (ap.al a2 hV.1);have bA:=ae hV.2;have dj:S.heap.size<aN.heap.size:=ap.s.lt;have cA:=ae ((bE.ao fun b O=>hV.1.block b O.2 fun h=>h).mono fun b O=>(⟨O.1,Gc O.2 hV.1.size⟩:S.heap.size<b∧b<v6.heap.size));clear hV;obtain⟨e0,bl,a5⟩:=bA.two;refine bx (v:=?_) rfl (by rfl) (fun V hV=>?_) ?_;rotate_left
     ·have bJ:=k0 V aN.heap.size t I ((hV.cell a5 ad).trans (e0 0)) ((hV.cell a5 ad).trans (e0 1))
      (go_simp<;>with_reducible rfl)
     try simp only[PU]
     clear e0 bl a5;refine tf ?_;refine ak ?_;obtain⟨a6,aL,aP⟩:=bT.s.two;refine az rfl (fun K hK=>?_) rfl;go_simp;refine hK _ _ ((((GN.setCell (.inl (.inr rfl)) _).setCell (.inl (.inr rfl)) _).setCell (.inl (.inr rfl)) _).setCell (.inl (.inr rfl)) _) ?_;clear hK K
     try simp only[PU]
     refine aO (fun V=>oS ⟨s,wb,bN,bG,bq,sl,GA,gn,gc,MA,mn,mc,FA,fn,fc,M,F,ar⟩ S wr L #[.int .i64 1,.string ⟨#[]⟩,.int .i64 x.aU,.int .i64 x.numOf,.string x.aZ,.slice b4 b2 cu,.string ⟨#[]⟩,.slice none 0 0,.slice none 0 0,.slice none 0 0,.slice none 0 0] V∧Fr (fun b=>b=S.heap.size) v6 V) ⟨by exact(((bT.aH aF.1 2 _).aH aF.1 3 _).aH aF.1 4 _).aH aF.1 5 _,by exact((((Fr.refl (fun b=>b=S.heap.size) v6).setCell (.inl rfl) _).setCell (.inl rfl) _).setCell (.inl rfl) _).setCell (.inl rfl) _⟩ (fun bb hV=>?_);have cG:=ae hV.1;have cC:=ae ((cA.ao fun b O=>hV.2.block b O.2 (aB O.1)).mono fun b O=>(⟨O.1,Gc O.2 hV.2.size⟩:S.heap.size<b∧b<bb.heap.size));have cR:=ae (bA.on hV.2 ad);clear hV a6 aL aP;have av:=And.intro cG.o (And.intro cC.o aU.o);have bn:∃(z:VE) (bQ:GR) (aJ zc:Nat),(Value.agg #[.int .i64 x.aU,.int .i64 x.numOf,.string x.aZ,.slice b4 b2 cu])=.agg #[.int .i64 z.aU,.int .i64 z.numOf,.string z.aZ,.slice bQ aJ zc]∧oS ⟨s,wb,bN,bG,bq,sl,GA,gn,gc,MA,mn,mc,FA,fn,fc,M,F,ar⟩ S wr L #[.int .i64 1,.string ⟨#[]⟩,.int .i64 z.aU,.int .i64 z.numOf,.string z.aZ,.slice bQ aJ zc,.string ⟨#[]⟩,.slice none 0 0,.slice none 0 0,.slice none 0 0,.slice none 0 0] bb∧Sl bb (fun b=>S.heap.size<b∧b<bb.heap.size) bQ aJ (z.args.map a4)∧z.src be 2∧aJ≤zc:=⟨x,b4,b2,cu,rfl,av⟩
     revert bn;generalize aN.heap.size=a1;exact ug
    ·
     obtain⟨a6,aL,aP⟩:=ap.s.two;refine az rfl (fun K hK=>?_) rfl;go_simp;refine hK _ _ ((((GN.setCell (.inl (.inr rfl)) _).setCell (.inl (.inr rfl)) _).setCell (.inl (.inr rfl)) _).setCell (.inl (.inr rfl)) _) ?_;clear hK K
     try simp only[PU]
     refine aO (fun V=>oS ⟨s,wb,bN,bG,bq,sl,GA,gn,gc,MA,mn,mc,FA,fn,fc,M,F,ar⟩ S wr L #[.int .i64 1,.string ⟨#[]⟩,.int .i64 x.aU,.int .i64 x.numOf,.string x.aZ,.slice b4 b2 cu,.string ⟨#[]⟩,.slice none 0 0,.slice none 0 0,.slice none 0 0,.slice none 0 0] V∧Fr (fun b=>b=S.heap.size) aN V) ⟨by exact(((ap.aH aF.1 2 _).aH aF.1 3 _).aH aF.1 4 _).aH aF.1 5 _,by exact((((Fr.refl (fun b=>b=S.heap.size) aN).setCell (.inl rfl) _).setCell (.inl rfl) _).setCell (.inl rfl) _).setCell (.inl rfl) _⟩ (fun bt hV=>?_);have bY:=ae hV.1;have cD:=ae ((bE.ao fun b O=>hV.2.block b O.2 (aB O.1)).mono fun b O=>(⟨O.1,Gc O.2 hV.2.size⟩:S.heap.size<b∧b<bt.heap.size));clear hV a6 aL aP;refine ak ?_;refine dU ?_;refine aO (fun V=>Ext bt V∧ag V bt.heap.size 5 #[.int .u8 t,.int .u8 I]) ⟨GN.alloc _,GO⟩ (fun bp hV=>?_);have cH:=ae (bY.al a2 hV.1);have cv:=ae hV.2;have dj:S.heap.size<bt.heap.size:=bY.s.lt;have cE:=ae ((cD.ao fun b O=>hV.1.block b O.2 fun h=>h).mono fun b O=>(⟨O.1,Gc O.2 hV.1.size⟩:S.heap.size<b∧b<bp.heap.size));clear hV;obtain⟨e0,bl,a5⟩:=cv.two;refine bx (v:=?_) rfl (by rfl) (fun V hV=>?_) ?_;rotate_left
     ·have bJ:=k0 V bt.heap.size t I ((hV.cell a5 ad).trans (e0 0)) ((hV.cell a5 ad).trans (e0 1))
      (go_simp<;>with_reducible rfl)
     try simp only[PU]
     clear e0 bl a5;refine tf ?_;have av:=And.intro cH.o (And.intro cE.o aU.o);have bn:∃(z:VE) (bQ:GR) (aJ zc:Nat),(Value.agg #[.int .i64 x.aU,.int .i64 x.numOf,.string x.aZ,.slice b4 b2 cu])=.agg #[.int .i64 z.aU,.int .i64 z.numOf,.string z.aZ,.slice bQ aJ zc]∧oS ⟨s,wb,bN,bG,bq,sl,GA,gn,gc,MA,mn,mc,FA,fn,fc,M,F,ar⟩ S wr L #[.int .i64 1,.string ⟨#[]⟩,.int .i64 z.aU,.int .i64 z.numOf,.string z.aZ,.slice bQ aJ zc,.string ⟨#[]⟩,.slice none 0 0,.slice none 0 0,.slice none 0 0,.slice none 0 0] bp∧Sl bp (fun b=>S.heap.size<b∧b<bp.heap.size) bQ aJ (z.args.map a4)∧z.src be 2∧aJ≤zc:=⟨x,b4,b2,cu,rfl,av⟩
     revert bn;generalize bt.heap.size=a1;exact ug
  ·
   refine dU ?_;refine aO (fun V=>Ext wr V∧ag V wr.heap.size 5 #[.int .u8 t,.int .u8 I]) ⟨(GN.alloc _).drew,GO⟩ (fun v10 hV=>?_);have k:=ae (H.al a2 hV.1);have aH:=ae hV.2;have dj:S.heap.size<wr.heap.size:=H.s.lt;clear hV;obtain⟨e0,bl,a5⟩:=aH.two;refine bx (v:=?_) rfl (by rfl) (fun V hV=>?_) ?_;rotate_left
   ·have bJ:=k0 V wr.heap.size t I ((hV.cell a5 ad).trans (e0 0)) ((hV.cell a5 ad).trans (e0 1))
    (go_simp<;>with_reducible rfl)
   try simp only[PU]
   clear e0 bl a5;refine tf ?_;refine ak ?_;refine az rfl (fun K hK=>?_) rfl;go_simp;refine(iM ⟨s,wb,bN,bG,bq,sl,GA,gn,gc,MA,mn,mc,FA,fn,fc,M,F,ar⟩ L be o ba u _ ((k.c.al a2 GN).wr aF.1) ((Sl.cZ aF.2.2.2.2.1 (k.c.al a2 GN).fr).mono fun b O=>⟨O.1,fun h=>O.2 (.inl h)⟩) ad).mono ?_;rintro e v11 ⟨x,b4,b2,cu,rfl,hx,aG,bh,h,he⟩
   try simp only at h he
   have U:Fr (fun b=>b=s) v10 v11:=he;have aM:=ae (k.call a2 b0 h U);have aU:=ai hx aG;have cc:=ae ((bh.mono fun b O=>(⟨by have:=k.s.lt;have:=O.1;omega,O.2⟩:S.heap.size<b∧b<v11.heap.size)));have b6:=ae (aH.on U ad);refine hK _ _ (he.mono fun _ h=>.inl h) ?_;clear hK K
   try simp only[PU]
   clear hx aG bh h he U;refine ak ?_;obtain⟨a6,aL,aP⟩:=aM.s.two;refine az rfl (fun K hK=>?_) rfl;go_simp;refine hK _ _ (GN.setCell (.inl (.inr rfl)) _) ?_;clear hK K
   try simp only[PU]
   refine aO (fun V=>oS ⟨s,wb,bN,bG,bq,sl,GA,gn,gc,MA,mn,mc,FA,fn,fc,M,F,ar⟩ S wr L #[.int .i64 1,.string ⟨#[]⟩,.int .i64 0,.int .i64 0,.string ⟨#[]⟩,.slice none 0 0,.string ⟨#[]⟩,.slice none 0 0,.slice none 0 0,.slice none 0 0,.slice none 0 0] V∧Fr (fun b=>b=S.heap.size) v11 V) ⟨by exact aM.aH aF.1 0 _,by exact(Fr.refl (fun b=>b=S.heap.size) v11).setCell (.inl rfl) _⟩ (fun cs hV=>?_);have aQ:=ae hV.1;have ci:=ae ((cc.ao fun b O=>hV.2.block b O.2 (aB O.1)).mono fun b O=>(⟨O.1,Gc O.2 hV.2.size⟩:S.heap.size<b∧b<cs.heap.size));have cb:=ae (b6.on hV.2 ad);clear hV a6 aL aP;refine tf ?_;refine ak ?_;obtain⟨a6,aL,aP⟩:=aQ.s.two;refine az rfl (fun K hK=>?_) rfl;go_simp;refine hK _ _ ((((GN.setCell (.inl (.inr rfl)) _).setCell (.inl (.inr rfl)) _).setCell (.inl (.inr rfl)) _).setCell (.inl (.inr rfl)) _) ?_;clear hK K
   try simp only[PU]
   refine aO (fun V=>oS ⟨s,wb,bN,bG,bq,sl,GA,gn,gc,MA,mn,mc,FA,fn,fc,M,F,ar⟩ S wr L #[.int .i64 1,.string ⟨#[]⟩,.int .i64 x.aU,.int .i64 x.numOf,.string x.aZ,.slice b4 b2 cu,.string ⟨#[]⟩,.slice none 0 0,.slice none 0 0,.slice none 0 0,.slice none 0 0] V∧Fr (fun b=>b=S.heap.size) cs V) ⟨by exact(((aQ.aH aF.1 2 _).aH aF.1 3 _).aH aF.1 4 _).aH aF.1 5 _,by exact((((Fr.refl (fun b=>b=S.heap.size) cs).setCell (.inl rfl) _).setCell (.inl rfl) _).setCell (.inl rfl) _).setCell (.inl rfl) _⟩ (fun aX hV=>?_);have cm:=ae hV.1;have ck:=ae ((ci.ao fun b O=>hV.2.block b O.2 (aB O.1)).mono fun b O=>(⟨O.1,Gc O.2 hV.2.size⟩:S.heap.size<b∧b<aX.heap.size));have cN:=ae (cb.on hV.2 ad);clear hV a6 aL aP;have av:=And.intro cm.o (And.intro ck.o aU.o);have bn:∃(z:VE) (bQ:GR) (aJ zc:Nat),(Value.agg #[.int .i64 x.aU,.int .i64 x.numOf,.string x.aZ,.slice b4 b2 cu])=.agg #[.int .i64 z.aU,.int .i64 z.numOf,.string z.aZ,.slice bQ aJ zc]∧oS ⟨s,wb,bN,bG,bq,sl,GA,gn,gc,MA,mn,mc,FA,fn,fc,M,F,ar⟩ S wr L #[.int .i64 1,.string ⟨#[]⟩,.int .i64 z.aU,.int .i64 z.numOf,.string z.aZ,.slice bQ aJ zc,.string ⟨#[]⟩,.slice none 0 0,.slice none 0 0,.slice none 0 0,.slice none 0 0] aX∧Sl aX (fun b=>S.heap.size<b∧b<aX.heap.size) bQ aJ (z.args.map a4)∧z.src be 2∧aJ≤zc:=⟨x,b4,b2,cu,rfl,av⟩
   revert bn;generalize wr.heap.size=a1;exact ug
 case gg=>
  rintro a1 Y cS ⟨z,bQ,aJ,zc,rfl,a9,cV,bv,bV⟩;obtain⟨a6,aL,aP⟩:=a9.s.two;refine tf ?_;exact gy
 ):p:=h
end yD
open yD in
theorem Ep(d ba:Nat):SK 7 d ba:=by
 exact gw
namespace yE
theorem di(h:p:=by
 generalize ah:World.setCell _ _ _=X;have aw:Fr (fun b=>b=S.heap.size) aQ X:=ah▸((((((Fr.refl (fun b=>b=S.heap.size) aQ).setCell (.inl rfl) _).setCell (.inl rfl) _).setCell (.inl rfl) _).setCell (.inl rfl) _).setCell (.inl rfl) _).setCell (.inl rfl) _;have bk:ag X S.heap.size 175 #[.int .i64 2,.string nm,.int .i64 x.aU,.int .i64 x.numOf,.string x.aZ,.slice b4 b2 cu,.string ⟨#[]⟩,.slice none 0 0,.slice none 0 0,.slice none 0 0,.slice none 0 0]:=ah▸(((((aZ.2.1.aH 0 _).aH 1 _).aH 2 _).aH 3 _).aH 4 _).aH 5 _;clear ah a6 aL aP;go_wp2_with (fail);obtain⟨U,_,hx,aG,bh,bK⟩:=aZ.o;have bH:=aw.size;have bl:=bs.2.2.lt
 try refine cj _ _ ?_
 unfold js;apply Exists.intro;refine⟨ba,u,au,on,bj,?_⟩
 iterate 240 apply Exists.intro
 refine⟨?_,rfl⟩;exact eL.simple (st:=.set false nm x) ⟨s,wb,bN,bG,bq,sl,GA,gn,gc,MA,mn,mc,FA,fn,fc,M,F,ar⟩ b1 B d8 cp d ps V T ls N L W bc QA ch qc bP aF.1 cl cd aF.2.2.2.1 cg.1 dS c2 aT (U.fresh aF.1 aw fun b O=>ad) bk (de (aV.2 ⟨b4,b2,cu,rfl,aG,(bh.ao fun b O=>aw.block b O.2 (aB O.1)).mono fun b O=>⟨by have:=O.1;omega,by have:=O.2;omega⟩⟩) i7 (Sl.bu _) (Gb _) (Sl.bu _) (Gb _) (Sl.bu _) (Gb _)) ⟨cg.1 dr.o,dv cg.1 2 x hx⟩ (fun n hn=>by simp[ay.all] at hn) (by simp only[ay.num];omega) (Gb _) bd.2.2 aF.2.1
 ):p:=h
theorem pU(h:p:=by
 refine pf ?_;exact dN
 ):p:=h
theorem gx(h:p:=by
 have v:(0:Int)<(ba:Int):=ad;have gJ:¬(wb=s∨wb=S.heap.size):=ad;go_upto_region 22 with(fail);refine eh (fun b=>b=s∨b=S.heap.size) [(0,3),(1,3),(2,3),(3,3),(4,0),(5,3),(6,3),(10,3),(11,3),(13,3),(7,1),(8,3),(9,0),(12,1),(14,1),(15,3),(16,2),(17,3),(18,2)] ?_
 iterate 4 refine pf ?_
 refine ow ?_
 iterate 5 refine pf ?_
 refine aA rfl (fun K hK=>?_);go_simp;refine(aN wr.drew s bN bG bq sl ba (bs.1.al a2 GN.drew).src ad ad).mono ?_;rintro e aH ⟨cm,rfl,aM,bQ,h,he⟩;obtain⟨j,rfl⟩:=Gg aM;have t:Fr (fun b=>b=s) wr aH:=Fr.aE he.fr;have r:=bs.1.next a2 h t;obtain⟨i,G,nm,cs,g,O,hm,aX,a1,hc⟩:=Sl.fJ (z:=1) aF.2.2.2.2.1 (fun _=>rfl) (k:=j) ad;subst g;obtain rfl:=rI.1 aX;have c0:=(r.fr.cell O.1 O.2).trans (hc 0 _ rfl);simp only[Nat.mul_one,Gl] at c0;have y:¬(i=s∨i=S.heap.size):=fun h=>by
  rcases h with h|h
  ·exact O.2 (.inl h)
  ·have:=O.1;omega
 have m:i<aH.heap.size:=by have:=r.fr.size;have:=O.1;omega
 have cy:(0:Int)≤(j:Int):=ad;have gl:(j:Int)<(ba:Int):=ad;have dr:=ae (Ge hm);have H1:=ai r (bs.2.2.on t ad);have b7:=t.size;refine hK _ _ (he.fr.mono fun _ h=>.inl h) ?_;clear hK K
 try simp only[PU]
 clear a0 al af a7 am aE a6 aL aP aX a1 hc hm h he t r O aM bQ;refine pf ?_;refine F9 ?_;refine aA rfl (fun K hK=>?_);go_simp;refine(iM ⟨s,wb,bN,bG,bq,sl,GA,gn,gc,MA,mn,mc,FA,fn,fc,M,F,ar⟩ L be _ ba u aH (H1.1.wr aF.1) ((Sl.cZ aF.2.2.2.2.1 H1.1.fr).mono fun b O=>⟨O.1,fun h=>O.2 (.inl h)⟩) ad).mono ?_;rintro e aQ ⟨x,b4,b2,cu,rfl,hx,aG,bh,h,he⟩;simp only at h he;have l:=H1.2.on he ad;have aZ:=dz (H1.1.next a2 h he) l hx aG bh he.size;obtain⟨a6,aL,aP⟩:=l.two;refine hK _ _ (he.mono fun _ h=>.inl h) ?_;clear hK K
 try simp only[PU]
 clear l hx aG bh h he c0;refine aA rfl (fun K hK=>?_);go_simp;refine hK _ _ (GN.setCell (.inl (.inr rfl)) _) ?_;exact sj
 ):p:=h
end yE
open yE in
theorem Eo(d ba:Nat)(b6:0<ba):SK 8 d ba:=by
 exact gw
namespace yF
theorem gx(h:p:=by
 have bQ:decide ((ba:Int) > 0)=false:=by simp;omega
 have aH:¬(0:Int)<(ba:Int):=ad;clear b6;exact y2
 ):p:=h
end yF
open yF in
theorem Em(d ba:Nat)(b6:ba=0):SK 8 d ba:=by
 exact gw
end Go.Proofs.YtjhgbdckgkppnaaGreat

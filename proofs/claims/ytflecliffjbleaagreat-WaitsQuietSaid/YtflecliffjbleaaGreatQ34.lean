/- Part 34 of the proof. No condition of its own. -/
import Derived.Test.YtflecliffjbleaaGreatQ27
import Derived.Test.YtflecliffjbleaaGreatQ33
namespace Go.Proofs.YtflecliffjbleaaGreat
open Go.RowKit Go.Proofs.Tryz
set_option maxRecDepth 1000000
set_option maxHeartbeats 25600000
set_option linter.unusedVariables false
variable{B L a8 b8 bd on:Nat}{M P:Nat->Prop}{S ac w:World}{p:ks}
def lp(n:Nat):Code->Option Code
 | .block k c=>if k=n then some c else lp n c
 | .seq a b=>match lp n a with
  | some c=>some c
  | none=>lp n b
 | .loop c=>lp n c
 | .scope c=>lp n c
 | _=>none
noncomputable def xh:Code:=((Tryz.f96.body.bind fN).getD .skip)
noncomputable def Em:Code:=((lp 2 xh).getD .skip)
noncomputable def HL:Code:=match Em with
 | .seq a _=>a
 | c=>c
noncomputable def HO:Code:=match Em with
 | .seq _ b=>b
 | _=>.skip
def ks.env(p:ks)(ps:List (ByteArray×Bool)):Env:=⟨p.M,ps,p.F.map λf=>(f.name,f.params)⟩
structure oN(p:ks)(S w:World)(L:Nat):Prop where
 src:cc w p.s p.A p.n p.c p.l
 blk:an w p.wb 169 #[.pointer (some ⟨p.s,0,none⟩),.slice p.GA p.gn p.gc,.slice p.MA p.mn p.mc,.slice p.FA p.fn p.fc,.int .i64 L,.bool p.ar]
 fr:Fr p.MW S w
 le:L<=24
theorem oN.wr(h0:gq S p b8)(h:oN p S w L):gq w p L:=
 ⟨h.src,h.blk,h0.ne,Sl.cS h0.ms h.fr,Sl.cS h0.fs h.fr,h0.nm,h0.nf,h0.gy,h0.iT,h.le⟩
theorem oN.next(h:oN p S w L)(a6:p.s<p.wb)(hs:cc ac p.s p.A p.n p.c p.l)(O:Fr (λb=>b=p.s) w ac):oN p S ac L:=
 ⟨hs,h.blk.on O ab,h.fr.trans (O.mono λ_ h=>.inl h),h.le⟩
theorem oN.aj(h:oN p S w L)(a6:p.s<p.wb)(O:Ext w ac):oN p S ac L:=h.next a6 (h.src.cM O λ_ _ h=>h) (O.mono λ_ h=>h.elim)
theorem oN.fresh(h:oN p S w L)(h0:gq S p b8)(O:Fr M w ac)(hM:∀b,M b->S.heap.size<=b):oN p S ac L:=by
 have ae:=h0.src.lt;have aD:=h0.blk.lt;exact⟨h.src.cM O λb bL hm=>by have:=hM b hm;omega,h.blk.on O λhm=>by have:=hM _ hm;omega,h.fr.eI (O.below h.fr.size λk ai hm=>by have:=hM k hm;omega),h.le⟩
theorem oN.HF{R:Nat}(h:oN p S w L)(hw:gq ac p R)(O:Fr p.MW w ac):oN p S ac R:=⟨hw.src,hw.blk,h.fr.trans O,hw.kP⟩
def F8(p:ks)(d:Nat)(V T:LQ)(ps:List (ByteArray×Bool))(L:Nat)(w:World)(e:Ending)(ac:World):Prop:=
 ∃(ls:List ax) (R:Nat) (bx:LP) (on bp:Nat),e=.returned (.slice bx on bp)/\Made (p.env ps) d V T L R ls/\on<=bp/\Sl ac (fresh w ac) bx on (ls.map a9)/\gq ac p R/\Fr p.MW w ac
def HZ(p:ks)(L:Nat):Prop:=∀(d f:Nat) (V T:LQ) (I:LP) (bl aa:Nat) (aY:ByteArray) (ps:List (ByteArray×Bool)) (QA:LP) (cg qc:Nat) (bT:Value) (w:World),d<=2->f<=6->gq w p L->Sl w (off p.MW w) I bl (V.map D.s)->V.length+L<=60->mD T L->
 Sl w (off p.MW w) QA cg (ps.map ct)->cg<=2->Calls prog 96 #[.pointer (some ⟨p.wb,0,none⟩),.agg #[.string aY,.slice QA cg qc,bT],.slice I bl aa,.int .i64 (d:Int),.int .i64 (f:Int)] w (F8 p d V T ps L w)
def gR(p:ks)(bl B:Nat)(eT bE:Value)(d:Nat)(ps:List (ByteArray×Bool))(V T:LQ)(ls:List ax)(N:Int)(S:World)(L:Nat)(az:World)(aY:ByteArray)(QA:LP)(cg qc:Nat)(bT:Value)(au:LP)(bd a8:Nat)(bx:LP)(on bp:Nat)(w:World):Prop:=∃(bg:LQ) (m:List ax) (st:ax) (bJ:Nat) (cs:List Value),
 oN p az w bJ/\an w bl 137 #[.string aY,.slice QA cg qc,bT]/\lG B 9 1 188 11 w au bd a8 (bg.map D.s) bx on bp ((ls++m).map a9)/\an w S.heap.size 188 cs.toArray/\(a9 st).rep w (lu (λb=>B<=b/\(Value.slice au bd a8).ownBlock≠some b) w (.slice bx on bp)) cs/\
 eM (p.env ps) d (V++decls ls) (T++decls ls) (.eH (m++[st]))/\(∀n∈(ak.eH (m++[st])).all,∃k,bJ<=k/\k<L+1/\n=ha k)/\(ak.eH (m++[st])).num<=2*(L+1 - bJ)/\bJ<=L/\bg ⊆ V++decls (ls++(m++[st]))/\bg.length+bJ<=60/\on<=12000
def lZ(p:ks)(bl B:Nat)(eT bE:Value)(d:Nat)(ps:List (ByteArray×Bool))(V T:LQ)(ls:List ax)(N:Int)(S:World)(L:Nat)(az:World)(aY:ByteArray)(QA:LP)(cg qc:Nat)(bT:Value)(a:Act)(w:World):Prop:=∃(au:LP) (bd a8:Nat) (bx:LP) (on bp:Nat) (gD o u8 gF eK a1 u16 bo bM eN eO eP eQ eR eS eV eW eY eZ e3 e4 e5 u32 e6 e7 e8 e9 fa fb fd fe ff fh fi fl fm fo fp fq fr fs ft fu fv fw fx fy fz fA fB fC fD fE fF u64 fG fH fI fJ fK fL fM fN fO fP fQ fR fS fT fU fX fY fZ f3 f4 f5 f6 f7 f8 f9 ga gb gd ge gf gg gh gi gj gk H am aF aI aJ aS a3 bb be bq bw bC bN bO bW bX b1 b2 b5 b6 ca ci cl cm co cq cr cu cv cw cx cA cC cD cE cF cG cH cI cK cL cM cN cO cP cQ cR cS cT cU cV cW cX cY cZ c4 c5 c6 c7 c8 c9 da db dc dd de df dg dh di dk dl dm dn dr ds dt du dv dw dx dy dz dA dB dC dE dF dH dI dJ dK dM dN dO dP dQ dS dT dU dV dW dX dY dZ d0 d1 d2 d3 d4 d5 d6 d7 d8 d9 ea eb ec ed ee ef eg eh ej ek el em en eo ep eq er es et eu ev ew ex ey ez eA eB eC eD eE eF eG eH eI aK:Value),gR p bl B eT bE d ps V T ls N S L az aY QA cg qc bT au bd a8 bx on bp w/\a=⟨#[.pointer (some ⟨p.wb,0,none⟩),eT,.slice au bd a8,.int .i64 (d:Int),bE,gD,.pointer (some ⟨bl,0,none⟩),o,u8,gF,eK,.slice bx on bp,.int .i64 N,.pointer (some ⟨S.heap.size,0,none⟩),aK,a1,u16,bo,bM,eN,eO,eP,eQ,eR,eS,eV,eW,eY,eZ,e3,e4,e5,u32,e6,e7,e8,e9,fa,fb,fd,fe,ff,fh,fi,fl,fm,fo,fp,fq,fr,fs,ft,fu,fv,fw,fx,fy,fz,fA,fB,fC,fD,fE,fF,u64,fG,fH,fI,fJ,fK,fL,fM,fN,fO,fP,fQ,fR,fS,fT,fU,fX,fY,fZ,f3,f4,f5,f6,f7,f8,f9,ga,gb,gd,ge,gf,gg,gh,gi,gj,gk,H,am,aF,aI,aJ,aS,a3,bb,be,bq,bw,bC,bN,bO,bW,bX,b1,b2,b5,b6,ca,ci,cl,cm,co,cq,cr,cu,cv,cw,cx,cA,cC,cD,cE,cF,cG,cH,cI,cK,cL,cM,cN,cO,cP,cQ,cR,cS,cT,cU,cV,cW,cX,cY,cZ,c4,c5,c6,c7,c8,c9,da,db,dc,dd,de,df,dg,dh,di,dk,dl,dm,dn,dr,ds,dt,du,dv,dw,dx,dy,dz,dA,dB,dC,dE,dF,dH,dI,dJ,dK,dM,dN,dO,dP,dQ,dS,dT,dU,dV,dW,dX,dY,dZ,d0,d1,d2,d3,d4,d5,d6,d7,d8,d9,ea,eb,ec,ed,ee,ef,eg,eh,ej,ek,el,em,en,eo,ep,eq,er,es,et,eu,ev,ew,ex,ey,ez,eA,eB,eC,eD,eE,eF,eG,eH,eI],[]⟩
theorem gR.simple(p:ks)(bl B:Nat)(eT bE:Value)(d:Nat)(ps:List (ByteArray×Bool))(V T:LQ)(ls:List ax)(N:Int)(L:Nat)(az:World)(aY:ByteArray)(QA:LP)(cg qc:Nat)(bT:Value){bg:LQ}{au:LP}{bx:LP}{bp:Nat}(h0:gq S p b8)(bY:p.wb<bl)(dD:bl<B)(hG:lG B 9 1 188 11 S au bd a8 (bg.map D.s) bx on bp (ls.map a9))
  (hV:bg ⊆ V++decls ls) (eX:bg.length+L+1<=60) (c2:on<=10000) (aN:B<=S.heap.size) {X:World} {bJ:Nat} {st:ax} {cs:List Value} (hC:oN p S X bJ) (bk:an X S.heap.size 188 cs.toArray) (aQ:(a9 st).rep X (fresh S X) cs)
  (a1:F0 (p.env ps) d (V++decls ls) (T++decls ls) st) (aI:∀n∈st.all,∃k,bJ<=k/\k<L+1/\n=ha k) (K:st.num<=2*(L+1 - bJ)) (hle:bJ<=L) (a:Fr p.MW az S) (c:an S bl 137 #[.string aY,.slice QA cg qc,bT]):gR p bl B eT bE d ps V T ls N S L az aY QA cg qc bT au bd a8 bx on bp X:=by
 have a6:=h0.ne;refine⟨bg,[],st,bJ,cs,⟨hC.src,hC.blk,a.trans hC.fr,hC.le⟩,c.on hC.fr (λh=>by rcases h with h|h<;>omega),?_,bk,?_,?_,?_,?_,hle,?_,ab,ab⟩
 .rw[LC];exact hG.cS hC.fr λb O _=>by rcases O with O|O<;>omega
 .exact D.aE (λb O=>⟨⟨by have:=O.1;omega,λh=>by have:=(hG.one.lt h).2;have:=O.1;omega⟩,O.2,λh=>by have:=(hG.two.lt h).2;have:=O.1;omega⟩) _ _ aQ
 .exact tC.2 a1
 .rw[LD,all_cons];intro n hn;rcases Lk.1 hn with hn|hn
  .exact aI n hn
  .simp[ak.eH,ak.all] at hn
 .rw[LD,td];exact K
 .intro x hx;have:=hV hx;exact z4
theorem D5{f:aA}{cs:List Value}(h:(dr f).rep w P cs):∃(A:LP) (n c:Nat) (A2:LP) (n2 c2:Nat),cs=[.string f.name,.slice A n c,.slice A2 n2 c2]/\n<=c/\Sl w P A n (f.params.map ct):=by
 unfold dr at h;rw[bB,ch] at h;obtain⟨y,rfl,h⟩:=h;obtain⟨A,n,c,br,rfl,hc,hs,h⟩:=aF.1 h;obtain⟨A2,n2,c2,aa,rfl,bR,bv,h⟩:=aF.1 h;rw[aK] at h;subst h;exact⟨A,n,c,A2,n2,c2,rfl,hc,hs⟩
theorem oQ:ca prog 135 188 (.agg #[.int .i64 0,.string ⟨#[]⟩,.int .i64 0,.int .i64 0,.string ⟨#[]⟩,.slice none 0 0,.string ⟨#[]⟩,.slice none 0 0,.slice none 0 0,.slice none 0 0,.slice none 0 0]) 11 192:=ca.mk' Tryz.underlying135 (by kernel_rfl) rfl ab
theorem E3{G:Env}{d:Nat}{bg az T:LQ}{r:eN}{Z:List ax}(aQ:rf G bg r)(hV:bg ⊆ az)(ae:eM G 0 bg T (.eH Z)):eM G d az T (.eH ((.lock false r::Z)++[.lock true r])):=by
 rw[Lq,nn];refine⟨k2 hV aQ,?_⟩;simp only[ax.decl,LC];exact tB.2 ⟨dc _ 0 d bg _ _ _ hV (λ_ _ h=>h) (Lx _) ae,tC.2 (k2 (λx hx=>Lk.2 (.inl (hV hx))) aQ)⟩
theorem bm{P:Program}{ops:Array Oper}{Q:Exit->Act->World->Prop}{R:World->World->Prop}{tails:List Nat}{rest:PT}{a:Act}{W:World}(C:World->Prop)(hC:C W)(h:∀V,C V->cQ P ops Q R tails rest a V):cQ P ops Q R tails rest a W:=h W hC
structure ra(p:ks)(S wr:World)(L:Nat)(cs:Array Value)(V:World):Prop where
 c:oN p S V L
 s:an V S.heap.size 188 cs
 f:Fr (λb=>b=p.s\/b=S.heap.size) wr V
theorem ra.aj{p:ks}{S wr V az:World}{L:Nat}{cs:Array Value}(h:ra p S wr L cs V)(a6:p.s<p.wb)(O:Ext V az):ra p S wr L cs az:=⟨h.c.aj a6 O,h.s.aj O,h.f.trans (O.mono λ_ h=>h.elim)⟩
theorem ra.call{wr V az:World}{cs:Array Value}(h:ra p S wr L cs V)(a6:p.s<p.wb)(ct:p.s<S.heap.size)(hs:cc az p.s p.A p.n p.c p.l)(O:Fr (λb=>b=p.s) V az):ra p S wr L cs az:=⟨h.c.next a6 hs O,h.s.on O ab,h.f.trans (O.mono λ_ h=>.inl h)⟩
theorem ra.aD{p:ks}{S wr V:World}{L b8:Nat}{cs:Array Value}(h:ra p S wr L cs V)(h0:gq S p b8)(i:Nat)(v:Value):ra p S wr L (cs.setIfInBounds i v) (V.setCell ⟨S.heap.size,i,none⟩ v):=
 ⟨h.c.fresh (M:=λb=>b=S.heap.size) h0 ((Fr.refl (λb=>b=S.heap.size) V).setCell (.inl rfl) _) (λb O=>ab),h.s.aD i v,h.f.setCell (.inl (.inr rfl)) _⟩
theorem mK(V:World)(g:Nat)(v1 v2:Int)(h0:V.cell? ⟨g,0,none⟩=some (.int .u8 v1))(ae:V.cell? ⟨g,1,none⟩=some (.int .u8 v2)) :
  (convert 78 9 (.slice (some ⟨g,0,none⟩) 2 2)).run prog V=.ok (.string (strOf [byteOf v1,byteOf v2])) V:=by
 have:=run_convert_bytes_arg (P:=prog) V 78 5 Tryz.underlying78 Tryz.underlying5 g 0 2 2 [v1,v2] rfl (λi ak=>by
  obtain rfl|rfl:i=0\/i=1:=ab
  .exact h0
  .exact ae) 9 Tryz.underlying9
 rw[this];rfl
theorem vh{r t:Int}(bo:L<=24)(ae:IntKind.u8.wrap (IntKind.i64.wrap (97+(L:Int)))=r)(aD:IntKind.u8.wrap (IntKind.i64.wrap (97+Int.tmod (IntKind.i64.wrap 0) 26))=t):(⟨#[118]⟩++strOf [byteOf r,byteOf t]:ByteArray)=ha L:=by
 subst ae aD;have h:∀k:Fin 25,(⟨#[118]⟩++strOf [byteOf (IntKind.u8.wrap (IntKind.i64.wrap (97+((k.val:Nat):Int)))),byteOf (IntKind.u8.wrap (IntKind.i64.wrap (97+Int.tmod (IntKind.i64.wrap 0) 26)))]:ByteArray)=ha k.val:=by decide
 exact h ⟨L,ab⟩
theorem vb{w:World}{P Q:Nat->Prop}:∀{l:LQ} {xs:List Value},D.aJ w P (l.map D.s) xs->D.aJ w Q (l.map D.s) xs
 | [],xs,h=>by simpa only[Ly,D.aJ] using h
 | e::l,xs,h=>by
  rw[Lh] at h ⊢;obtain⟨y,rfl,a4⟩:=ch.1 h;exact ch.2 ⟨y,rfl,vb a4⟩
theorem Gr.strs{Q:Nat->Prop}{e:TypeId}{A:LP}{n c:Nat}{l:LQ}(h:Gr P B e 1 w A n c (l.map D.s)):Gr Q B e 1 w A n c (l.map D.s):=by
 obtain⟨hl,xs,ae,aD⟩:=h;exact⟨hl,xs,ae,vb aD⟩
theorem wc(s:ax):(a9 s).sz=11:=by
 cases s<;>simp[a9,gz,D.sz,D.zh,dg,jQ,fQ,kJ]
theorem mr:jQ.rep w P [.int .i64 0,.int .i64 0,.string ⟨#[]⟩,.slice none 0 0]:=fa.2 ⟨none,0,rfl⟩
theorem kU:fQ.rep w P [.string ⟨#[]⟩,.slice none 0 0]:=by
 exact zE
theorem et{k:Int}{nm:ByteArray}{e r:D}{aI th el:List D}{e0 e1 e2 e3 bE r1:Value}{cy A2 ck:LP}{n1 n2 n3 c1 c2 c3:Nat}(he:e.rep w P [e0,e1,e2,e3])(aQ:r.rep w P [bE,r1])(ae:Sl w P cy n1 aI)(cA:n1<=c1)(aD:Sl w P A2 n2 th)(N:n2<=c2)(aU:Sl w P ck n3 el)(a:n3<=c3):
  (gz k nm e r aI th el).rep w P [.int .i64 k,.string nm,e0,e1,e2,e3,bE,r1,.slice cy n1 c1,.slice A2 n2 c2,.slice ck n3 c3]:=by
 unfold gz;rw[bB];exact a5.2 ⟨_,rfl,ch.2 ⟨_,rfl,gK.2 ⟨[e0,e1,e2,e3],_,rfl,he,gK.2 ⟨[bE,r1],_,rfl,aQ,aF.2 ⟨cy,n1,c1,_,rfl,cA,ae,aF.2 ⟨A2,n2,c2,_,rfl,N,aD,aF.2 ⟨ck,n3,c3,[],rfl,a,aU,aK.2 rfl⟩⟩⟩⟩⟩⟩⟩
theorem lG.names{au:LP}{bg:LQ}{bx:LP}{bp:Nat}{l:List D}{e1 e2:TypeId}{bF:Nat}(h:lG B e1 1 e2 bF w au bd a8 (bg.map D.s) bx on bp l)(hM:∀b,M b->b<B):Sl w (off M w) au bd (bg.map D.s):=
 h.one.sl (λb O hp=>⟨O,λhm=>by have:=hM b hm;have:=hp.1;omega⟩) (λb O hp=>⟨O,λhm=>by have:=hM b hm;omega⟩)
def SK(k:Int)(d bd:Nat):Prop:=∀(p:ks) (bl B:Nat) (eT bE:Value) (ps:List (ByteArray×Bool)) (V T:LQ) (ls:List ax) (N:Int) (S:World) (L:Nat) (az:World) (aY:ByteArray) (QA:LP) (cg qc:Nat) (bT:Value) (bg:LQ) (au:LP) (a8:Nat) (bx:LP) (on bp:Nat) (b8:Nat) (bY:p.wb<bl) (dD:bl<B) (aN:B<=S.heap.size) (br:cg<=2) (wr:World) (a6:p.s<p.wb) (cb:p.s<S.heap.size) (eM:p.wb<S.heap.size) (dp:bg.length=bd) (np:S.heap.size<=wr.heap.size) (aK:LR (gq S p b8/\an S bl 137 #[.string aY,.slice QA cg qc,bT]/\Sl S (off p.MW S) QA cg (ps.map ct)/\lG B 9 1 188 11 S au bd a8 (bg.map D.s) bx on bp (ls.map a9)/\Sl S (off p.MW S) au bd (bg.map D.s)/\∀b,p.MW b->b<B)) (bQ:LR (oN p S wr L/\an wr bl 137 #[.string aY,.slice QA cg qc,bT]/\an wr S.heap.size 188 #[.int .i64 5,.string ⟨#[]⟩,.int .i64 0,.int .i64 0,.string ⟨#[]⟩,.slice none 0 0,.string ⟨#[]⟩,.slice none 0 0,.slice none 0 0,.slice none 0 0,.slice none 0 0])) (eX:bg.length+L+1<=60) (c2:on<=10000) (bK:d<=2) (ch:LR (bg ⊆ V++decls ls/\mD (T++decls ls) (L+1)/\∀R,R<=L->HZ p R)) (aM:Nat) (bu:LR (gq az p aM/\Sl az (off p.MW az) QA cg (ps.map ct)/\Fr p.MW az S)) (ce:az.heap.size<=bl)
  (Q:Exit->Act->World->Prop) (hQ0:∀c a d v w,Q (.panic c) (a.put d v) w->Q (.panic c) a w) (hN:∀a w,lZ p bl B eT bE d ps V T ls N S L az aY QA cg qc bT a w->Q .normal a w) (K:Act->World->Prop) (hK:∀a w,Code.wp prog HO Q a w->K a w)
  {gD o u8 gF eK a1 u16 bo bM eN eO eP eQ eR eS eV eW eY eZ e3 e4 e5 u32 e6 e7 e8 e9 fa fb fd fe ff fh fi fl fm fo fp fq fr fs ft fu fv fw fx fy fz fA fB fC fD fE fF u64 fG fH fI fJ fK fL fM fN fO fP fQ fR fS fT fU fX fY fZ f3 f4 f5 f6 f7 f8 f9 ga gb gd ge gf gg gh gi gj gk H am aF aI aJ aS a3 bb be bq bw bC bN bO bW bX b1 b2 b5 b6 ca ci cl cm co cq cr cu cv cw cx cA cC cD cE cF cG cH cI cK cL cM cN cO cP cQ cR cS cT cU cV cW cX cY cZ c4 c5 c6 c7 c8 c9 da db dc dd de df dg dh di dk dl dm dn dr ds dt du dv dw dx dy dz dA dB dC dE dF dH dI dJ dK dM dN dO dP dQ dS dT dU dV dW dX dY dZ d0 d1 d2 d3 d4 d5 d6 d7 d8 d9 ea eb ec ed ee ef eg eh ej ek el em en eo ep eq er es et eu ev ew ex ey ez eA eB eC eD eE eF eG eH eI:Value},
  Code.wp prog HL (Exit.then K Q) ⟨#[.pointer (some ⟨p.wb,0,none⟩),eT,.slice au bd a8,.int .i64 (d:Int),bE,gD,.pointer (some ⟨bl,0,none⟩),o,u8,gF,eK,.slice bx on bp,.int .i64 N,.pointer (some ⟨S.heap.size,0,none⟩),(.int .i64 k),a1,u16,bo,bM,eN,eO,eP,eQ,eR,eS,eV,eW,eY,eZ,e3,e4,e5,u32,e6,e7,e8,e9,fa,fb,fd,fe,ff,fh,fi,fl,fm,fo,fp,fq,fr,fs,ft,fu,fv,fw,fx,fy,fz,fA,fB,fC,fD,fE,fF,u64,fG,fH,fI,fJ,fK,fL,fM,fN,fO,fP,fQ,fR,fS,fT,fU,fX,fY,fZ,f3,f4,f5,f6,f7,f8,f9,ga,gb,gd,ge,gf,gg,gh,gi,gj,gk,H,am,aF,aI,aJ,aS,a3,bb,be,bq,bw,bC,bN,bO,bW,bX,b1,b2,b5,b6,ca,ci,cl,cm,co,cq,cr,cu,cv,cw,cx,cA,cC,cD,cE,cF,cG,cH,cI,cK,cL,cM,cN,cO,cP,cQ,cR,cS,cT,cU,cV,cW,cX,cY,cZ,c4,c5,c6,c7,c8,c9,da,db,dc,dd,de,df,dg,dh,di,dk,dl,dm,dn,dr,ds,dt,du,dv,dw,dx,dy,dz,dA,dB,dC,dE,dF,dH,dI,dJ,dK,dM,dN,dO,dP,dQ,dS,dT,dU,dV,dW,dX,dY,dZ,d0,d1,d2,d3,d4,d5,d6,d7,d8,d9,ea,eb,ec,ed,ee,ef,eg,eh,ej,ek,el,em,en,eo,ep,eq,er,es,et,eu,ev,ew,ex,ey,ez,eA,eB,eC,eD,eE,eF,eG,eH,eI],[]⟩ wr
namespace B5
theorem pC{p:Prop}(h:p:=by
 exact gR.simple (st:=.lock dc r) ⟨s,wb,sA,b2,bo,sl,GA,gn,gc,MA,mn,mc,FA,fn,fc,M,F,ar⟩ bl B eT bE d ps V T ls N L az aY QA cg qc bT aK.1 bY dD aK.2.2.2.1 ch.1 eX c2 aN (ak.fresh aK.1 J λb O=>ab) aH
  (et mr (jC.2 ⟨IA,i,ic,rfl,aq,(aB.ai λb O=>J.block b O.2 (aC O.1)).mono λb O=>⟨by have:=O.1;omega,by have:=O.2;omega⟩⟩) (Sl.bN _) (Lb _) (Sl.bN _) (Lb _) (Sl.bN _) (Lb _)) (k2 ch.1 (a1 _)) (λn hn=>by simp[ax.all] at hn) (by simp only[ax.num];omega) (Lb _) bu.2.2 aK.2.1
 ):p:=h
theorem l1{p:Prop}(h:p:=by
 first
  | have R:decide (k<4)=true:=by simpa using ai.2
  | have R:decide (k<4)=false:=by simpa using ai.2.1
    have bF:decide (k<7)=true:=by simpa using ai.2.2
 have aL:=ad ai.1;clear ai;go_wp2_with(fail);refine(q6 ⟨s,wb,sA,b2,bo,sl,GA,gn,gc,MA,mn,mc,FA,fn,fc,M,F,ar⟩ L bg au bd a8 aY ps QA cg qc bT wr (bQ.1.wr aK.1) ((Sl.cS aK.2.2.2.2.1 bQ.1.fr).mono λb O=>⟨O.1,λh=>O.2 (.inl h)⟩) ab ((Sl.cS aK.2.2.1 bQ.1.fr).mono λb O=>⟨O.1,λh=>O.2 (.inl h)⟩) br).mono ?_;rintro e aV ⟨r,IA,i,ic,rfl,a1,aq,aB,av,ag⟩;simp only at a1 av ag;have l:=bQ.2.2.on ag ab;have aZ:=ej (bQ.1.next a6 av ag) l a1 aq aB ag.size;clear a0 ap aj a3 am aJ d0 af aS a1 aq aB av ag;obtain⟨d0,af,aS⟩:=l.two;clear l;go_wp2_with(fail);generalize hX:World.setCell _ _ _=X;have J:Fr (λb=>b=S.heap.size) aV X:=by rw[<-hX];first|exact((Fr.refl (λb=>b=S.heap.size) aV).setCell (.inl rfl) _).setCell (.inl rfl) _|exact(((Fr.refl (λb=>b=S.heap.size) aV).setCell (.inl rfl) _).setCell (.inl rfl) _).setCell (.inl rfl) _
 have aH:an X S.heap.size 188 #[.int .i64 (if dc then 6 else 5),.string ⟨#[]⟩,.int .i64 0,.int .i64 0,.string ⟨#[]⟩,.slice none 0 0,.string r.name,.slice IA i ic,.slice none 0 0,.slice none 0 0,.slice none 0 0]:=by rw[<-hX,aL.o];first|exact(aZ.2.1.aD 6 _).aD 7 _|exact((aZ.2.1.aD 0 _).aD 6 _).aD 7 _
 clear hX d0 af aS;obtain⟨ak,_,a1,aq,aB,bv⟩:=aZ.o;have bP:=J.size;have bm:=bQ.2.2.lt;exact pB
 ):p:=h
end B5
open B5 in
theorem En(dc:Bool)(k:Int)(d bd:Nat)(h:(dc=false/\k<4)\/dc=true/\¬k<4/\k<7):SK k d bd:=by
 rcases h with ai|ai
 all_goals
  exact l0
namespace B6
theorem gA{p:Prop}(h:p:=by
 refine cB ?_;generalize hX:World.setCell _ _ _=X;have J:=dj hX;have bw:an X S.heap.size 188 #[.int .i64 1,.string (ha L),.int .i64 z.aZ,.int .i64 z.numOf,.string z.bk,.slice cx cp zc,.string ⟨#[]⟩,.slice none 0 0,.slice none 0 0,.slice none 0 0,.slice none 0 0]:=by
  have ae:=ai.s.aD 1 (.string (⟨#[118]⟩++strOf [byteOf r,byteOf t]));rw[vh ab aO.1 aO.2] at ae;rw[<-hX]
  try rw[vh ab aO.1 aO.2]
  exact ae
 have H:=ai.c.fresh aK.1 J λb O=>ab;have bq:Sl X (λb=>S.heap.size<b/\b<X.heap.size) cx cp (z.args.map bf):=(cY.ai λb O=>J.block b O.2 (aC O.1)).mono λb O=>⟨O.1,Lc O.2 J.size⟩
 have j:∀b,(Value.slice au bd a8).ownBlock=some b->B<=b/\b<S.heap.size:=λb O=>aK.2.2.2.1.one.lt O;have bv:Gr (λ_=>False) B 9 1 X au bd a8 (bg.map D.s):=((Gr.strs (Q:=λ_=>False) aK.2.2.2.1.one).cS ai.c.fr λb O hl=>⟨λh=>h,aK.2.2.2.2.2 b O⟩).c7 J.size λb aw hp=>J.block b aw (hp.elim (λh=>h.elim) λhp=>by have:=j b hp;omega);have aR:=gY bw H bq bv ba bL J.size;have co:=ad j;have ct:S.heap.size<X.heap.size:=bw.lt;have b4:B<=X.heap.size:=ab;clear hX J bw H bq bv j ba bL ai cY d0 af aS;obtain⟨d0,af,aS⟩:=aR.1.two;go_wp2_with(at_builtin;refine bI kB rfl (.tmp 114) (.tmp 117) rfl aR.2.2.2.1 (uN.2 rfl) rfl rfl rfl ab ab b4 ?_;intro dH cl b5 al ay cf bR;have dr:=aL al ay cf;clear al ay cf bR);obtain⟨bB,aA,bH⟩:=dr.o;obtain⟨bw,H,bq,bv,ba,bL,cC⟩:=aR.o;have j:=co.o;have m:∀b,(Value.slice bx on bp).ownBlock=some b->B<=b/\b<S.heap.size:=λb O=>aK.2.2.2.1.two.lt O;have aQ:=aK.2.2.2.1.ne;have bc:∀b,(Value.slice dH (bd+1) cl).ownBlock=some b->(b<S.heap.size/\(Value.slice au bd a8).ownBlock=some b)\/X.heap.size<=b:=λb O=>(bH b O).imp (λh=>⟨(j b h).2,h⟩) id;have aI:¬(Value.slice au bd a8).ownBlock=some S.heap.size:=λh=>by have:=(j _ h).2;omega
 have cq:=aA.size;have cz:L<=24:=H.le
 try refine hN _ _ ?_
 unfold lZ;refine⟨dH,bd+1,cl,bx,on,bp,?_⟩
 iterate 240 apply Exists.intro
 refine⟨?_,rfl⟩;refine⟨bg++[ha L],[],.set true (ha L) z,L,_,(oN.mk H.src H.blk (bu.2.2.trans H.fr) H.le).fresh bu.1 aA (λb O=>by have:=(j b O).1;omega),(aK.2.1.on H.fr (λh=>by rcases h with h|h<;>(simp only at h;omega))).on aA (λh=>by have:=(j _ h).1;omega),⟨?_,?_,λb O h=>?_⟩,bw.on aA aI,?_,?_,?_,?_,Lb _,?_,by simp;omega,ab⟩
 .rw[Li,Lh,Ly];have:=Gr.strs (l:=bg++[ha L]) (Q:=λb=>B<=b/\(Value.slice bx on bp).ownBlock≠some b) (by rw[Li,Lh,Ly];exact bB)
  rwa [Li,Lh,Ly] at this
 .rw[LC];have ae:Gr (λb=>(B<=b/\(Value.slice au bd a8).ownBlock≠some b)/\b<S.heap.size) B 188 11 S bx on bp (ls.map a9):=aK.2.2.2.1.two.mono λb O hp=>⟨hp,O⟩
  have aD:=ae.cS H.fr λb O hl=>⟨λh=>by have:=aK.2.2.2.2.2 b O;have:=h.1.1;omega,aK.2.2.2.2.2 b O⟩
  have aU:=aD.c7 aA.size λb aw hp=>aA.block b aw (λbD=>hp.elim (λh=>h.1.2 bD) (λh=>aQ b bD h));exact aU.mono λb _ hp=>⟨hp.1.1,λh=>by
   rcases bc b h with a1|a1
   .exact hp.1.2 a1.2
   .have:=hp.2;omega⟩
 .rcases bc b O with a1|a1
  .exact aQ b a1.2 h
  .have:=(m b h).2;omega
 .refine et (aW.2 ⟨cx,cp,zc,rfl,bL,?_⟩) kU (Sl.bN _) (Lb _) (Sl.bN _) (Lb _) (Sl.bN _) (Lb _);refine(bq.ai λb O=>aA.block b O.2 λh=>by have:=(j b h).2;have:=O.1;omega).mono λb O=>⟨⟨by have:=O.1;omega,λh=>?_⟩,by have:=O.2;omega,λh=>by have:=(m b h).2;have:=O.1;omega⟩
  have ae:=O.1;have aD:=O.2;rcases bc b h with a1|a1<;>omega
 .exact tC.2 ⟨Ew ab,ch.2.1 L ab,dF ch.1 2 z ba⟩
 .intro n hn;rw[LD,all_cons] at hn;simp only[ax.all,ak.eH,ak.all,LC,LF] at hn;exact⟨L,Lb _,ab,hn⟩
 .rw[LD,td];simp only[ax.num];omega
 .intro y a4;rw[LD,rK,<-List.append_assoc];rcases Lk.1 a4 with a4|a4
  .exact Lk.2 (.inl (ch.1 a4))
  .simp only[LF] at a4;subst a4;exact Lk.2 (.inr (by simp[decls,ax.decl]))
 ):p:=h
theorem l1{p:Prop}(h:p:=by
 have cw:L<=24:=bQ.1.le;have cy:¬(wb=s\/wb=S.heap.size):=ab;have cm:S.heap.size<wr.heap.size:=bQ.2.2.lt;have aB:Int.tmod (L:Int) 26=(L:Int):=Int.tmod_eq_of_lt ab ab;have b7:Int.tdiv (L:Int) 26=0:=Int.tdiv_eq_zero_of_lt ab ab;go_upto_region 19 with(fail);refine uP (λb=>b=s\/b=S.heap.size) [26] (.free 0 (.free 1 (.free 3 (.free 4 (.free 5 (.held 6 (.free 7 (.free 8 (.free 9 (.free 10 (.free 11 (.free 12 (.held 13 (.free 14 (.free 15 (.free 16 (.free 17 (.free 21 (.pick [2,18] (λi=>bif i == 2 then .pick [18,22] (λi=>bif i == 18 then .held 19 (.free 20 (.pick [22] (λ_=>.free 23 (.pick [24] (λ_=>.free 25 (.pick [26] (λ_=>.stop))))))) else .free 23 (.pick [18,24] (λi=>bif i == 18 then .held 19 (.free 20 (.pick [24] (λ_=>.free 25 (.pick [26] (λ_=>.stop))))) else .pick [18] (λ_=>.held 19 (.free 20 (.free 25 (.pick [26] (λ_=>.stop)))))))) else .held 19 (.free 20 (.pick [2] (λ_=>.pick [22] (λ_=>.free 23 (.pick [24] (λ_=>.free 25 (.pick [26] (λ_=>.stop)))))))))))))))))))))))))))) ?_
 iterate 5 refine tf ?_
 refine oJ ?_
 iterate 6 refine tf ?_
 refine oJ ?_
 iterate 5 refine tf ?_
 have U:LR (ra ⟨s,wb,sA,b2,bo,sl,GA,gn,gc,MA,mn,mc,FA,fn,fc,M,F,ar⟩ S wr L #[.int .i64 5,.string ⟨#[]⟩,.int .i64 0,.int .i64 0,.string ⟨#[]⟩,.slice none 0 0,.string ⟨#[]⟩,.slice none 0 0,.slice none 0 0,.slice none 0 0,.slice none 0 0] wr):=ad ⟨bQ.1,bQ.2.2,LL⟩;clear a0 ap aj a3 am aJ d0 af aS;generalize bj:IntKind.u8.wrap (IntKind.i64.wrap (97+(L:Int)))=r;generalize bn:IntKind.u8.wrap (IntKind.i64.wrap (97+Int.tmod (IntKind.i64.wrap 0) 26))=t;have aO:=ah bj bn;clear bj bn;have bC:(strOf [byteOf r,byteOf t]).size=2:=aH _;refine qW (P:=?pw) (ops:=?H2) (Q:=?H4) (R:=?H6) (tails:=?H9) (rest:=.free 25 (.pick [26] (λ_=>.stop))) (aa:=?H0)
  (C:=λ(aZ:Nat) (Y:Value) dG=>∃(z:VE) (cx:LP) (cp zc:Nat),Y=.agg #[.int .i64 z.aZ,.int .i64 z.numOf,.string z.bk,.slice cx cp zc]/\ra ⟨s,wb,sA,b2,bo,sl,GA,gn,gc,MA,mn,mc,FA,fn,fc,M,F,ar⟩ S wr L #[.int .i64 1,.string ⟨#[]⟩,.int .i64 z.aZ,.int .i64 z.numOf,.string z.bk,.slice cx cp zc,.string ⟨#[]⟩,.slice none 0 0,.slice none 0 0,.slice none 0 0,.slice none 0 0] dG/\Sl dG (λb=>S.heap.size<b/\b<dG.heap.size) cx cp (z.args.map bf)/\z.src bg 2/\cp<=zc) (λkey=>?yV) ?yO
 case yV=>
  refine bt ?_ ?_
  ·
   refine aG rfl (λK hK=>?_) rfl;go_simp;refine(jP ⟨s,wb,sA,b2,bo,sl,GA,gn,gc,MA,mn,mc,FA,fn,fc,M,F,ar⟩ L bg au bd a8 _ ((U.c.aj a6 (LL.drew)).wr aK.1) ((Sl.cS aK.2.2.2.2.1 (U.c.aj a6 (LL.drew)).fr).mono λb O=>⟨O.1,λh=>O.2 (.inl h)⟩) ab).mono ?_;rintro e v1 ⟨x,cu,cr,cD,rfl,hx,aF,bX,h,he⟩
   try simp only at h he
   have aq:Fr (λb=>b=s) wr v1:=Fr.aQ he;have I:=ad (U.call a6 cb h aq);have aR:=ah hx aF;have aV:=ad ((bX.mono λb O=>(⟨by have:=U.s.lt;have:=O.1;have:wr.drew.heap.size=wr.heap.size:=rfl;omega,O.2⟩:S.heap.size<b/\b<v1.heap.size)));refine ei hK (he.mono λ_ h=>.inl h) ?_;clear hK K;clear hx aF bX h he aq;refine bt ?_ ?_
   ·
    refine fj ?_;refine bm (λV=>Ext v1 V/\an V v1.heap.size 5 #[.int .u8 r,.int .u8 t]) ⟨LL.alloc _,LM⟩ (λv2 hV=>?_);have a7:=ad (I.aj a6 hV.1);have aP:=ad hV.2;have c5:S.heap.size<v1.heap.size:=I.s.lt;have bZ:=ad ((aV.ai λb O=>hV.1.block b O.2 λh=>h).mono λb O=>(⟨O.1,Lc O.2 hV.1.size⟩:S.heap.size<b/\b<v2.heap.size));clear hV;obtain⟨e0,bk,a5⟩:=aP.two;refine b3 (v:=?_) rfl (by rfl) (λV hV=>?_) ?_;rotate_left
    .have bU:=mK V v1.heap.size r t ((hV.cell a5 ab).trans (e0 0)) ((hV.cell a5 ab).trans (e0 1))
     (go_simp<;>with_reducible rfl)
    try simp only[PU]
    clear e0 bk a5;refine tf ?_;refine ao ?_;obtain⟨d0,af,aS⟩:=a7.s.two;refine aG rfl (λK hK=>?_) rfl;go_simp;refine ei hK (LL.setCell (.inl (.inr rfl)) _) ?_;clear hK K;refine bm (λV=>ra ⟨s,wb,sA,b2,bo,sl,GA,gn,gc,MA,mn,mc,FA,fn,fc,M,F,ar⟩ S wr L #[.int .i64 1,.string ⟨#[]⟩,.int .i64 0,.int .i64 0,.string ⟨#[]⟩,.slice none 0 0,.string ⟨#[]⟩,.slice none 0 0,.slice none 0 0,.slice none 0 0,.slice none 0 0] V/\Fr (λb=>b=S.heap.size) v2 V) ⟨by exact a7.aD aK.1 0 _,by exact(Fr.refl (λb=>b=S.heap.size) v2).setCell (.inl rfl) _⟩ (λbz hV=>?_);have bb:=ad hV.1;have b0:=ad ((bZ.ai λb O=>hV.2.block b O.2 (aC O.1)).mono λb O=>(⟨O.1,Lc O.2 hV.2.size⟩:S.heap.size<b/\b<bz.heap.size));have bV:=ad (aP.on hV.2 ab);clear hV d0 af aS;refine tf ?_;refine ao ?_;obtain⟨d0,af,aS⟩:=bb.s.two;refine aG rfl (λK hK=>?_) rfl;go_simp;refine ei hK ((((LL.setCell (.inl (.inr rfl)) _).setCell (.inl (.inr rfl)) _).setCell (.inl (.inr rfl)) _).setCell (.inl (.inr rfl)) _) ?_;clear hK K;refine bm (λV=>ra ⟨s,wb,sA,b2,bo,sl,GA,gn,gc,MA,mn,mc,FA,fn,fc,M,F,ar⟩ S wr L #[.int .i64 1,.string ⟨#[]⟩,.int .i64 x.aZ,.int .i64 x.numOf,.string x.bk,.slice cu cr cD,.string ⟨#[]⟩,.slice none 0 0,.slice none 0 0,.slice none 0 0,.slice none 0 0] V/\Fr (λb=>b=S.heap.size) bz V) ⟨by exact(((bb.aD aK.1 2 _).aD aK.1 3 _).aD aK.1 4 _).aD aK.1 5 _,by exact((((Fr.refl (λb=>b=S.heap.size) bz).setCell (.inl rfl) _).setCell (.inl rfl) _).setCell (.inl rfl) _).setCell (.inl rfl) _⟩ (λv4 hV=>?_)
    have cd:=ad hV.1;have b1:=ad ((b0.ai λb O=>hV.2.block b O.2 (aC O.1)).mono λb O=>(⟨O.1,Lc O.2 hV.2.size⟩:S.heap.size<b/\b<v4.heap.size));have cs:=ad (bV.on hV.2 ab);clear hV d0 af aS;have aE:=And.intro cd.o (And.intro b1.o aR.o);have av:∃(z:VE) (cx:LP) (cp zc:Nat),(Value.agg #[.int .i64 x.aZ,.int .i64 x.numOf,.string x.bk,.slice cu cr cD])=.agg #[.int .i64 z.aZ,.int .i64 z.numOf,.string z.bk,.slice cx cp zc]/\ra ⟨s,wb,sA,b2,bo,sl,GA,gn,gc,MA,mn,mc,FA,fn,fc,M,F,ar⟩ S wr L #[.int .i64 1,.string ⟨#[]⟩,.int .i64 z.aZ,.int .i64 z.numOf,.string z.bk,.slice cx cp zc,.string ⟨#[]⟩,.slice none 0 0,.slice none 0 0,.slice none 0 0,.slice none 0 0] v4/\Sl v4 (λb=>S.heap.size<b/\b<v4.heap.size) cx cp (z.args.map bf)/\z.src bg 2/\cp<=zc:=⟨x,cu,cr,cD,rfl,aE⟩
    revert av;generalize v1.heap.size=aZ;exact xx
   ·
    obtain⟨d0,af,aS⟩:=I.s.two;refine aG rfl (λK hK=>?_) rfl;go_simp;refine ei hK (LL.setCell (.inl (.inr rfl)) _) ?_;clear hK K;refine bm (λV=>ra ⟨s,wb,sA,b2,bo,sl,GA,gn,gc,MA,mn,mc,FA,fn,fc,M,F,ar⟩ S wr L #[.int .i64 1,.string ⟨#[]⟩,.int .i64 0,.int .i64 0,.string ⟨#[]⟩,.slice none 0 0,.string ⟨#[]⟩,.slice none 0 0,.slice none 0 0,.slice none 0 0,.slice none 0 0] V/\Fr (λb=>b=S.heap.size) v1 V) ⟨by exact I.aD aK.1 0 _,by exact(Fr.refl (λb=>b=S.heap.size) v1).setCell (.inl rfl) _⟩ (λbi hV=>?_);have W:=ad hV.1;have a2:=ad ((aV.ai λb O=>hV.2.block b O.2 (aC O.1)).mono λb O=>(⟨O.1,Lc O.2 hV.2.size⟩:S.heap.size<b/\b<bi.heap.size));clear hV d0 af aS;refine tf ?_;refine bt ?_ ?_
    ·
     refine fj ?_;refine bm (λV=>Ext bi V/\an V bi.heap.size 5 #[.int .u8 r,.int .u8 t]) ⟨LL.alloc _,LM⟩ (λv6 hV=>?_);have be:=ad (W.aj a6 hV.1);have aT:=ad hV.2;have c5:S.heap.size<bi.heap.size:=W.s.lt;have b6:=ad ((a2.ai λb O=>hV.1.block b O.2 λh=>h).mono λb O=>(⟨O.1,Lc O.2 hV.1.size⟩:S.heap.size<b/\b<v6.heap.size));clear hV;obtain⟨e0,bk,a5⟩:=aT.two;refine b3 (v:=?_) rfl (by rfl) (λV hV=>?_) ?_;rotate_left
     .have bU:=mK V bi.heap.size r t ((hV.cell a5 ab).trans (e0 0)) ((hV.cell a5 ab).trans (e0 1))
      (go_simp<;>with_reducible rfl)
     try simp only[PU]
     clear e0 bk a5;refine tf ?_;refine ao ?_;obtain⟨d0,af,aS⟩:=be.s.two;refine aG rfl (λK hK=>?_) rfl;go_simp;refine ei hK ((((LL.setCell (.inl (.inr rfl)) _).setCell (.inl (.inr rfl)) _).setCell (.inl (.inr rfl)) _).setCell (.inl (.inr rfl)) _) ?_;clear hK K;refine bm (λV=>ra ⟨s,wb,sA,b2,bo,sl,GA,gn,gc,MA,mn,mc,FA,fn,fc,M,F,ar⟩ S wr L #[.int .i64 1,.string ⟨#[]⟩,.int .i64 x.aZ,.int .i64 x.numOf,.string x.bk,.slice cu cr cD,.string ⟨#[]⟩,.slice none 0 0,.slice none 0 0,.slice none 0 0,.slice none 0 0] V/\Fr (λb=>b=S.heap.size) v6 V) ⟨by exact(((be.aD aK.1 2 _).aD aK.1 3 _).aD aK.1 4 _).aD aK.1 5 _,by exact((((Fr.refl (λb=>b=S.heap.size) v6).setCell (.inl rfl) _).setCell (.inl rfl) _).setCell (.inl rfl) _).setCell (.inl rfl) _⟩ (λbM hV=>?_);have ci:=ad hV.1;have b9:=ad ((b6.ai λb O=>hV.2.block b O.2 (aC O.1)).mono λb O=>(⟨O.1,Lc O.2 hV.2.size⟩:S.heap.size<b/\b<bM.heap.size));have cv:=ad (aT.on hV.2 ab);clear hV d0 af aS;have aE:=And.intro ci.o (And.intro b9.o aR.o)
     have av:∃(z:VE) (cx:LP) (cp zc:Nat),(Value.agg #[.int .i64 x.aZ,.int .i64 x.numOf,.string x.bk,.slice cu cr cD])=.agg #[.int .i64 z.aZ,.int .i64 z.numOf,.string z.bk,.slice cx cp zc]/\ra ⟨s,wb,sA,b2,bo,sl,GA,gn,gc,MA,mn,mc,FA,fn,fc,M,F,ar⟩ S wr L #[.int .i64 1,.string ⟨#[]⟩,.int .i64 z.aZ,.int .i64 z.numOf,.string z.bk,.slice cx cp zc,.string ⟨#[]⟩,.slice none 0 0,.slice none 0 0,.slice none 0 0,.slice none 0 0] bM/\Sl bM (λb=>S.heap.size<b/\b<bM.heap.size) cx cp (z.args.map bf)/\z.src bg 2/\cp<=zc:=⟨x,cu,cr,cD,rfl,aE⟩
     revert av;generalize bi.heap.size=aZ;exact xx
    ·
     obtain⟨d0,af,aS⟩:=W.s.two;refine aG rfl (λK hK=>?_) rfl;go_simp;refine ei hK ((((LL.setCell (.inl (.inr rfl)) _).setCell (.inl (.inr rfl)) _).setCell (.inl (.inr rfl)) _).setCell (.inl (.inr rfl)) _) ?_;clear hK K;refine bm (λV=>ra ⟨s,wb,sA,b2,bo,sl,GA,gn,gc,MA,mn,mc,FA,fn,fc,M,F,ar⟩ S wr L #[.int .i64 1,.string ⟨#[]⟩,.int .i64 x.aZ,.int .i64 x.numOf,.string x.bk,.slice cu cr cD,.string ⟨#[]⟩,.slice none 0 0,.slice none 0 0,.slice none 0 0,.slice none 0 0] V/\Fr (λb=>b=S.heap.size) bi V) ⟨by exact(((W.aD aK.1 2 _).aD aK.1 3 _).aD aK.1 4 _).aD aK.1 5 _,by exact((((Fr.refl (λb=>b=S.heap.size) bi).setCell (.inl rfl) _).setCell (.inl rfl) _).setCell (.inl rfl) _).setCell (.inl rfl) _⟩ (λbN hV=>?_);have bh:=ad hV.1;have ca:=ad ((a2.ai λb O=>hV.2.block b O.2 (aC O.1)).mono λb O=>(⟨O.1,Lc O.2 hV.2.size⟩:S.heap.size<b/\b<bN.heap.size));clear hV d0 af aS;refine ao ?_;refine fj ?_;refine bm (λV=>Ext bN V/\an V bN.heap.size 5 #[.int .u8 r,.int .u8 t]) ⟨LL.alloc _,LM⟩ (λbA hV=>?_);have ck:=ad (bh.aj a6 hV.1);have bW:=ad hV.2;have c5:S.heap.size<bN.heap.size:=bh.s.lt;have cc:=ad ((ca.ai λb O=>hV.1.block b O.2 λh=>h).mono λb O=>(⟨O.1,Lc O.2 hV.1.size⟩:S.heap.size<b/\b<bA.heap.size));clear hV;obtain⟨e0,bk,a5⟩:=bW.two;refine b3 (v:=?_) rfl (by rfl) (λV hV=>?_) ?_;rotate_left
     .have bU:=mK V bN.heap.size r t ((hV.cell a5 ab).trans (e0 0)) ((hV.cell a5 ab).trans (e0 1))
      (go_simp<;>with_reducible rfl)
     try simp only[PU]
     clear e0 bk a5;refine tf ?_;have aE:=And.intro ck.o (And.intro cc.o aR.o);have av:∃(z:VE) (cx:LP) (cp zc:Nat),(Value.agg #[.int .i64 x.aZ,.int .i64 x.numOf,.string x.bk,.slice cu cr cD])=.agg #[.int .i64 z.aZ,.int .i64 z.numOf,.string z.bk,.slice cx cp zc]/\ra ⟨s,wb,sA,b2,bo,sl,GA,gn,gc,MA,mn,mc,FA,fn,fc,M,F,ar⟩ S wr L #[.int .i64 1,.string ⟨#[]⟩,.int .i64 z.aZ,.int .i64 z.numOf,.string z.bk,.slice cx cp zc,.string ⟨#[]⟩,.slice none 0 0,.slice none 0 0,.slice none 0 0,.slice none 0 0] bA/\Sl bA (λb=>S.heap.size<b/\b<bA.heap.size) cx cp (z.args.map bf)/\z.src bg 2/\cp<=zc:=⟨x,cu,cr,cD,rfl,aE⟩
     revert av;generalize bN.heap.size=aZ;exact xx
  ·
   refine fj ?_;refine bm (λV=>Ext wr V/\an V wr.heap.size 5 #[.int .u8 r,.int .u8 t]) ⟨(LL.alloc _).drew,LM⟩ (λv10 hV=>?_);have k:=ad (U.aj a6 hV.1);have Z:=ad hV.2;have c5:S.heap.size<wr.heap.size:=U.s.lt;clear hV;obtain⟨e0,bk,a5⟩:=Z.two;refine b3 (v:=?_) rfl (by rfl) (λV hV=>?_) ?_;rotate_left
   .have bU:=mK V wr.heap.size r t ((hV.cell a5 ab).trans (e0 0)) ((hV.cell a5 ab).trans (e0 1))
    (go_simp<;>with_reducible rfl)
   try simp only[PU]
   clear e0 bk a5;refine tf ?_;refine ao ?_;refine aG rfl (λK hK=>?_) rfl;go_simp;refine(jP ⟨s,wb,sA,b2,bo,sl,GA,gn,gc,MA,mn,mc,FA,fn,fc,M,F,ar⟩ L bg au bd a8 _ ((k.c.aj a6 LL).wr aK.1) ((Sl.cS aK.2.2.2.2.1 (k.c.aj a6 LL).fr).mono λb O=>⟨O.1,λh=>O.2 (.inl h)⟩) ab).mono ?_;rintro e v11 ⟨x,cu,cr,cD,rfl,hx,aF,bX,h,he⟩
   try simp only at h he
   have u:Fr (λb=>b=s) v10 v11:=he;have ac:=ad (k.call a6 cb h u);have aR:=ah hx aF;have bG:=ad ((bX.mono λb O=>(⟨by have:=k.s.lt;have:=O.1;omega,O.2⟩:S.heap.size<b/\b<v11.heap.size)));have bs:=ad (Z.on u ab);refine ei hK (he.mono λ_ h=>.inl h) ?_;clear hK K;clear hx aF bX h he u;refine ao ?_;obtain⟨d0,af,aS⟩:=ac.s.two;refine aG rfl (λK hK=>?_) rfl;go_simp;refine ei hK (LL.setCell (.inl (.inr rfl)) _) ?_;clear hK K;refine bm (λV=>ra ⟨s,wb,sA,b2,bo,sl,GA,gn,gc,MA,mn,mc,FA,fn,fc,M,F,ar⟩ S wr L #[.int .i64 1,.string ⟨#[]⟩,.int .i64 0,.int .i64 0,.string ⟨#[]⟩,.slice none 0 0,.string ⟨#[]⟩,.slice none 0 0,.slice none 0 0,.slice none 0 0,.slice none 0 0] V/\Fr (λb=>b=S.heap.size) v11 V) ⟨by exact ac.aD aK.1 0 _,by exact(Fr.refl (λb=>b=S.heap.size) v11).setCell (.inl rfl) _⟩ (λbS hV=>?_);have ag:=ad hV.1;have bJ:=ad ((bG.ai λb O=>hV.2.block b O.2 (aC O.1)).mono λb O=>(⟨O.1,Lc O.2 hV.2.size⟩:S.heap.size<b/\b<bS.heap.size));have bF:=ad (bs.on hV.2 ab);clear hV d0 af aS;refine tf ?_;refine ao ?_;obtain⟨d0,af,aS⟩:=ag.s.two;refine aG rfl (λK hK=>?_) rfl;go_simp;refine ei hK ((((LL.setCell (.inl (.inr rfl)) _).setCell (.inl (.inr rfl)) _).setCell (.inl (.inr rfl)) _).setCell (.inl (.inr rfl)) _) ?_;clear hK K
   refine bm (λV=>ra ⟨s,wb,sA,b2,bo,sl,GA,gn,gc,MA,mn,mc,FA,fn,fc,M,F,ar⟩ S wr L #[.int .i64 1,.string ⟨#[]⟩,.int .i64 x.aZ,.int .i64 x.numOf,.string x.bk,.slice cu cr cD,.string ⟨#[]⟩,.slice none 0 0,.slice none 0 0,.slice none 0 0,.slice none 0 0] V/\Fr (λb=>b=S.heap.size) bS V) ⟨by exact(((ag.aD aK.1 2 _).aD aK.1 3 _).aD aK.1 4 _).aD aK.1 5 _,by exact((((Fr.refl (λb=>b=S.heap.size) bS).setCell (.inl rfl) _).setCell (.inl rfl) _).setCell (.inl rfl) _).setCell (.inl rfl) _⟩ (λaX hV=>?_);have bP:=ad hV.1;have bO:=ad ((bJ.ai λb O=>hV.2.block b O.2 (aC O.1)).mono λb O=>(⟨O.1,Lc O.2 hV.2.size⟩:S.heap.size<b/\b<aX.heap.size));have cn:=ad (bF.on hV.2 ab);clear hV d0 af aS;have aE:=And.intro bP.o (And.intro bO.o aR.o);have av:∃(z:VE) (cx:LP) (cp zc:Nat),(Value.agg #[.int .i64 x.aZ,.int .i64 x.numOf,.string x.bk,.slice cu cr cD])=.agg #[.int .i64 z.aZ,.int .i64 z.numOf,.string z.bk,.slice cx cp zc]/\ra ⟨s,wb,sA,b2,bo,sl,GA,gn,gc,MA,mn,mc,FA,fn,fc,M,F,ar⟩ S wr L #[.int .i64 1,.string ⟨#[]⟩,.int .i64 z.aZ,.int .i64 z.numOf,.string z.bk,.slice cx cp zc,.string ⟨#[]⟩,.slice none 0 0,.slice none 0 0,.slice none 0 0,.slice none 0 0] aX/\Sl aX (λb=>S.heap.size<b/\b<aX.heap.size) cx cp (z.args.map bf)/\z.src bg 2/\cp<=zc:=⟨x,cu,cr,cD,rfl,aE⟩
   revert av;generalize wr.heap.size=aZ;exact xx
 case yO=>
  rintro aZ Y cA ⟨z,cx,cp,zc,rfl,ai,cY,ba,bL⟩;obtain⟨d0,af,aS⟩:=ai.s.two;refine tf ?_;exact hk
 ):p:=h
end B6
open B6 in
theorem HN(d bd:Nat):SK 7 d bd:=by
 exact l0
namespace B7
theorem jU{p:Prop}(h:p:=by
 generalize hX:World.setCell _ _ _=X;have J:Fr (λb=>b=S.heap.size) aV X:=hX▸((((((Fr.refl (λb=>b=S.heap.size) aV).setCell (.inl rfl) _).setCell (.inl rfl) _).setCell (.inl rfl) _).setCell (.inl rfl) _).setCell (.inl rfl) _).setCell (.inl rfl) _;have aH:an X S.heap.size 188 #[.int .i64 2,.string nm,.int .i64 x.aZ,.int .i64 x.numOf,.string x.bk,.slice cu cr cD,.string ⟨#[]⟩,.slice none 0 0,.slice none 0 0,.slice none 0 0,.slice none 0 0]:=hX▸(((((aZ.2.1.aD 0 _).aD 1 _).aD 2 _).aD 3 _).aD 4 _).aD 5 _;clear hX d0 af aS;go_wp2_with(fail);obtain⟨ak,_,hx,aF,bX,bv⟩:=aZ.o;have bP:=J.size;have bm:=bQ.2.2.lt
 try refine hN _ _ ?_
 unfold lZ;apply Exists.intro
 refine⟨bd,a8,bx,on,bp,?_⟩
 iterate 240 apply Exists.intro
 refine⟨?_,rfl⟩;exact gR.simple (st:=.set false nm x) ⟨s,wb,sA,b2,bo,sl,GA,gn,gc,MA,mn,mc,FA,fn,fc,M,F,ar⟩ bl B eT bE d ps V T ls N L az aY QA cg qc bT aK.1 bY dD aK.2.2.2.1 ch.1 eX c2 aN (ak.fresh aK.1 J λb O=>ab) aH (et (aW.2 ⟨cu,cr,cD,rfl,aF,(bX.ai λb O=>J.block b O.2 (aC O.1)).mono λb O=>⟨by have:=O.1;omega,by have:=O.2;omega⟩⟩) kU (Sl.bN _) (Lb _) (Sl.bN _) (Lb _) (Sl.bN _) (Lb _)) ⟨ch.1 dL.o,dF ch.1 2 x hx⟩ (λn hn=>by simp[ax.all] at hn) (by simp only[ax.num];omega) (Lb _) bu.2.2 aK.2.1
 ):p:=h
theorem l1{p:Prop}(h:p:=by
 have o:(0:Int)<(bd:Int):=ab;have cy:¬(wb=s\/wb=S.heap.size):=ab;go_upto_region 22 with(fail);refine eU (λb=>b=s\/b=S.heap.size) [(0,3),(1,3),(2,3),(3,3),(4,0),(5,3),(6,3),(10,3),(11,3),(13,3),(7,1),(8,3),(9,0),(12,1),(14,1),(15,3),(16,2),(17,3),(18,2)] ?_
 iterate 4 refine pf ?_
 refine qF ?_
 iterate 5 refine pf ?_
 refine aO rfl (λK hK=>?_);go_simp;refine(aX wr.drew s sA b2 bo sl bd (bQ.1.aj a6 LL.drew).src ab ab).mono ?_;rintro e aP ⟨cd,rfl,a2,bL,h,he⟩;obtain⟨j,rfl⟩:=Lg a2;have ag:Fr (λb=>b=s) wr aP:=Fr.aQ he.fr;have u:=bQ.1.next a6 h ag;obtain⟨i,t,nm,cs,g,O,hm,aQ,bi,hc⟩:=Sl.gZ (z:=1) aK.2.2.2.2.1 (λ_=>rfl) (k:=j) ab;subst g;obtain rfl:=uN.1 aQ;have c0:=(u.fr.cell O.1 O.2).trans (hc 0 _ rfl);simp only[Nat.mul_one,Ll] at c0;have r:¬(i=s\/i=S.heap.size):=λh=>by
  rcases h with h|h
  .exact O.2 (.inl h)
  .have:=O.1;omega
 have m:i<aP.heap.size:=by have:=u.fr.size;have:=O.1;omega
 have b9:(0:Int)<=(j:Int):=ab;have f0:(j:Int)<(bd:Int):=ab;have dL:=ad (Le hm);have H1:=ah u (bQ.2.2.on ag ab);have b6:=ag.size;refine ei hK (he.fr.mono λ_ h=>.inl h) ?_;clear hK K;clear a0 ap aj a3 am aJ d0 af aS aQ bi hc hm h he ag u O a2 bL;refine pf ?_;refine Kw ?_;refine aO rfl (λK hK=>?_);go_simp;refine(jP ⟨s,wb,sA,b2,bo,sl,GA,gn,gc,MA,mn,mc,FA,fn,fc,M,F,ar⟩ L bg _ bd a8 aP (H1.1.wr aK.1) ((Sl.cS aK.2.2.2.2.1 H1.1.fr).mono λb O=>⟨O.1,λh=>O.2 (.inl h)⟩) ab).mono ?_;rintro e aV ⟨x,cu,cr,cD,rfl,hx,aF,bX,h,he⟩;simp only at h he;have l:=H1.2.on he ab;have aZ:=ej (H1.1.next a6 h he) l hx aF bX he.size;obtain⟨d0,af,aS⟩:=l.two;refine ei hK (he.mono λ_ h=>.inl h) ?_;clear hK K;clear l hx aF bX h he c0;refine aO rfl (λK hK=>?_);go_simp;refine ei hK (LL.setCell (.inl (.inr rfl)) _) ?_;clear hK K;refine pf ?_;exact vQ
 ):p:=h
end B7
open B7 in
theorem HM(d bd:Nat)(bJ:0<bd):SK 8 d bd:=by
 exact l0
end Go.Proofs.YtflecliffjbleaaGreat
